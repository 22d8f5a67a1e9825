/- The texts VlW, VlY, VlZ, Vl20, Vl21, Vl22, Vl23, Vl24, Vl25, Vl26, VlV of this claim, put together in their order. No condition of their own. -/
import Derived.Test.YtdlendioamiagaaDoorQ1
import Derived.Test.YtdlendioamiagaaDoorQ7
import Derived.Test.YtdlendioamiagaaDoorQ4
import Derived.Stop.LaidErr
import Derived.Lay
import Derived.MakeChecks
import Derived.RowKitTokens
import Derived.Lib.LaidU8T
/- Values of properties, plain: a value read from bytes. -/
namespace Go.Vl
open Go Go.Gw
set_option linter.unusedVariables false
set_option linter.unusedSimpArgs false
/-- The number that bytes begin with (i groups of seven bits stand ahead), and how many they are. -/
def rd : Nat → List UInt8 → Option (Nat × Nat)
  | _, [] => none
  | i, x :: l => if (i = 9 ∧ 1 < x.toNat) ∨ (0 < i ∧ x.toNat = 0) then none else if x.toNat < 128 then some (x.toNat, 1) else (rd (i + 1) l).map fun p => (x.toNat - 128 + 128 * p.1, p.2 + 1)
theorem rd_none {i : Nat} {x : UInt8} {l : List UInt8} (h : (i = 9 ∧ 1 < x.toNat) ∨ (0 < i ∧ x.toNat = 0)) : rd i (x :: l) = none := by rw [rd, if_pos h]
theorem rd_last {i : Nat} {x : UInt8} {l : List UInt8} (h : ¬ ((i = 9 ∧ 1 < x.toNat) ∨ (0 < i ∧ x.toNat = 0))) (h1 : x.toNat < 128) : rd i (x :: l) = some (x.toNat, 1) := by rw [rd, if_neg h, if_pos h1]
theorem rd_more {i : Nat} {x : UInt8} {l : List UInt8} (h : ¬ ((i = 9 ∧ 1 < x.toNat) ∨ (0 < i ∧ x.toNat = 0))) (h1 : ¬ x.toNat < 128) : rd i (x :: l) = (rd (i + 1) l).map fun p => (x.toNat - 128 + 128 * p.1, p.2 + 1) := by rw [rd, if_neg h, if_neg h1]
theorem ofNat_lt {n : Nat} (h : n < 256) : (UInt8.ofNat n).toNat = n := by rw [UInt8.toNat_ofNat']; omega
/-- What is written is read, whatever stands behind. -/
theorem rd_varint : ∀ (k i n : Nat) (r : List UInt8), i + k = 9 → n < 2 ^ (7 * k + 1) → (0 < i → 0 < n) → rd i (varint n ++ r) = some (n, (varint n).length)
  | k, i, n, r, hik, hn, hi => by
    by_cases h : n < 128
    · rw [varint_small h, List.singleton_append, rd_last]
      · rw [ofNat_lt (by omega)]; rfl
      · rw [ofNat_lt (by omega)]
        rintro (⟨h1, h2⟩ | ⟨h1, h2⟩)
        · have : k = 0 := by omega
          subst this
          simp at hn; omega
        · have := hi h1; omega
      · rw [ofNat_lt (by omega)]; exact h
    · cases k with
      | zero => simp at hn; omega
      | succ k =>
        have e := ofNat_lt (n := n % 128 + 128) (by omega)
        have hp : 2 ^ (7 * (k + 1) + 1) = 128 * 2 ^ (7 * k + 1) := by rw [show 7 * (k + 1) + 1 = 7 * k + 1 + 7 from by omega, Nat.pow_add]; omega
        rw [varint_big h, List.cons_append, rd_more (by rw [e]; omega) (by rw [e]; omega), e, rd_varint k (i + 1) (n / 128) r (by omega) (by omega) (by omega)]
        refine congrArg some (Prod.ext ?_ ?_)
        · show n % 128 + 128 - 128 + 128 * (n / 128) = n
          omega
        · show _ = _
          rw [List.length_cons]
/-- What is read was written so. -/
theorem rd_says : ∀ (k i : Nat) (l : List UInt8) (n c : Nat), i + k = 9 → rd i l = some (n, c) → n < 2 ^ (7 * k + 1) ∧ (0 < i → 0 < n) ∧ ∃ r, l = varint n ++ r ∧ c = (varint n).length
  | k, i, [], n, c, hik, h => by cases h
  | k, i, x :: l, n, c, hik, h => by
    by_cases h1 : (i = 9 ∧ 1 < x.toNat) ∨ (0 < i ∧ x.toNat = 0)
    · rw [rd_none h1] at h; cases h
    · by_cases h2 : x.toNat < 128
      · rw [rd_last h1 h2] at h
        cases h
        have hx : UInt8.ofNat x.toNat = x := by simp
        refine ⟨?_, fun h3 => by omega, l, by rw [varint_small h2, hx]; rfl, by rw [varint_small h2]; rfl⟩
        cases k with
        | zero => simp; omega
        | succ k =>
          have hp : 2 ^ (7 * (k + 1) + 1) = 256 * 2 ^ (7 * k) := by rw [show 7 * (k + 1) + 1 = 7 * k + 8 from by omega, Nat.pow_add]; omega
          have : 0 < 2 ^ (7 * k) := Nat.two_pow_pos _
          omega
      · rw [rd_more h1 h2] at h
        cases k with
        | zero =>
          exfalso
          have : x.toNat ≤ 1 := by omega
          omega
        | succ k =>
          cases hr : rd (i + 1) l with
          | none => rw [hr] at h; cases h
          | some p =>
            rw [hr] at h
            obtain ⟨a1, a2, r, a3, a4⟩ := rd_says k (i + 1) l p.1 p.2 (by omega) hr
            have hb := x.toNat_lt
            have a5 := a2 (by omega)
            cases h
            have hp : 2 ^ (7 * (k + 1) + 1) = 128 * 2 ^ (7 * k + 1) := by rw [show 7 * (k + 1) + 1 = 7 * k + 1 + 7 from by omega, Nat.pow_add]; omega
            have e1 : (x.toNat - 128 + 128 * p.1) / 128 = p.1 := by omega
            have e2 : (x.toNat - 128 + 128 * p.1) % 128 + 128 = x.toNat := by omega
            have hx : UInt8.ofNat x.toNat = x := by simp
            refine ⟨by omega, fun _ => by omega, r, ?_, ?_⟩
            · rw [varint_big (by omega), e1, e2, hx, a3]; rfl
            · rw [varint_big (by omega), e1, List.length_cons, ← a4]
theorem rd_back {n : Nat} (h : n < 18446744073709551616) (r : List UInt8) : rd 0 (varint n ++ r) = some (n, (varint n).length) := rd_varint 9 0 n r rfl h (by omega)
theorem rd_is {l : List UInt8} {n c : Nat} (h : rd 0 l = some (n, c)) : n < 18446744073709551616 ∧ ∃ r, l = varint n ++ r ∧ c = (varint n).length := by
  obtain ⟨a, _, b⟩ := rd_says 9 0 l n c rfl h
  exact ⟨a, b⟩
/-- A number of its zigzag form. -/
def unzig (n : Nat) : Int := if n % 2 = 1 then -((n / 2 : Nat) : Int) - 1 else ((n / 2 : Nat) : Int)
theorem unzig_zig (i : Int) : unzig (zig i) = i := by
  unfold unzig zig
  split <;> split <;> omega
/-! ### bits -/
set_option maxRecDepth 40000 in
theorem and127_tab : ∀ x : Fin 256, bitsV .and .u8 ((x.val : Nat) : Int) 127 = ((x.val % 128 : Nat) : Int) := by decide
theorem and127 {x : Nat} (h : x < 256) : bitsV .and .u8 (x : Int) 127 = ((x % 128 : Nat) : Int) := and127_tab ⟨x, h⟩
theorem or_put {n i x : Nat} (hi : i ≤ 9) (h9 : i = 9 → x ≤ 1) (hn : n < 2 ^ (7 * i)) (hx : x < 128) : bitsV .or .u64 (n : Int) (IntKind.u64.wrap ((x : Int) * 2 ^ min (Int.toNat (7 * (i : Int))) IntKind.u64.bits)) = ((n + 2 ^ (7 * i) * x : Nat) : Int) ∧ n + 2 ^ (7 * i) * x < 18446744073709551616 ∧ n + 2 ^ (7 * i) * x < 2 ^ (7 * (i + 1)) := by
  have hb : 2 ^ (7 * i) * x + 2 ^ (7 * i) ≤ 18446744073709551616 := by
    by_cases h : i = 9
    · subst h
      have := h9 rfl
      have e : (2 : Nat) ^ (7 * 9) = 9223372036854775808 := by decide
      rw [e]
      have : 9223372036854775808 * x ≤ 9223372036854775808 * 1 := Nat.mul_le_mul_left _ this
      omega
    · have e1 : 2 ^ (7 * i) * (x + 1) ≤ 2 ^ (7 * i) * 128 := Nat.mul_le_mul_left _ (by omega)
      have e2 : 2 ^ (7 * i) ≤ 2 ^ (7 * 8) := Nat.pow_le_pow_right (by omega) (by omega)
      have e3 : (2 : Nat) ^ (7 * 8) = 72057594037927936 := by decide
      rw [Nat.mul_add] at e1
      omega
  have hp : 0 < 2 ^ (7 * i) := Nat.two_pow_pos _
  have h2 : 2 ^ (7 * (i + 1)) = 2 ^ (7 * i) * 128 := by rw [Nat.mul_add 7 i 1, Nat.pow_add]
  have e1 : 2 ^ (7 * i) * (x + 1) ≤ 2 ^ (7 * i) * 128 := Nat.mul_le_mul_left _ (by omega)
  rw [Nat.mul_add] at e1
  have ew : IntKind.u64.wrap ((x : Int) * 2 ^ min (Int.toNat (7 * (i : Int))) IntKind.u64.bits) = ((2 ^ (7 * i) * x : Nat) : Int) := by
    rw [show min (Int.toNat (7 * (i : Int))) IntKind.u64.bits = 7 * i from by show min _ 64 = _; omega]
    have e : (x : Int) * 2 ^ (7 * i) = ((2 ^ (7 * i) * x : Nat) : Int) := by rw [Nat.mul_comm (2 ^ (7 * i)) x]; push_cast; rfl
    rw [e]
    exact wrap64 (by omega) (by omega)
  refine ⟨?_, by omega, by omega⟩
  rw [ew, or64 (by omega) (by omega), Nat.or_comm, ← Nat.two_pow_add_eq_or_of_lt hn, Nat.add_comm]
theorem and1 {n : Nat} (h : n < 18446744073709551616) : bitsV .and .u64 (n : Int) 1 = ((n % 2 : Nat) : Int) := by
  have := and64 (x := n) (y := 1) h (by decide)
  rw [Nat.and_one_is_mod] at this
  exact this
theorem shr1 (n : Nat) : (n : Int).fdiv (2 ^ min (Int.toNat 1) IntKind.u64.bits) = ((n / 2 : Nat) : Int) := by
  rw [show (2 : Int) ^ min (Int.toNat 1) IntKind.u64.bits = 2 from rfl, Int.fdiv_eq_ediv_of_nonneg _ (by decide)]
  omega
theorem xor_i64 {a : Nat} (h : a < 9223372036854775808) : bitsV .xor .i64 (a : Int) 0 = (a : Int) ∧ bitsV .xor .i64 (a : Int) (-1) = -(a : Int) - 1 := by
  have w : ∀ x : Int, IntKind.i64.wrap x = (x + 9223372036854775808) % 18446744073709551616 - 9223372036854775808 := fun x => by simp [IntKind.wrap, IntKind.bits, IntKind.signed]; split <;> omega
  refine ⟨?_, ?_⟩
  · show IntKind.i64.wrap (((BitVec.ofInt 64 (a : Int)) ^^^ (BitVec.ofInt 64 (0 : Int))).toNat : Int) = _
    rw [BitVec.toNat_xor, ofInt_u64 a (by omega), show (BitVec.ofInt 64 (0 : Int)).toNat = 0 from by decide, Nat.xor_zero, w]
    omega
  · show IntKind.i64.wrap (((BitVec.ofInt 64 (a : Int)) ^^^ (BitVec.ofInt 64 (-1 : Int))).toNat : Int) = _
    rw [BitVec.toNat_xor, ofInt_u64 a (by omega), show (BitVec.ofInt 64 (-1 : Int)).toNat = 2 ^ 64 - 1 from by decide, ones_xor _ (by omega), w]
    omega
theorem last_xor {n : Nat} (h : n < 18446744073709551616) : bitsV .xor .i64 ((n / 2 : Nat) : Int) (-((n % 2 : Nat) : Int)) = unzig n := by
  have := xor_i64 (a := n / 2) (by omega)
  unfold unzig
  by_cases h1 : n % 2 = 1
  · rw [if_pos h1, h1]; exact this.2
  · rw [if_neg h1, show n % 2 = 0 from by omega]; exact this.1
theorem half_i {n : Nat} (h : n < 18446744073709551616) : IntKind.i64.wrap ((n : Int).fdiv (2 ^ min (Int.toNat 1) IntKind.u64.bits)) = ((n / 2 : Nat) : Int) := by
  rw [shr1]
  simp [IntKind.wrap, IntKind.bits, IntKind.signed]; omega
theorem low_i {n : Nat} (h : n < 18446744073709551616) : IntKind.i64.wrap (bitsV .and .u64 (n : Int) 1) = ((n % 2 : Nat) : Int) := by
  rw [and1 h]
  simp [IntKind.wrap, IntKind.bits, IntKind.signed]; omega
/-- The program's answer. -/
def numR (l : List UInt8) : Int × Int := match rd 0 l with
  | some (n, k) => (unzig n, (k : Int))
  | none => (0, 0)
theorem numR_none {l : List UInt8} (h : rd 0 l = none) : numR l = (0, 0) := by unfold numR; rw [h]
theorem numR_some {l : List UInt8} {n k : Nat} (h : rd 0 l = some (n, k)) : numR l = (unzig n, (k : Int)) := by unfold numR; rw [h]
/-- The program's loop: n is what i bytes said. -/
def RdAt (b : List UInt8) (i n : Nat) : Prop := i ≤ b.length ∧ i ≤ 9 ∧ n < 2 ^ (7 * i) ∧ rd 0 b = (rd i (b.drop i)).map fun p => (n + 2 ^ (7 * i) * p.1, p.2 + i)
theorem rdAt_0 (b : List UInt8) : RdAt b 0 0 := ⟨Nat.zero_le _, by omega, by decide, by rw [List.drop_zero]; simp⟩
theorem rdAt_end {b : List UInt8} {n : Nat} (h : RdAt b b.length n) : rd 0 b = none := by
  obtain ⟨_, _, _, h⟩ := h
  rw [h, List.drop_length]; rfl
theorem rdAt_bad {b : List UInt8} {i n : Nat} (h : RdAt b i n) (hi : i < b.length) (hb : (i = 9 ∧ 1 < b[i].toNat) ∨ (0 < i ∧ b[i].toNat = 0)) : rd 0 b = none := by
  obtain ⟨_, _, _, h⟩ := h
  rw [h, List.drop_eq_getElem_cons hi, rd_none hb]; rfl
theorem rdAt_last {b : List UInt8} {i n : Nat} (h : RdAt b i n) (hi : i < b.length) (hb : ¬ ((i = 9 ∧ 1 < b[i].toNat) ∨ (0 < i ∧ b[i].toNat = 0))) (hl : b[i].toNat < 128) : rd 0 b = some (n + 2 ^ (7 * i) * (b[i].toNat % 128), 1 + i) := by
  obtain ⟨_, _, _, h⟩ := h
  rw [h, List.drop_eq_getElem_cons hi, rd_last hb hl, Nat.mod_eq_of_lt hl]; rfl
theorem rdAt_next {b : List UInt8} {i n : Nat} (h : RdAt b i n) (hi : i < b.length) (hb : ¬ ((i = 9 ∧ 1 < b[i].toNat) ∨ (0 < i ∧ b[i].toNat = 0))) (hl : ¬ b[i].toNat < 128) (hn : n + 2 ^ (7 * i) * (b[i].toNat % 128) < 2 ^ (7 * (i + 1))) : RdAt b (i + 1) (n + 2 ^ (7 * i) * (b[i].toNat % 128)) := by
  obtain ⟨_, h9, _, h⟩ := h
  have hx := b[i].toNat_lt
  refine ⟨by omega, by omega, hn, ?_⟩
  rw [h, List.drop_eq_getElem_cons hi, rd_more hb hl]
  cases rd (i + 1) (b.drop (i + 1)) with
  | none => rfl
  | some p =>
    refine congrArg some (Prod.ext ?_ ?_)
    · show n + 2 ^ (7 * i) * (b[i].toNat - 128 + 128 * p.1) = n + 2 ^ (7 * i) * (b[i].toNat % 128) + 2 ^ (7 * (i + 1)) * p.1
      rw [show b[i].toNat % 128 = b[i].toNat - 128 from by omega, Nat.mul_add, Nat.mul_add 7 i 1, Nat.pow_add, Nat.mul_assoc, Nat.add_assoc]
    · show p.2 + 1 + i = p.2 + (i + 1)
      omega
/-- The value that bytes begin with, and how many they are. -/
def cand (b : List UInt8) : Option (Vl × Nat) := if b.length < 2 then none else if (b.getD 0 0).toNat = 3 then some ((3, ((b.getD 1 0).toNat : Int), []), 2) else if (b.getD 0 0).toNat = 2 then (if b.length < 2 + (b.getD 1 0).toNat then none else some ((2, 0, (b.drop 2).take (b.getD 1 0).toNat), 2 + (b.getD 1 0).toNat)) else (rd 0 (b.drop 1)).map fun p => ((((b.getD 0 0).toNat : Int), unzig p.1, []), p.2 + 1)
def decV (b : List UInt8) : Option (Vl × Nat) := match cand b with
  | some (v, k) => if checkV v = 0 then some (v, k) else none
  | none => none
theorem decV_none {b : List UInt8} (h : cand b = none) : decV b = none := by unfold decV; rw [h]
theorem decV_bad {b : List UInt8} {v : Vl} {k : Nat} (h : cand b = some (v, k)) (hc : checkV v ≠ 0) : decV b = none := by unfold decV; rw [h]; exact if_neg hc
theorem decV_ok {b : List UInt8} {v : Vl} {k : Nat} (h : cand b = some (v, k)) (hc : checkV v = 0) : decV b = some (v, k) := by unfold decV; rw [h]; exact if_pos hc
/-- What is written is read, whatever stands behind. -/
theorem decV_enc {v : Vl} (h : checkV v = 0) (h0 : -9223372036854775808 ≤ v.2.1) (h1 : v.2.1 ≤ 9223372036854775807) (r : List UInt8) : decV (encV v ++ r) = some (plainV v, (encV v).length) := by
  unfold encV plainV
  rcases check_ok h with h2 | ⟨h2, h3⟩ | ⟨h2, h3, h4⟩
  · rw [if_neg (show ¬ v.1 = 3 by omega), if_neg (show ¬ v.1 = 2 by omega), if_neg (show ¬ v.1 = 2 by omega), h2]
    have hz := rd_back (zig_lt h0 h1) r
    refine decV_ok (v := (1, v.2.1, [])) ?_ rfl
    unfold cand
    have hl := (varint_ten (zig_lt h0 h1)).1
    rw [if_neg (by rw [List.cons_append, List.length_cons, List.length_append]; omega), show (1 :: varint (zig v.2.1) ++ r).getD 0 0 = 1 from rfl, if_neg (show ¬ (1 : UInt8).toNat = 3 by decide), if_neg (show ¬ (1 : UInt8).toNat = 2 by decide), show List.drop 1 (1 :: varint (zig v.2.1) ++ r) = varint (zig v.2.1) ++ r from rfl, hz]
    show some ((((1 : UInt8).toNat : Int), unzig (zig v.2.1), []), (varint (zig v.2.1)).length + 1) = _
    rw [unzig_zig]
    rfl
  · rw [if_pos h2, if_neg (show ¬ v.1 = 2 by omega), h2]
    rcases h3 with h3 | h3
    · rw [h3]; exact decV_ok (v := (3, 0, [])) (k := 2) rfl rfl
    · rw [h3]; exact decV_ok (v := (3, 1, [])) (k := 2) rfl rfl
  · rw [if_neg (show ¬ v.1 = 3 by omega), if_pos h2, if_pos h2]
    have e := ofNat_lt (n := v.2.2.length) (by omega)
    refine decV_ok (v := (2, 0, v.2.2)) ?_ ?_
    · unfold cand
      simp only [List.cons_append, List.getD_cons_zero, List.getD_cons_succ, e, List.length_cons, List.length_append]
      rw [if_neg (by omega), if_neg (by decide), if_pos (by decide), if_neg (by omega)]
      rw [show List.drop 2 (2 :: UInt8.ofNat v.2.2.length :: (v.2.2 ++ r)) = v.2.2 ++ r from rfl, List.take_left, Nat.add_comm]
    · unfold checkV
      rw [if_neg (show ¬ (2 : Int) = 1 by decide), if_neg (show ¬ (2 : Int) = 3 by decide), if_pos rfl, if_neg (show ¬ 64 < v.2.2.length by omega), if_pos h4]
def decR (b : List UInt8) : Vl × Int × Int := match decV b with
  | some (v, k) => (v, (k : Int), 0)
  | none => ((0, 0, []), 0, 6)
theorem decR_some {b : List UInt8} {v : Vl} {k : Nat} (h : decV b = some (v, k)) : decR b = (v, (k : Int), 0) := by unfold decR; rw [h]
theorem decR_none {b : List UInt8} (h : decV b = none) : decR b = ((0, 0, []), 0, 6) := by unfold decR; rw [h]
theorem numR_zero {l : List UInt8} (h : (numR l).2 = 0) : rd 0 l = none := by
  cases e : rd 0 l with
  | none => rfl
  | some p =>
    exfalso
    obtain ⟨n, k⟩ := p
    rw [numR_some e] at h
    obtain ⟨h1, r, _, h3⟩ := rd_is e
    have := (varint_ten h1).1
    have h : (k : Int) = 0 := h
    omega
theorem numR_pos {l : List UInt8} (h : (numR l).2 ≠ 0) : ∃ n k : Nat, rd 0 l = some (n, k) ∧ numR l = (unzig n, (k : Int)) ∧ k ≤ 10 := by
  cases e : rd 0 l with
  | none => exact absurd (by rw [numR_none e]) h
  | some p =>
    obtain ⟨n, k⟩ := p
    obtain ⟨h1, r, _, h3⟩ := rd_is e
    have := (varint_ten h1).2
    exact ⟨n, k, rfl, numR_some e, by omega⟩
abbrev b0 (b : List UInt8) : Nat := (b.getD 0 0).toNat
abbrev b1 (b : List UInt8) : Nat := (b.getD 1 0).toNat
theorem at_b {b : List UInt8} {i : Nat} (h : i < b.length) : at' (nums b) (i : Int) = ((b.getD i 0).toNat : Int) := by
  rw [at'_nat (by simpa using h)]
  simp [nums, List.getD_eq_getElem?_getD, h]
theorem b_lt (b : List UInt8) (i : Nat) : (b.getD i 0).toNat < 256 := (b.getD i 0).toNat_lt
theorem cand_short {b : List UInt8} (h : b.length < 2) : cand b = none := by unfold cand; rw [if_pos h]
theorem cand_3 {b : List UInt8} (h : ¬ b.length < 2) (h3 : b0 b = 3) : cand b = some ((3, (b1 b : Int), []), 2) := by unfold cand; rw [if_neg h, if_pos h3]
theorem cand_2n {b : List UInt8} (h : ¬ b.length < 2) (h3 : b0 b = 2) (hl : b.length < 2 + b1 b) : cand b = none := by unfold cand; rw [if_neg h, if_neg (show ¬ b0 b = 3 by omega), if_pos h3, if_pos hl]
theorem cand_2 {b : List UInt8} (h : ¬ b.length < 2) (h3 : b0 b = 2) (hl : ¬ b.length < 2 + b1 b) : cand b = some ((2, 0, (b.drop 2).take (b1 b)), 2 + b1 b) := by unfold cand; rw [if_neg h, if_neg (show ¬ b0 b = 3 by omega), if_pos h3, if_neg hl]
theorem cand_n {b : List UInt8} (h : ¬ b.length < 2) (h3 : b0 b ≠ 3) (h2 : b0 b ≠ 2) : cand b = (rd 0 (b.drop 1)).map fun p => (((b0 b : Int), unzig p.1, []), p.2 + 1) := by unfold cand; rw [if_neg h, if_neg h3, if_neg h2]
theorem cut2 (b : List UInt8) (k : Nat) : unnum (List.drop (Int.toNat 2) (List.take (Int.toNat (2 + (k : Int))) (nums b))) = (b.drop 2).take k := by
  rw [show Int.toNat (2 + (k : Int)) = 2 + k from by omega, show Int.toNat 2 = 2 from rfl, show List.drop 2 (List.take (2 + k) (nums b)) = nums (List.drop 2 (List.take (2 + k) b)) from by simp [nums, List.map_take, List.map_drop], unnum_nums, List.drop_take, show 2 + k - 2 = k from by omega]
theorem wrap_k {k : Nat} (h : k ≤ 10) : IntKind.i64.wrap ((k : Int) + 1) = ((k + 1 : Nat) : Int) := by
  simp [IntKind.wrap, IntKind.bits, IntKind.signed]; omega
end Go.Vl
/- Values of properties, plain: a value read from bytes as the document reads it. -/
namespace Go.Vl
open Go Go.Gw
set_option linter.unusedVariables false
set_option linter.unusedSimpArgs false
end Go.Vl
/- Values of properties, plain: how many bytes a number at the end of its digits has; what is written and read again. -/
namespace Go.Vl
open Go Go.Gw
set_option linter.unusedVariables false
set_option linter.unusedSimpArgs false
theorem varint_gt (n : Nat) : n < 2 ^ (7 * (varint n).length) := by
  induction n using Nat.strongRecOn with
  | ind n ih =>
    by_cases h : n < 128
    · rw [varint_small h]; exact h
    · rw [varint_big h, List.length_cons]
      have := ih (n / 128) (by omega)
      rw [Nat.mul_add 7 _ 1, Nat.pow_add]
      omega
theorem encV_max {v : Vl} (h : checkV v = 0) (h0 : -9223372036854775808 ≤ v.2.1) (h1 : v.2.1 ≤ 9223372036854775807) : (encV v).length ≤ 66 := by
  unfold encV
  rcases check_ok h with h2 | ⟨h2, h3⟩ | ⟨h2, h3, h4⟩
  · rw [if_neg (show ¬ v.1 = 3 by omega), if_neg (show ¬ v.1 = 2 by omega)]
    have := (varint_ten (zig_lt h0 h1)).2
    rw [List.length_cons]; omega
  · rw [if_pos h2]; simp
  · rw [if_neg (show ¬ v.1 = 3 by omega), if_pos h2, List.length_cons, List.length_cons]; omega
theorem itoa_max {n : Int} (h0 : -9223372036854775808 ≤ n) (h1 : n ≤ 9223372036854775807) : (Lib.itoa n).length ≤ 20 := by
  have hd : (Lib.decDigits n.natAbs).length ≤ 19 := by
    rw [Lib.decDigits_length]
    exact nDig_le 18 _ (by omega)
  rcases Go.Proofs.YtdlendioamiagaaDoor.itoa_cases n with ⟨_, e⟩ | ⟨_, e⟩
  · rw [e]; omega
  · rw [e, List.length_cons]; omega
/-- The bounds of the law. -/
theorem ends_len {q : Nat} (hq : q < 63) {m : Int} (h1 : (2 : Int) ^ q - 1 ≤ m ∧ m ≤ 2 ^ q + 1 ∨ -(2 : Int) ^ q - 1 ≤ m ∧ m ≤ -(2 : Int) ^ q + 1) : ((encV (1, m, [])).length : Int) ≤ (q : Int) / 7 + 4 ∧ ((q : Int) + 1) / 7 ≤ ((encV (1, m, [])).length : Int) := by
  have e : encV (1, m, []) = 1 :: varint (zig m) := by
    unfold encV
    rw [if_neg (show ¬ (1 : Int) = 3 by decide), if_neg (show ¬ (1 : Int) = 2 by decide)]
  obtain ⟨A, hA⟩ : ∃ A : Nat, 2 ^ q = A := ⟨_, rfl⟩
  have hAi : (2 : Int) ^ q = (A : Int) := by rw [← hA]; push_cast; rfl
  rw [hAi] at h1
  have hA1 : 1 ≤ A := by rw [← hA]; exact Nat.one_le_two_pow
  have hz : zig m ≤ 2 * A + 2 ∧ 2 * A ≤ zig m + 3 := by
    unfold zig
    split <;> omega
  rw [e, List.length_cons]
  have hu := varint_len (q / 7 + 3) (zig m) (by
    have : 2 ^ (q + 3) ≤ 2 ^ (7 * (q / 7 + 3)) := Nat.pow_le_pow_right (by omega) (by omega)
    rw [Nat.pow_add, hA] at this
    omega) (by omega)
  have hg := varint_gt (zig m)
  obtain ⟨L, hL⟩ : ∃ L, (varint (zig m)).length = L := ⟨_, rfl⟩
  rw [hL] at hu hg ⊢
  refine ⟨by omega, ?_⟩
  rcases Nat.lt_or_ge ((q + 1) / 7) (L + 2) with h | h
  · omega
  · exfalso
    have h2 : 2 ^ (7 * L + 13) ≤ 2 ^ q := Nat.pow_le_pow_right (by omega) (by omega)
    rw [Nat.pow_add, hA] at h2
    have h3 : (2 : Nat) ^ 13 = 8192 := by decide
    have h4 : 1 ≤ 2 ^ (7 * L) := Nat.one_le_two_pow
    rw [h3] at h2
    omega
theorem q_is (b : Int) : ∃ q : Nat, IntKind.i64.wrap ((IntKind.u64.wrap b).tmod 63) = (q : Int) ∧ q < 63 := by
  have e : IntKind.u64.wrap b = b % 18446744073709551616 := by simp [IntKind.wrap, IntKind.bits, IntKind.signed]
  rw [e, Int.tmod_eq_emod_of_nonneg (by omega)]
  refine ⟨(b % 18446744073709551616 % 63).toNat, ?_, by omega⟩
  simp [IntKind.wrap, IntKind.bits, IntKind.signed]
  omega
theorem pow_q {q : Nat} (h : q < 63) : ∃ A : Nat, IntKind.i64.wrap (1 * 2 ^ min (Int.toNat (q : Int)) IntKind.i64.bits) = (A : Int) ∧ (2 : Int) ^ q = (A : Int) ∧ 1 ≤ A ∧ A ≤ 4611686018427387904 := by
  have h1 : 2 ^ q ≤ 2 ^ 62 := Nat.pow_le_pow_right (by omega) (by omega)
  have h2 : (2 : Nat) ^ 62 = 4611686018427387904 := by decide
  have h3 : 1 ≤ 2 ^ q := Nat.one_le_two_pow
  have e : (2 : Int) ^ q = ((2 ^ q : Nat) : Int) := by push_cast; rfl
  refine ⟨2 ^ q, ?_, e, h3, by omega⟩
  rw [show min (Int.toNat (q : Int)) IntKind.i64.bits = q from by show min _ 64 = _; omega, e]
  obtain ⟨A, hA⟩ : ∃ A : Nat, 2 ^ q = A := ⟨_, rfl⟩
  rw [hA] at h1 ⊢
  simp [IntKind.wrap, IntKind.bits, IntKind.signed]
  omega
end Go.Vl
namespace Go.Proofs.YtdlendioamiagaaDoor
open Go Go.Gw Go.Vl Go.Lib
theorem int_all {m : Int} (h0 : -9223372036854775808 ≤ m) (h1 : m ≤ 9223372036854775807) : checkV (1, m, []) = 0 ∧ showV (1, m, []) = itoa m ∧ decR (encV (1, m, [])) = ((1, m, []), ((encV (1, m, [])).length : Int), 0) ∧ parseR (itoa m) = ((1, m, []), 0) := by
  have hc : checkV (1, m, []) = 0 := rfl
  have hd := decV_enc (v := (1, m, [])) hc h0 h1 []
  rw [List.append_nil] at hd
  exact ⟨hc, rfl, decR_some hd, parse_int h0 h1⟩
end Go.Proofs.YtdlendioamiagaaDoor
/- Walks through the Go functions val.Cut, rhizomeref02.Cut, rhizomelaw02.ValCuts, as typed contracts. -/
namespace Go.Proofs.YtdlendioamiagaaDoor
open Go Go.Gw Go.Vl
set_option linter.unusedVariables false
set_option linter.unusedSimpArgs false

end Go.Proofs.YtdlendioamiagaaDoor
/- Walks through the Go functions cmp.Or[int], val.Same, val.Cmp, rhizomeref02.Cmp, rhizomelaw02.ValOrders, as typed contracts. -/
namespace Go.Proofs.YtdlendioamiagaaDoor
open Go Go.Gw Go.Vl
set_option linter.unusedVariables false
set_option linter.unusedSimpArgs false
end Go.Proofs.YtdlendioamiagaaDoor
/- Walks through the Go functions rhizomelaw02.hex, rhizomelaw02.ValDressed, as typed contracts. -/
namespace Go.Proofs.YtdlendioamiagaaDoor
open Go Go.Gw Go.Vl
set_option linter.unusedVariables false
set_option linter.unusedSimpArgs false
end Go.Proofs.YtdlendioamiagaaDoor
/- Walks through the Go functions val.number, val.Decode, as typed contracts. -/
namespace Go.Proofs.YtdlendioamiagaaDoor
open Go Go.Gw Go.Vl
set_option linter.unusedVariables false
set_option linter.unusedSimpArgs false
set_option maxRecDepth 20000 in
/-- rhizome/val.number -/
theorem number_fn (b : List UInt8) (hl : b.length ≤ 1000000) : Ct Tryd.prog 51 [SlT (kint .u8) (nums b)] ([]) Unit (fun _ => TupT [I64 (numR b).1, I64 (numR b).2]) (fun _ => []) (fun _ => True) := by
  refine fn_intro Tryd.func51 rfl rfl ?_
  intro H w
  refine tr_seq ?_
  -- region 0
  refine tr_env (es_cons (t := 0) (OT.tmp rfl) es_nil) ?_
  refine tr_region ?_
  refine op_pure (pu_assign OT.const) rfl rfl ?_
  refine op_pure (pu_assign OT.const) rfl rfl ?_
  refine tr_nil ?_
  refine then_normal ?_
  refine tr_seq ?_
  -- region 1
  refine tr_env (es_cons (t := 0) (OT.tmp rfl) es_nil) ?_
  refine tr_region ?_
  refine op_pure (pu_assign OT.const) rfl rfl ?_
  refine tr_nil ?_
  refine then_normal ?_
  refine tr_seq ?_
  refine tr_seq ?_
  -- region 2
  refine tr_env (es_cons (t := 0) (OT.tmp rfl) (es_cons (t := 4) (OT.tmp rfl) es_nil)) ?_
  refine tr_region ?_
  refine op_pure (pu_move (OT.tmp rfl)) rfl rfl ?_
  refine op_pure (pu_len_sl (OT.tmp rfl) Tryd.underlying26) rfl rfl ?_
  refine op_pure (pu_move OT.const) rfl rfl ?_
  refine tr_nil ?_
  refine then_normal ?_
  refine tr_block ?_
  refine tr_loopK (σ := Nat × Nat) (es_cons (t := 7) (OT.tmp rfl) (es_cons (t := 8) (OT.tmp rfl) es_nil)) (fun s => [(9, I64 (s.1 : Int)), (4, IntT .u64 (s.2 : Int))]) (fun s => []) (fun s => RdAt b s.1 s.2) (fun s => b.length - s.1) (0, 0) (rdAt_0 b) ?_ (own_picks (by exact picks_nil)) ?_
  · exact (es_cons (t := 9) (OT.tmp rfl) (es_cons (t := 4) (OT.tmp rfl) es_nil))
  · rintro ⟨i, n⟩ hR
    dsimp only at hR ⊢
    refine tr_seq ?_
    -- region 3
    refine tr_env (es_cons (t := 4) (OT.tmp rfl) (es_cons (t := 7) (OT.tmp rfl) (es_cons (t := 8) (OT.tmp rfl) (es_cons (t := 9) (OT.tmp rfl) es_nil)))) ?_
    refine tr_region ?_
    refine op_pure (pu_lss (OT.tmp rfl) (OT.tmp rfl)) rfl rfl ?_
    refine tr_nil ?_
    refine then_normal ?_
    refine tr_seq ?_
    refine tr_cond (OT.tmp rfl) (fun c10 => ?_) (fun c10 => ?_)
    · skip
      refine tr_skip ?_
      refine then_normal ?_
      refine tr_seq ?_
      refine tr_block ?_
      refine tr_seq ?_
      -- region 4
      refine tr_env (es_cons (t := 4) (OT.tmp rfl) (es_cons (t := 7) (OT.tmp rfl) (es_cons (t := 8) (OT.tmp rfl) (es_cons (t := 9) (OT.tmp rfl) es_nil)))) ?_
      have hi2 : i < b.length := by simp at c10; omega
      have hat : at' (nums b) (i : Int) = (b[i].toNat : Int) := by rw [at'_nat (by simpa using hi2)]; simp [nums]
      have hbl := b[i].toNat_lt
      have hi9 := hR.2.1
      refine tr_region ?_
      refine op_pure (pu_move (OT.tmp rfl)) rfl rfl ?_
      refine op_pure (pu_index (OT.tmp rfl) (OT.tmp rfl) Tryd.underlying26 (show tyOk Tryd.prog 5 false 1 = true from by decide +kernel) (by omega) (by (simp; omega))) rfl rfl ?_
      refine op_pure (pu_load (OT.tmp rfl) (show tyOk Tryd.prog 5 false 1 = true from by decide +kernel)) rfl rfl ?_
      refine op_pure (pu_assign (OT.tmp rfl)) rfl rfl ?_
      refine op_pure (pu_assign (OT.tmp rfl)) rfl rfl ?_
      refine tr_nil ?_
      refine then_normal ?_
      refine tr_seq ?_
      refine tr_seq ?_
      -- region 5
      refine tr_env (es_cons (t := 4) (OT.tmp rfl) (es_cons (t := 5) (OT.tmp rfl) (es_cons (t := 6) (OT.tmp rfl) (es_cons (t := 7) (OT.tmp rfl) (es_cons (t := 8) (OT.tmp rfl) (es_cons (t := 9) (OT.tmp rfl) es_nil)))))) ?_
      rw [hat]
      refine tr_region ?_
      refine op_pure (pu_move (OT.tmp rfl)) rfl rfl ?_
      refine op_pure (pu_eql (OT.tmp rfl) OT.const) rfl rfl ?_
      refine op_pure (pu_move (OT.tmp rfl)) rfl rfl ?_
      refine op_gu rfl rfl rfl (OT.gu_mk (OT.tmp rfl)) (fun hg => by (have hg1 := hg.2; (try simp only [decide_eq_true_eq, decide_eq_false_iff_not] at hg1); exact pu_move (by exact OT.tmp rfl))) rfl ?_
      refine op_gu rfl rfl rfl (OT.gu_mk (OT.tmp rfl)) (fun hg => by (have hg1 := hg.2; (try simp only [decide_eq_true_eq, decide_eq_false_iff_not] at hg1); exact pu_gtr (by exact OT.gu (OT.tmp rfl) hg) OT.const)) rfl ?_
      refine op_pure (pu_pick_and (OT.tmp rfl) (by exact OT.tmp rfl)) rfl rfl ?_
      refine op_pure (pu_move (OT.tmp rfl)) rfl rfl ?_
      refine op_gu rfl rfl rfl (OT.gu_mk (OT.tmp rfl)) (fun hg => by (have hg1 := hg.2; (try simp only [decide_eq_true_eq, decide_eq_false_iff_not] at hg1); exact pu_move (by exact OT.tmp rfl))) rfl ?_
      refine op_gu rfl rfl rfl (OT.gu_mk (OT.tmp rfl)) (fun hg => by (have hg1 := hg.2; (try simp only [decide_eq_true_eq, decide_eq_false_iff_not] at hg1); exact pu_gtr (by exact OT.gu (OT.tmp rfl) hg) OT.const)) rfl ?_
      refine op_gu rfl rfl rfl (OT.gu_mk (OT.tmp rfl)) (fun hg => by (have hg1 := hg.2; (try simp only [decide_eq_true_eq, decide_eq_false_iff_not] at hg1); exact pu_move (by exact OT.gu (OT.tmp rfl) hg))) rfl ?_
      refine op_gu rfl rfl rfl (OT.tmp rfl) (fun hg => by (have hg1 := hg.2; (try simp only [decide_eq_true_eq, decide_eq_false_iff_not] at hg1); exact pu_move (by exact OT.tmp rfl))) rfl ?_
      refine op_gu rfl rfl rfl (OT.tmp rfl) (fun hg => by (have hg1 := hg.2; (try simp only [decide_eq_true_eq, decide_eq_false_iff_not] at hg1); exact pu_eql (by exact OT.gu (OT.tmp rfl) hg) OT.const)) rfl ?_
      refine op_gu rfl rfl rfl (OT.gu_mk (OT.tmp rfl)) (fun hg => by (have hg1 := hg.2; (try simp only [decide_eq_true_eq, decide_eq_false_iff_not] at hg1); exact pu_pick_and_p hg (by exact OT.gu (OT.tmp rfl) hg) (OT.tmp rfl))) rfl ?_
      refine op_pure (pu_pick_or (OT.tmp rfl) (by exact OT.tmp rfl)) rfl rfl ?_
      refine tr_nil ?_
      refine then_normal ?_
      refine tr_cond (OT.tmp rfl) (fun c27 => ?_) (fun c27 => ?_)
      · skip
        have hbad : (i = 9 ∧ 1 < b[i].toNat) ∨ (0 < i ∧ b[i].toNat = 0) := by simp at c27; omega
        have hr := numR_none (rdAt_bad hR hi2 hbad)
        refine tr_seq ?_
        -- region 6
        refine tr_env es_nil ?_
        refine tr_region ?_
        refine op_pure (pu_assign OT.const) rfl rfl ?_
        refine op_pure (pu_assign OT.const) rfl rfl ?_
        refine tr_nil ?_
        refine then_normal ?_
        refine tr_ret ?_
        refine then_ret ?_
        refine block_ret ?_
        refine then_ret ?_
        refine then_ret ?_
        refine block_ret ?_
        refine then_ret ?_
        exact ret_two .ret (.inl rfl) rfl () (OT.val (OT.tmp rfl) (congrArg (Value.int _) (by rw [hr]))) (OT.val (OT.tmp rfl) (congrArg (Value.int _) (by rw [hr]))) (fun _ _ h => h) trivial (by exact picks_nil)
      · skip
        have hgood : ¬ ((i = 9 ∧ 1 < b[i].toNat) ∨ (0 < i ∧ b[i].toNat = 0)) := by simp at c27; omega
        obtain ⟨ho1, ho2, ho3⟩ := or_put (n := n) (i := i) (x := b[i].toNat % 128) hi9 (by omega) hR.2.2.1 (by omega)
        refine tr_skip ?_
        refine then_normal ?_
        refine tr_seq ?_
        -- region 7
        refine tr_env (es_cons (t := 4) (OT.tmp rfl) (es_cons (t := 5) (OT.tmp rfl) (es_cons (t := 6) (OT.tmp rfl) (es_cons (t := 7) (OT.tmp rfl) (es_cons (t := 8) (OT.tmp rfl) (es_cons (t := 9) (OT.tmp rfl) es_nil)))))) ?_
        refine tr_region ?_
        refine op_pure (pu_move (OT.tmp rfl)) rfl rfl ?_
        refine op_pure (pu_move (OT.tmp rfl)) rfl rfl ?_
        refine op_pure (pu_bits (OT.tmp rfl) OT.const (by simp)) rfl rfl ?_
        refine tr_as 30 (T := IntT .u8 ((b[i].toNat % 128 : Nat) : Int)) (OT.val (OT.tmp rfl) (congrArg (Value.int _) (and127 hbl))) ?_
        refine op_pure (pu_convert' (OT.tmp rfl) Tryd.underlying5 Tryd.underlying64 (by omega) (by omega) rfl) rfl rfl ?_
        refine op_pure (pu_move (OT.tmp rfl)) rfl rfl ?_
        refine op_pure (pu_mul' OT.const (OT.tmp rfl) (by omega)) rfl rfl ?_
        refine op_pure (pu_shl (OT.tmp rfl) (OT.tmp rfl) (by omega)) rfl rfl ?_
        refine op_pure (pu_bits (OT.tmp rfl) (OT.tmp rfl) (by simp)) rfl rfl ?_
        refine tr_as 35 (T := IntT .u64 ((n + 2 ^ (7 * i) * (b[i].toNat % 128) : Nat) : Int)) (OT.val (OT.tmp rfl) (congrArg (Value.int _) ho1)) ?_
        refine op_pure (pu_assign (OT.tmp rfl)) rfl rfl ?_
        refine tr_nil ?_
        refine then_normal ?_
        refine tr_seq ?_
        -- region 8
        refine tr_env (es_cons (t := 4) (OT.tmp rfl) (es_cons (t := 5) (OT.tmp rfl) (es_cons (t := 6) (OT.tmp rfl) (es_cons (t := 7) (OT.tmp rfl) (es_cons (t := 8) (OT.tmp rfl) (es_cons (t := 9) (OT.tmp rfl) es_nil)))))) ?_
        refine tr_region ?_
        refine op_pure (pu_move (OT.tmp rfl)) rfl rfl ?_
        refine op_pure (pu_lss (OT.tmp rfl) OT.const) rfl rfl ?_
        refine tr_nil ?_
        refine then_normal ?_
        refine tr_cond (OT.tmp rfl) (fun c37 => ?_) (fun c37 => ?_)
        · skip
          have hlt : b[i].toNat < 128 := by simp at c37; omega
          have hr := numR_some (rdAt_last hR hi2 hgood hlt)
          refine tr_seq ?_
          -- region 9
          refine tr_env (es_cons (t := 4) (OT.tmp rfl) (es_cons (t := 5) (OT.tmp rfl) es_nil)) ?_
          refine tr_region ?_
          refine op_pure (pu_move (OT.tmp rfl)) rfl rfl ?_
          refine op_pure (pu_shr (OT.tmp rfl) OT.const (by omega)) rfl rfl ?_
          refine op_pure (pu_convert (OT.tmp rfl) Tryd.underlying64 Tryd.underlying3) rfl rfl ?_
          refine op_pure (pu_move (OT.tmp rfl)) rfl rfl ?_
          refine op_pure (pu_bits (OT.tmp rfl) OT.const (by simp)) rfl rfl ?_
          refine op_pure (pu_convert (OT.tmp rfl) Tryd.underlying64 Tryd.underlying3) rfl rfl ?_
          refine tr_as 40 (T := I64 (((n + 2 ^ (7 * i) * (b[i].toNat % 128)) / 2 : Nat) : Int)) (OT.val (OT.tmp rfl) (congrArg (Value.int _) (half_i ho2))) (tr_as 43 (T := I64 (((n + 2 ^ (7 * i) * (b[i].toNat % 128)) % 2 : Nat) : Int)) (OT.val (OT.tmp rfl) (congrArg (Value.int _) (low_i ho2))) ?_)
          refine op_pure (pu_neg (OT.tmp rfl) (by omega)) rfl rfl ?_
          refine op_pure (pu_bits (OT.tmp rfl) (OT.tmp rfl) (by simp)) rfl rfl ?_
          refine op_pure (pu_move (OT.tmp rfl)) rfl rfl ?_
          refine op_pure (pu_add' (OT.tmp rfl) OT.const (by omega)) rfl rfl ?_
          refine op_pure (pu_assign (OT.tmp rfl)) rfl rfl ?_
          refine op_pure (pu_assign (OT.tmp rfl)) rfl rfl ?_
          refine tr_nil ?_
          refine then_normal ?_
          refine tr_ret ?_
          refine block_ret ?_
          refine then_ret ?_
          refine then_ret ?_
          refine block_ret ?_
          refine then_ret ?_
          exact ret_two .ret (.inl rfl) rfl () (OT.val (OT.tmp rfl) (congrArg (Value.int _) (by rw [hr]; exact last_xor ho2))) (OT.val (OT.tmp rfl) (congrArg (Value.int _) (by rw [hr]; show (i : Int) + 1 = ((1 + i : Nat) : Int); omega))) (fun _ _ h => h) trivial (by exact picks_nil)
        · skip
          have hlt : ¬ b[i].toNat < 128 := by simp at c37; omega
          refine tr_skip ?_
          refine block_normal ?_
          refine then_normal ?_
          -- region 10
          refine tr_env (es_cons (t := 4) (OT.tmp rfl) (es_cons (t := 7) (OT.tmp rfl) (es_cons (t := 8) (OT.tmp rfl) (es_cons (t := 9) (OT.tmp rfl) es_nil)))) ?_
          refine tr_region ?_
          refine op_pure (pu_add' (OT.tmp rfl) OT.const (by omega)) rfl rfl ?_
          refine op_pure (pu_move (OT.tmp rfl)) rfl rfl ?_
          refine tr_nil ?_
          refine then_normal ?_
          exact tr_again (i + 1, n + 2 ^ (7 * i) * (b[i].toNat % 128)) (rdAt_next hR hi2 hgood hlt ho3) (by show b.length - (i + 1) < b.length - i; omega) (es_append (es_cons (t := 9) (by exact OT.tmp rfl) (es_cons (t := 4) (by exact OT.tmp rfl) es_nil)) (es_cons (t := 7) (OT.tmp rfl) (es_cons (t := 8) (OT.tmp rfl) es_nil))) (own_picks (by exact picks_nil))
    · skip
      refine tr_exit ?_
      refine then_exit ?_
      refine then_exit ?_
      refine block_hit ?_
      refine then_normal ?_
      refine tr_seq ?_
      -- region 11
      refine tr_env es_nil ?_
      obtain rfl : i = b.length := by have := hR.1; simp at c10; omega
      have hr := numR_none (rdAt_end hR)
      refine tr_region ?_
      refine op_pure (pu_assign OT.const) rfl rfl ?_
      refine op_pure (pu_assign OT.const) rfl rfl ?_
      refine tr_nil ?_
      refine then_normal ?_
      refine tr_ret ?_
      exact ret_two .ret (.inl rfl) rfl () (OT.val (OT.tmp rfl) (congrArg (Value.int _) (by rw [hr]))) (OT.val (OT.tmp rfl) (congrArg (Value.int _) (by rw [hr]))) (fun _ _ h => h) trivial (by exact picks_nil)
set_option maxRecDepth 20000 in
/-- rhizome/val.Decode -/
theorem Decode_fn {K0 : FH} {n0 : Nat} (b : List UInt8) (hV : VarsV K0) (hl : b.length ≤ 1000000) : CtM K0 n0 Tryd.prog 24 [SlT (kint .u8) (nums b)] ([]) Unit (fun _ => TupT [kVl.T (decR b).1, I64 (decR b).2.1, I64 (decR b).2.2]) (fun _ => []) (fun _ => True) := by
  refine fn_introM Tryd.func24 rfl rfl ?_
  intro H w hK hn
  refine tr_seq ?_
  -- region 0
  refine tr_env (es_cons (t := 0) (OT.tmp rfl) es_nil) ?_
  refine tr_region ?_
  refine op_acts (acts_alloc (zVl)) (List.Perm.refl _) rfl rfl (fun g0_0 _ => ?_)
  refine op_pure (pu_assign OT.const) rfl rfl ?_
  refine op_pure (pu_assign OT.const) rfl rfl ?_
  refine tr_nil ?_
  refine then_normal ?_
  refine tr_seq ?_
  refine tr_seq ?_
  -- region 1
  refine tr_env (es_cons (t := 0) (OT.tmp rfl) (es_cons (t := 2) (OT.tmp rfl) es_nil)) ?_
  refine tr_region ?_
  refine op_pure (pu_move (OT.tmp rfl)) rfl rfl ?_
  refine op_pure (pu_len_sl (OT.tmp rfl) Tryd.underlying26) rfl rfl ?_
  refine op_pure (pu_lss (OT.tmp rfl) OT.const) rfl rfl ?_
  refine tr_nil ?_
  refine then_normal ?_
  refine tr_cond (OT.tmp rfl) (fun c11 => ?_) (fun c11 => ?_)
  · skip
    have hs : b.length < 2 := by simp at c11; omega
    have hr := decR_none (decV_none (cand_short hs))
    refine tr_seq ?_
    -- region 2
    refine tr_env (es_cons (t := 2) (OT.tmp rfl) es_nil) ?_
    refine tr_region ?_
    refine op_pure (pu_build (d := kVl) (v0 := (0, 0, [])) (ps := [(0, 1), (1, 1), (2, 1)]) zVl (by kernel_rfl) rfl fills_nil) rfl rfl ?_
    refine op_acts (acts_store_var (OT.tmp rfl) (OT.tmp rfl) (by exact perm_at 0 rfl) (show tyOk Tryd.prog 23 true 3 = true from by decide +kernel)) (by exact perm_at 0 rfl) rfl rfl (fun _ _ => ?_)
    refine op_pure (pu_assign OT.const) rfl rfl ?_
    refine op_pure (pu_assign OT.const) rfl rfl ?_
    refine tr_nil ?_
    refine then_normal ?_
    refine tr_ret ?_
    refine then_ret ?_
    exact ret_cell_tmp2 .ret (.inl rfl) rfl () (OT.tmp rfl) (by exact mem_at 0 rfl) (show tyOk Tryd.prog 23 true 3 = true from by decide +kernel) (OT.val (OT.tmp rfl) (congrArg (Value.int _) (congrArg (fun p => p.2.1) hr).symm)) (OT.val (OT.tmp rfl) (congrArg (Value.int _) (congrArg (fun p => p.2.2) hr).symm)) (fun _ _ h => (by rw [hr] at h ⊢; exact h)) trivial (by exact picks_nil)
  · skip
    have hs : ¬ b.length < 2 := by simp at c11; omega
    have h0 : at' (nums b) 0 = ((b0 b : Nat) : Int) := at_b (i := 0) (by omega)
    have h1 : at' (nums b) 1 = ((b1 b : Nat) : Int) := at_b (i := 1) (by omega)
    have hb0 : b0 b < 256 := b_lt b 0
    have hb1 : b1 b < 256 := b_lt b 1
    refine tr_skip ?_
    refine then_normal ?_
    refine tr_seq ?_
    -- region 3
    refine tr_env (es_cons (t := 0) (OT.tmp rfl) (es_cons (t := 2) (OT.tmp rfl) es_nil)) ?_
    refine tr_region ?_
    refine op_pure (pu_move (OT.tmp rfl)) rfl rfl ?_
    refine op_pure (pu_index (OT.tmp rfl) OT.const Tryd.underlying26 (show tyOk Tryd.prog 5 false 1 = true from by decide +kernel) (by omega) (by (simp; omega))) rfl rfl ?_
    refine op_pure (pu_load (OT.tmp rfl) (show tyOk Tryd.prog 5 false 1 = true from by decide +kernel)) rfl rfl ?_
    refine op_pure (pu_convert' (OT.tmp rfl) Tryd.underlying5 Tryd.underlying3 (by omega) (by omega) rfl) rfl rfl ?_
    refine op_pure (pu_build (d := kVl) (v0 := (0, 0, [])) (ps := [(0, 1), (1, 1), (2, 1)]) zVl (by kernel_rfl) rfl (fills_cons rfl lv0 (OT.tmp rfl) fills_nil)) rfl rfl ?_
    refine op_acts (acts_alloc (zVl)) (List.Perm.refl _) rfl rfl (fun g3_5 _ => ?_)
    refine op_acts (acts_store_var (OT.tmp rfl) (OT.tmp rfl) (by exact perm_at 0 rfl) (show tyOk Tryd.prog 23 true 3 = true from by decide +kernel)) (by exact perm_at 0 rfl) rfl rfl (fun _ _ => ?_)
    refine tr_nil ?_
    refine then_normal ?_
    refine tr_seq ?_
    -- region 4
    refine tr_env (es_cons (t := 0) (OT.tmp rfl) (es_cons (t := 2) (OT.tmp rfl) (es_cons (t := 5) (OT.tmp rfl) es_nil))) ?_
    rw [h0]
    refine tr_region ?_
    refine op_pure (pu_assign OT.const) rfl rfl ?_
    refine tr_nil ?_
    refine then_normal ?_
    refine tr_joinK (σ := Vl × Nat) (es_cons (t := 2) (OT.tmp rfl) (es_cons (t := 5) (OT.tmp rfl) es_nil)) (fun s => [(6, I64 (s.2 : Int))]) (fun s => [BlkI g3_5 23 kVl s.1, BlkI g0_0 23 kVl (0, 0, [])]) (fun s => cand b = some (s.1, s.2) ∧ s.1.2.2.length ≤ 255) ?_ ?_
    · skip
      refine tr_seq ?_
      -- region 5
      refine tr_env (es_cons (t := 0) (OT.tmp rfl) (es_cons (t := 2) (OT.tmp rfl) (es_cons (t := 5) (OT.tmp rfl) (es_cons (t := 6) (OT.tmp rfl) es_nil)))) ?_
      refine tr_region ?_
      refine op_pure (pu_faddr (OT.tmp rfl) (show fieldOk Tryd.prog 23 0 0 false 1 = true from by decide +kernel)) rfl rfl ?_
      refine op_pure (pu_load_blk (OT.tmp rfl) (by exact mem_at 0 rfl) lv0 (show tyOk Tryd.prog 3 false 1 = true from by decide +kernel)) rfl rfl ?_
      refine tr_nil ?_
      refine then_normal ?_
      refine tr_block ?_
      refine tr_seq ?_
      -- region 10
      refine tr_env (es_cons (t := 0) (OT.tmp rfl) (es_cons (t := 2) (OT.tmp rfl) (es_cons (t := 5) (OT.tmp rfl) (es_cons (t := 6) (OT.tmp rfl) (es_cons (t := 19) (OT.tmp rfl) es_nil))))) ?_
      refine tr_region ?_
      refine op_pure (pu_eql (OT.tmp rfl) OT.const) rfl rfl ?_
      refine op_pure (pu_assign (OT.tmp rfl)) rfl rfl ?_
      refine tr_nil ?_
      refine then_normal ?_
      refine tr_cond (OT.tmp rfl) (fun c33 => ?_) (fun c33 => ?_)
      · skip
        have h3 : b0 b = 3 := by have h9 := of_decide_eq_true c33; omega
        -- region 11
        refine tr_env (es_cons (t := 0) (OT.tmp rfl) (es_cons (t := 2) (OT.tmp rfl) (es_cons (t := 5) (OT.tmp rfl) (es_cons (t := 6) (OT.tmp rfl) es_nil)))) ?_
        refine tr_region ?_
        refine op_pure (pu_move (OT.tmp rfl)) rfl rfl ?_
        refine op_pure (pu_index (OT.tmp rfl) OT.const Tryd.underlying26 (show tyOk Tryd.prog 5 false 1 = true from by decide +kernel) (by omega) (by (simp; omega))) rfl rfl ?_
        refine op_pure (pu_load (OT.tmp rfl) (show tyOk Tryd.prog 5 false 1 = true from by decide +kernel)) rfl rfl ?_
        refine op_pure (pu_convert' (OT.tmp rfl) Tryd.underlying5 Tryd.underlying3 (by omega) (by omega) rfl) rfl rfl ?_
        refine op_pure (pu_faddr (OT.tmp rfl) (show fieldOk Tryd.prog 23 1 1 false 1 = true from by decide +kernel)) rfl rfl ?_
        refine op_acts (acts_store_blk (OT.tmp rfl) (OT.tmp rfl) (by exact perm_at 0 rfl) lv1 (show tyOk Tryd.prog 3 false 1 = true from by decide +kernel)) (by exact perm_at 0 rfl) rfl rfl (fun _ _ => ?_)
        refine tr_nil ?_
        refine block_normal ?_
        refine then_normal ?_
        rw [h1]
        exact tr_joined (((b0 b : Int), (b1 b : Int), []), 2) ⟨by rw [cand_3 hs h3, h3]; rfl, by show (0 : Nat) ≤ 255; omega⟩ (es_append (es_cons (t := 6) (by exact OT.tmp rfl) es_nil) (es_cons (t := 2) (OT.tmp rfl) (es_cons (t := 5) (OT.tmp rfl) es_nil))) (own_picks (by repeat (first | exact picks_nil | refine picks_cons 0 rfl ?_ | refine picks_cons 1 rfl ?_ | refine picks_cons 2 rfl ?_ | refine picks_cons 3 rfl ?_ | refine picks_cons 4 rfl ?_ | refine picks_cons 5 rfl ?_ | refine picks_cons 6 rfl ?_)))
      · skip
        have h3 : b0 b ≠ 3 := by have h9 := of_decide_eq_false c33; omega
        refine tr_seq ?_
        -- region 12
        refine tr_env (es_cons (t := 0) (OT.tmp rfl) (es_cons (t := 2) (OT.tmp rfl) (es_cons (t := 5) (OT.tmp rfl) (es_cons (t := 6) (OT.tmp rfl) (es_cons (t := 19) (OT.tmp rfl) es_nil))))) ?_
        refine tr_region ?_
        refine op_pure (pu_eql (OT.tmp rfl) OT.const) rfl rfl ?_
        refine op_pure (pu_assign (OT.tmp rfl)) rfl rfl ?_
        refine tr_nil ?_
        refine then_normal ?_
        refine tr_cond (OT.tmp rfl) (fun c40 => ?_) (fun c40 => ?_)
        · skip
          have h2 : b0 b = 2 := by have h9 := of_decide_eq_true c40; omega
          refine tr_seq ?_
          -- region 13
          refine tr_env (es_cons (t := 0) (OT.tmp rfl) (es_cons (t := 2) (OT.tmp rfl) (es_cons (t := 5) (OT.tmp rfl) (es_cons (t := 6) (OT.tmp rfl) es_nil)))) ?_
          refine tr_region ?_
          refine op_pure (pu_move (OT.tmp rfl)) rfl rfl ?_
          refine op_pure (pu_move (OT.tmp rfl)) rfl rfl ?_
          refine op_pure (pu_index (OT.tmp rfl) OT.const Tryd.underlying26 (show tyOk Tryd.prog 5 false 1 = true from by decide +kernel) (by omega) (by (simp; omega))) rfl rfl ?_
          refine op_pure (pu_load (OT.tmp rfl) (show tyOk Tryd.prog 5 false 1 = true from by decide +kernel)) rfl rfl ?_
          refine op_pure (pu_convert' (OT.tmp rfl) Tryd.underlying5 Tryd.underlying3 (by omega) (by omega) rfl) rfl rfl ?_
          refine op_pure (pu_add' (OT.tmp rfl) (OT.tmp rfl) (by omega)) rfl rfl ?_
          refine op_pure (pu_assign (OT.tmp rfl)) rfl rfl ?_
          refine tr_nil ?_
          refine then_normal ?_
          refine tr_seq ?_
          refine tr_seq ?_
          -- region 14
          refine tr_env (es_cons (t := 0) (OT.tmp rfl) (es_cons (t := 2) (OT.tmp rfl) (es_cons (t := 5) (OT.tmp rfl) (es_cons (t := 6) (OT.tmp rfl) es_nil)))) ?_
          rw [h1]
          refine tr_region ?_
          refine op_pure (pu_move (OT.tmp rfl)) rfl rfl ?_
          refine op_pure (pu_move (OT.tmp rfl)) rfl rfl ?_
          refine op_pure (pu_len_sl (OT.tmp rfl) Tryd.underlying26) rfl rfl ?_
          refine op_pure (pu_gtr (OT.tmp rfl) (OT.tmp rfl)) rfl rfl ?_
          refine tr_nil ?_
          refine then_normal ?_
          refine tr_cond (OT.tmp rfl) (fun c51 => ?_) (fun c51 => ?_)
          · skip
            have hr := decR_none (decV_none (cand_2n hs h2 (by simp at c51; omega)))
            refine tr_seq ?_
            -- region 15
            refine tr_env (es_cons (t := 2) (OT.tmp rfl) es_nil) ?_
            refine tr_region ?_
            refine op_pure (pu_build (d := kVl) (v0 := (0, 0, [])) (ps := [(0, 1), (1, 1), (2, 1)]) zVl (by kernel_rfl) rfl fills_nil) rfl rfl ?_
            refine op_acts (acts_store_var (OT.tmp rfl) (OT.tmp rfl) (by exact perm_at 1 rfl) (show tyOk Tryd.prog 23 true 3 = true from by decide +kernel)) (by exact perm_at 1 rfl) rfl rfl (fun _ _ => ?_)
            refine op_pure (pu_assign OT.const) rfl rfl ?_
            refine op_pure (pu_assign OT.const) rfl rfl ?_
            refine tr_nil ?_
            refine then_normal ?_
            refine tr_ret ?_
            refine then_ret ?_
            refine block_ret ?_
            refine then_ret ?_
            exact ret_cell_tmp2 .ret (.inl rfl) rfl () (OT.tmp rfl) (by exact mem_at 0 rfl) (show tyOk Tryd.prog 23 true 3 = true from by decide +kernel) (OT.val (OT.tmp rfl) (congrArg (Value.int _) (congrArg (fun p => p.2.1) hr).symm)) (OT.val (OT.tmp rfl) (congrArg (Value.int _) (congrArg (fun p => p.2.2) hr).symm)) (fun _ _ h => (by rw [hr] at h ⊢; exact h)) trivial (by exact picks_nil)
          · skip
            have h2l : ¬ b.length < 2 + b1 b := by simp at c51; omega
            refine tr_skip ?_
            refine then_normal ?_
            -- region 16
            refine tr_env (es_cons (t := 0) (OT.tmp rfl) (es_cons (t := 2) (OT.tmp rfl) (es_cons (t := 5) (OT.tmp rfl) (es_cons (t := 6) (OT.tmp rfl) es_nil)))) ?_
            refine tr_region ?_
            refine op_pure (pu_move (OT.tmp rfl)) rfl rfl ?_
            refine op_pure (pu_move (OT.tmp rfl)) rfl rfl ?_
            refine op_pure (pu_slice (OT.tmp rfl) OT.const (OT.tmp rfl) Tryd.underlying26 (show tyOk Tryd.prog 5 false 1 = true from by decide +kernel) (by omega) (by omega) (by (simp; omega))) rfl rfl ?_
            refine op_pure (pu_bytes_bs (OT.tmp rfl) Tryd.underlying26 Tryd.underlying5 Tryd.underlying9) rfl rfl ?_
            refine tr_as 56 (T := BsT ((b.drop 2).take (b1 b))) (OT.val (OT.tmp rfl) (congrArg Value.string (congrArg bs (cut2 b (b1 b))))) ?_
            refine op_pure (pu_faddr (OT.tmp rfl) (show fieldOk Tryd.prog 23 2 2 false 1 = true from by decide +kernel)) rfl rfl ?_
            refine op_acts (acts_store_blk (OT.tmp rfl) (OT.tmp rfl) (by exact perm_at 0 rfl) lv2 (show tyOk Tryd.prog 9 false 1 = true from by decide +kernel)) (by exact perm_at 0 rfl) rfl rfl (fun _ _ => ?_)
            refine tr_nil ?_
            refine block_normal ?_
            refine then_normal ?_
            exact tr_joined (((b0 b : Int), 0, (b.drop 2).take (b1 b)), 2 + b1 b) ⟨by rw [cand_2 hs h2 h2l, h2]; rfl, by show (List.take _ _).length ≤ 255; rw [List.length_take]; omega⟩ (es_append (es_cons (t := 6) (by exact OT.tmp rfl) es_nil) (es_cons (t := 2) (OT.tmp rfl) (es_cons (t := 5) (OT.tmp rfl) es_nil))) (own_picks (by repeat (first | exact picks_nil | refine picks_cons 0 rfl ?_ | refine picks_cons 1 rfl ?_ | refine picks_cons 2 rfl ?_ | refine picks_cons 3 rfl ?_ | refine picks_cons 4 rfl ?_ | refine picks_cons 5 rfl ?_ | refine picks_cons 6 rfl ?_)))
        · skip
          have h2 : b0 b ≠ 2 := by have h9 := of_decide_eq_false c40; omega
          refine tr_seq ?_
          -- region 6
          refine tr_env (es_cons (t := 0) (OT.tmp rfl) (es_cons (t := 2) (OT.tmp rfl) (es_cons (t := 5) (OT.tmp rfl) es_nil))) ?_
          refine tr_region ?_
          refine op_pure (pu_move (OT.tmp rfl)) rfl rfl ?_
          refine op_pure (pu_slice_lo (OT.tmp rfl) OT.const Tryd.underlying26 (show tyOk Tryd.prog 5 false 1 = true from by decide +kernel) (by omega) (by (simp; omega))) rfl rfl ?_
          refine tr_as 22 (T := SlT (kint .u8) (nums (b.drop 1))) (OT.eq (OT.tmp rfl) (congrArg (SlT (kint .u8)) (by simp [nums, List.map_drop]))) ?_
          refine op_acts (acts_call (number_fn (b.drop 1) (by simp; omega)) (show enters Tryd.prog 51 = true from by decide +kernel) (OTs.cons (OT.tmp rfl) OTs.nil) (List.Perm.refl _)) (List.Perm.refl _) rfl rfl (fun _ _ => ?_)
          refine op_pure (pu_move (OT.tmp rfl)) rfl rfl ?_
          refine op_pure (pu_extract (OT.tmp rfl) rfl) rfl rfl ?_
          refine op_pure (pu_extract (OT.tmp rfl) rfl) rfl rfl ?_
          refine op_pure (pu_assign (OT.tmp rfl)) rfl rfl ?_
          refine op_pure (pu_assign (OT.tmp rfl)) rfl rfl ?_
          refine tr_nil ?_
          refine then_normal ?_
          refine tr_seq ?_
          -- region 7
          refine tr_env (es_cons (t := 2) (OT.tmp rfl) (es_cons (t := 5) (OT.tmp rfl) (es_cons (t := 7) (OT.tmp rfl) (es_cons (t := 8) (OT.tmp rfl) es_nil)))) ?_
          refine tr_region ?_
          refine op_pure (pu_move (OT.tmp rfl)) rfl rfl ?_
          refine op_pure (pu_move (OT.tmp rfl)) rfl rfl ?_
          refine op_pure (pu_add (OT.tmp rfl) OT.const) rfl rfl ?_
          refine op_pure (pu_faddr (OT.tmp rfl) (show fieldOk Tryd.prog 23 1 1 false 1 = true from by decide +kernel)) rfl rfl ?_
          refine op_acts (acts_store_blk (OT.tmp rfl) (OT.tmp rfl) (by exact perm_at 0 rfl) lv1 (show tyOk Tryd.prog 3 false 1 = true from by decide +kernel)) (by exact perm_at 0 rfl) rfl rfl (fun _ _ => ?_)
          refine op_pure (pu_assign (OT.tmp rfl)) rfl rfl ?_
          refine tr_nil ?_
          refine then_normal ?_
          refine tr_seq ?_
          -- region 8
          refine tr_env (es_cons (t := 2) (OT.tmp rfl) (es_cons (t := 5) (OT.tmp rfl) (es_cons (t := 6) (OT.tmp rfl) (es_cons (t := 8) (OT.tmp rfl) es_nil)))) ?_
          refine tr_region ?_
          refine op_pure (pu_move (OT.tmp rfl)) rfl rfl ?_
          refine op_pure (pu_eql (OT.tmp rfl) OT.const) rfl rfl ?_
          refine tr_nil ?_
          refine then_normal ?_
          refine tr_cond (OT.tmp rfl) (fun c31 => ?_) (fun c31 => ?_)
          · skip
            have hr := decR_none (decV_none (by rw [cand_n hs h3 h2, numR_zero (by simpa using c31)]; rfl))
            refine tr_seq ?_
            -- region 9
            refine tr_env (es_cons (t := 2) (OT.tmp rfl) es_nil) ?_
            refine tr_region ?_
            refine op_pure (pu_build (d := kVl) (v0 := (0, 0, [])) (ps := [(0, 1), (1, 1), (2, 1)]) zVl (by kernel_rfl) rfl fills_nil) rfl rfl ?_
            refine op_acts (acts_store_var (OT.tmp rfl) (OT.tmp rfl) (by exact perm_at 1 rfl) (show tyOk Tryd.prog 23 true 3 = true from by decide +kernel)) (by exact perm_at 1 rfl) rfl rfl (fun _ _ => ?_)
            refine op_pure (pu_assign OT.const) rfl rfl ?_
            refine op_pure (pu_assign OT.const) rfl rfl ?_
            refine tr_nil ?_
            refine then_normal ?_
            refine tr_ret ?_
            refine block_ret ?_
            refine then_ret ?_
            exact ret_cell_tmp2 .ret (.inl rfl) rfl () (OT.tmp rfl) (by exact mem_at 0 rfl) (show tyOk Tryd.prog 23 true 3 = true from by decide +kernel) (OT.val (OT.tmp rfl) (congrArg (Value.int _) (congrArg (fun p => p.2.1) hr).symm)) (OT.val (OT.tmp rfl) (congrArg (Value.int _) (congrArg (fun p => p.2.2) hr).symm)) (fun _ _ h => (by rw [hr] at h ⊢; exact h)) trivial (by exact picks_nil)
          · skip
            obtain ⟨n, k, hn1, hn2, hk10⟩ := numR_pos (l := b.drop 1) (by simpa using c31)
            rw [hn2]
            refine tr_skip ?_
            refine block_normal ?_
            refine then_normal ?_
            exact tr_joined (((b0 b : Int), unzig n, []), k + 1) ⟨by rw [cand_n hs h3 h2, hn1]; rfl, by show (0 : Nat) ≤ 255; omega⟩ (es_append (es_cons (t := 6) (OT.val (OT.tmp rfl) (congrArg (Value.int _) (wrap_k hk10))) es_nil) (es_cons (t := 2) (OT.tmp rfl) (es_cons (t := 5) (OT.tmp rfl) es_nil))) (own_picks (by repeat (first | exact picks_nil | refine picks_cons 0 rfl ?_ | refine picks_cons 1 rfl ?_ | refine picks_cons 2 rfl ?_ | refine picks_cons 3 rfl ?_ | refine picks_cons 4 rfl ?_ | refine picks_cons 5 rfl ?_ | refine picks_cons 6 rfl ?_)))
    · rintro ⟨v, u⟩ hcd
      dsimp only at hcd ⊢
      refine tr_seq ?_
      refine tr_seq ?_
      -- region 17
      refine tr_env (es_cons (t := 2) (OT.tmp rfl) (es_cons (t := 5) (OT.tmp rfl) (es_cons (t := 6) (OT.tmp rfl) es_nil))) ?_
      refine tr_region ?_
      refine op_pure (pu_load_var (OT.tmp rfl) (by exact mem_at 0 rfl) (show tyOk Tryd.prog 23 true 3 = true from by decide +kernel)) rfl rfl ?_
      refine op_acts (acts_callM (Check_fn v hV (by omega)) (mk_in hK hn) (show enters Tryd.prog 15 = true from by decide +kernel) (OTs.cons (OT.tmp rfl) OTs.nil) (List.Perm.refl _)) (List.Perm.refl _) rfl rfl (fun _ _ => ?_)
      refine op_pure (pu_neq (OT.tmp rfl) OT.const) rfl rfl ?_
      refine tr_nil ?_
      refine then_normal ?_
      refine tr_cond (OT.tmp rfl) (fun c60 => ?_) (fun c60 => ?_)
      · skip
        have hr := decR_none (decV_bad hcd.1 (by simpa using c60))
        refine tr_seq ?_
        -- region 18
        refine tr_env (es_cons (t := 2) (OT.tmp rfl) es_nil) ?_
        refine tr_region ?_
        refine op_pure (pu_build (d := kVl) (v0 := (0, 0, [])) (ps := [(0, 1), (1, 1), (2, 1)]) zVl (by kernel_rfl) rfl fills_nil) rfl rfl ?_
        refine op_acts (acts_store_var (OT.tmp rfl) (OT.tmp rfl) (by exact perm_at 1 rfl) (show tyOk Tryd.prog 23 true 3 = true from by decide +kernel)) (by exact perm_at 1 rfl) rfl rfl (fun _ _ => ?_)
        refine op_pure (pu_assign OT.const) rfl rfl ?_
        refine op_pure (pu_assign OT.const) rfl rfl ?_
        refine tr_nil ?_
        refine then_normal ?_
        refine tr_ret ?_
        refine then_ret ?_
        exact ret_cell_tmp2 .ret (.inl rfl) rfl () (OT.tmp rfl) (by exact mem_at 0 rfl) (show tyOk Tryd.prog 23 true 3 = true from by decide +kernel) (OT.val (OT.tmp rfl) (congrArg (Value.int _) (congrArg (fun p => p.2.1) hr).symm)) (OT.val (OT.tmp rfl) (congrArg (Value.int _) (congrArg (fun p => p.2.2) hr).symm)) (fun _ _ h => (by rw [hr] at h ⊢; exact h)) trivial (by exact picks_nil)
      · skip
        have hr := decR_some (decV_ok hcd.1 (by simpa using c60))
        refine tr_skip ?_
        refine then_normal ?_
        refine tr_seq ?_
        -- region 19
        refine tr_env (es_cons (t := 2) (OT.tmp rfl) (es_cons (t := 5) (OT.tmp rfl) (es_cons (t := 6) (OT.tmp rfl) es_nil))) ?_
        refine tr_region ?_
        refine op_pure (pu_load_var (OT.tmp rfl) (by exact mem_at 0 rfl) (show tyOk Tryd.prog 23 true 3 = true from by decide +kernel)) rfl rfl ?_
        refine op_pure (pu_move (OT.tmp rfl)) rfl rfl ?_
        refine op_acts (acts_store_var (OT.tmp rfl) (OT.tmp rfl) (by exact perm_at 1 rfl) (show tyOk Tryd.prog 23 true 3 = true from by decide +kernel)) (by exact perm_at 1 rfl) rfl rfl (fun _ _ => ?_)
        refine op_pure (pu_assign (OT.tmp rfl)) rfl rfl ?_
        refine op_pure (pu_assign OT.const) rfl rfl ?_
        refine tr_nil ?_
        refine then_normal ?_
        refine tr_ret ?_
        exact ret_cell_tmp2 .ret (.inl rfl) rfl () (OT.tmp rfl) (by exact mem_at 0 rfl) (show tyOk Tryd.prog 23 true 3 = true from by decide +kernel) (OT.val (OT.tmp rfl) (congrArg (Value.int _) (congrArg (fun p => p.2.1) hr).symm)) (OT.val (OT.tmp rfl) (congrArg (Value.int _) (congrArg (fun p => p.2.2) hr).symm)) (fun _ _ h => (by rw [hr] at h ⊢; exact h)) trivial (by exact picks_nil)
end Go.Proofs.YtdlendioamiagaaDoor
/- Walks through the Go functions rhizomeref02.Decode, rhizomelaw02.ValReads, as typed contracts. -/
namespace Go.Proofs.YtdlendioamiagaaDoor
open Go Go.Gw Go.Vl
set_option linter.unusedVariables false
set_option linter.unusedSimpArgs false

end Go.Proofs.YtdlendioamiagaaDoor
/- Walks through the Go functions rhizomelaw02.ValBack, as typed contracts. -/
namespace Go.Proofs.YtdlendioamiagaaDoor
open Go Go.Gw Go.Vl
set_option linter.unusedVariables false
set_option linter.unusedSimpArgs false

end Go.Proofs.YtdlendioamiagaaDoor
/- Walks through the Go functions rhizomelaw02.ValEnds, as typed contracts. -/
namespace Go.Proofs.YtdlendioamiagaaDoor
open Go Go.Gw Go.Vl
set_option linter.unusedVariables false
set_option linter.unusedSimpArgs false

set_option maxRecDepth 20000 in
/-- rhizome/rhizomelaw02.ValEnds -/
theorem ValEnds_fn {K0 : FH} {n0 : Nat} (b : Int) (ls : Bool) (hV : VarsV K0) : CtM K0 n0 Tryd.prog 8 [I64 b, BoolT ls] ([]) Unit (fun _ => BoolT true) (fun _ => []) (fun _ => True) := by
  refine fn_introM Tryd.func8 rfl rfl ?_
  intro H w hK hn
  refine tr_seq ?_
  -- region 0
  refine tr_env (es_cons (t := 0) (OT.tmp rfl) (es_cons (t := 1) (OT.tmp rfl) es_nil)) ?_
  refine tr_region ?_
  refine op_pure (pu_assign OT.const) rfl rfl ?_
  refine tr_nil ?_
  refine then_normal ?_
  refine tr_seq ?_
  refine tr_seq ?_
  -- region 1
  refine tr_env (es_cons (t := 0) (OT.tmp rfl) (es_cons (t := 1) (OT.tmp rfl) es_nil)) ?_
  refine tr_region ?_
  refine op_acts (acts_callM (awake_fn hV) (mk_in hK hn) (show enters Tryd.prog 11 = true from by decide +kernel) OTs.nil (List.Perm.refl _)) (List.Perm.refl _) rfl rfl (fun _ _ => ?_)
  refine op_pure (pu_not (OT.tmp rfl)) rfl rfl ?_
  refine tr_nil ?_
  refine then_normal ?_
  refine tr_cond (OT.tmp rfl) (fun c18 => ?_) (fun c18 => ?_)
  · skip
    exact absurd c18 (by simp) --done
  · skip
    refine tr_skip ?_
    refine then_normal ?_
    refine tr_seq ?_
    -- region 3
    refine tr_env (es_cons (t := 0) (OT.tmp rfl) (es_cons (t := 1) (OT.tmp rfl) es_nil)) ?_
    refine tr_region ?_
    refine op_pure (pu_move (OT.tmp rfl)) rfl rfl ?_
    refine op_pure (pu_convert (OT.tmp rfl) Tryd.underlying3 Tryd.underlying55) rfl rfl ?_
    refine op_pure (pu_rem (OT.tmp rfl) OT.const (by omega)) rfl rfl ?_
    refine op_pure (pu_convert (OT.tmp rfl) Tryd.underlying55 Tryd.underlying3) rfl rfl ?_
    refine op_pure (pu_assign (OT.tmp rfl)) rfl rfl ?_
    refine tr_nil ?_
    refine then_normal ?_
    refine tr_seq ?_
    -- region 4
    refine tr_env (es_cons (t := 0) (OT.tmp rfl) (es_cons (t := 1) (OT.tmp rfl) es_nil)) ?_
    obtain ⟨q, hq, hq63⟩ := q_is b
    rw [hq]
    obtain ⟨A, hA, hA2, hA1, hA62⟩ := pow_q hq63
    refine tr_region ?_
    refine op_pure (pu_move (OT.tmp rfl)) rfl rfl ?_
    refine op_pure (pu_shl OT.const (OT.tmp rfl) (by omega)) rfl rfl ?_
    refine op_pure (pu_assign (OT.tmp rfl)) rfl rfl ?_
    refine tr_nil ?_
    rw [hA]
    refine then_normal ?_
    refine tr_joinK (σ := Int) (es_cons (t := 0) (OT.tmp rfl) es_nil) (fun z => [(5, I64 z)]) (fun z => []) (fun z => (z = (A : Int) ∨ z = -(A : Int))) ?_ ?_
    · skip
      refine tr_seq ?_
      -- region 5
      refine tr_env (es_cons (t := 0) (OT.tmp rfl) (es_cons (t := 1) (OT.tmp rfl) (es_cons (t := 5) (OT.tmp rfl) es_nil))) ?_
      refine tr_region ?_
      refine op_pure (pu_move (OT.tmp rfl)) rfl rfl ?_
      refine tr_nil ?_
      refine then_normal ?_
      refine tr_cond (OT.tmp rfl) (fun c25 => ?_) (fun c25 => ?_)
      · skip
        -- region 6
        refine tr_env (es_cons (t := 0) (OT.tmp rfl) (es_cons (t := 5) (OT.tmp rfl) es_nil)) ?_
        refine tr_region ?_
        refine op_pure (pu_move (OT.tmp rfl)) rfl rfl ?_
        refine op_pure (pu_neg (OT.tmp rfl) (by omega)) rfl rfl ?_
        refine op_pure (pu_assign (OT.tmp rfl)) rfl rfl ?_
        refine tr_nil ?_
        refine then_normal ?_
        exact tr_joined (-(A : Int)) (.inr rfl) (es_append (es_cons (t := 5) (OT.tmp rfl) es_nil) (es_cons (t := 0) (OT.tmp rfl) es_nil)) (own_picks (by exact picks_nil))
      · skip
        refine tr_skip ?_
        refine then_normal ?_
        exact tr_joined (A : Int) (.inl rfl) (es_append (es_cons (t := 5) (OT.tmp rfl) es_nil) (es_cons (t := 0) (OT.tmp rfl) es_nil)) (own_picks (by exact picks_nil))
    · rintro z hz
      refine tr_seq ?_
      refine tr_seq ?_
      -- region 7
      refine tr_env (es_cons (t := 0) (OT.tmp rfl) (es_cons (t := 5) (OT.tmp rfl) es_nil)) ?_
      refine tr_region ?_
      refine op_pure (pu_assign OT.const) rfl rfl ?_
      refine tr_nil ?_
      refine then_normal ?_
      refine tr_block ?_
      refine tr_loopK (σ := Int) (es_cons (t := 0) (OT.tmp rfl) (es_cons (t := 5) (OT.tmp rfl) es_nil)) (fun d => [(6, I64 d)]) (fun d => []) (fun d => -1 ≤ d ∧ d ≤ 2) (fun d => (2 - d).toNat) (-1) (by omega) ?_ (own_picks (by exact picks_nil)) ?_
      · exact (es_cons (t := 6) (OT.tmp rfl) es_nil)
      · rintro d hd9
        refine tr_seq ?_
        refine tr_seq ?_
        -- region 8
        refine tr_env (es_cons (t := 0) (OT.tmp rfl) (es_cons (t := 5) (OT.tmp rfl) (es_cons (t := 6) (OT.tmp rfl) es_nil))) ?_
        refine tr_region ?_
        refine op_pure (pu_move (OT.tmp rfl)) rfl rfl ?_
        refine op_pure (pu_leq (OT.tmp rfl) OT.const) rfl rfl ?_
        refine tr_nil ?_
        refine then_normal ?_
        refine tr_cond (OT.tmp rfl) (fun c29 => ?_) (fun c29 => ?_)
        · skip
          refine tr_skip ?_
          refine then_normal ?_
          refine tr_seq ?_
          refine tr_block ?_
          refine tr_seq ?_
          -- region 10
          refine tr_env (es_cons (t := 0) (OT.tmp rfl) (es_cons (t := 5) (OT.tmp rfl) (es_cons (t := 6) (OT.tmp rfl) es_nil))) ?_
          have hm0 : -9223372036854775808 ≤ z + d := by omega
          have hm1 : z + d ≤ 9223372036854775807 := by omega
          have hd1 : d ≤ 1 := by simp at c29; omega
          refine tr_region ?_
          refine op_pure (pu_move (OT.tmp rfl)) rfl rfl ?_
          refine op_pure (pu_move (OT.tmp rfl)) rfl rfl ?_
          refine op_pure (pu_add' (OT.tmp rfl) (OT.tmp rfl) (by omega)) rfl rfl ?_
          refine op_pure (pu_build (d := kVl) (v0 := (0, 0, [])) (ps := [(0, 1), (1, 1), (2, 1)]) zVl (by kernel_rfl) rfl (fills_cons rfl lv0 OT.const (fills_cons rfl lv1 (OT.tmp rfl) fills_nil))) rfl rfl ?_
          refine op_acts (acts_alloc (zVl)) (List.Perm.refl _) rfl rfl (fun g10_4 _ => ?_)
          refine op_acts (acts_store_var (OT.tmp rfl) (OT.tmp rfl) (by exact perm_at 0 rfl) (show tyOk Tryd.prog 23 true 3 = true from by decide +kernel)) (by exact perm_at 0 rfl) rfl rfl (fun _ _ => ?_)
          refine tr_nil ?_
          refine then_normal ?_
          refine tr_seq ?_
          -- region 11
          refine tr_env (es_cons (t := 0) (OT.tmp rfl) (es_cons (t := 5) (OT.tmp rfl) (es_cons (t := 6) (OT.tmp rfl) (es_cons (t := 7) (OT.tmp rfl) es_nil)))) ?_
          obtain ⟨a1, a2, a3, a4⟩ := int_all hm0 hm1
          have hel := encV_max a1 hm0 hm1
          have hil := itoa_max hm0 hm1
          have hends := ends_len hq63 (m := z + d) (by rw [hA2]; omega)
          refine tr_region ?_
          refine op_pure (pu_load_var (OT.tmp rfl) (by exact mem_at 0 rfl) (show tyOk Tryd.prog 23 true 3 = true from by decide +kernel)) rfl rfl ?_
          refine op_acts (acts_callM (Encode_fn (1, z + d, []) hV (by show (0 : Nat) ≤ 140737488351232; omega) hm0 hm1) (mk_in hK hn) (show enters Tryd.prog 13 = true from by decide +kernel) (OTs.cons (OT.tmp rfl) OTs.nil) (List.Perm.refl _)) (List.Perm.refl _) rfl rfl (fun _ _ => ?_)
          refine op_pure (pu_move (OT.tmp rfl)) rfl rfl ?_
          refine op_pure (pu_extract (OT.tmp rfl) rfl) rfl rfl ?_
          refine op_pure (pu_extract (OT.tmp rfl) rfl) rfl rfl ?_
          refine op_pure (pu_assign (OT.tmp rfl)) rfl rfl ?_
          refine op_pure (pu_assign (OT.tmp rfl)) rfl rfl ?_
          refine tr_nil ?_
          refine then_normal ?_
          refine tr_seq ?_
          -- region 12
          refine tr_env (es_cons (t := 0) (OT.tmp rfl) (es_cons (t := 5) (OT.tmp rfl) (es_cons (t := 6) (OT.tmp rfl) (es_cons (t := 7) (OT.tmp rfl) (es_cons (t := 8) (OT.tmp rfl) (es_cons (t := 9) (OT.tmp rfl) es_nil)))))) ?_
          rw [encR_ok a1, a1]
          refine tr_region ?_
          refine op_pure (pu_load_var (OT.tmp rfl) (by exact mem_at 0 rfl) (show tyOk Tryd.prog 23 true 3 = true from by decide +kernel)) rfl rfl ?_
          refine op_acts (acts_callM (Show_fn (1, z + d, []) hV (by show (0 : Nat) ≤ 140737488351232; omega) hm0 hm1) (mk_in hK hn) (show enters Tryd.prog 14 = true from by decide +kernel) (OTs.cons (OT.tmp rfl) OTs.nil) (List.Perm.refl _)) (List.Perm.refl _) rfl rfl (fun _ _ => ?_)
          refine op_pure (pu_move (OT.tmp rfl)) rfl rfl ?_
          refine op_pure (pu_extract (OT.tmp rfl) rfl) rfl rfl ?_
          refine op_pure (pu_extract (OT.tmp rfl) rfl) rfl rfl ?_
          refine op_pure (pu_assign (OT.tmp rfl)) rfl rfl ?_
          refine op_pure (pu_assign (OT.tmp rfl)) rfl rfl ?_
          refine tr_nil ?_
          refine then_normal ?_
          refine tr_seq ?_
          -- region 13
          refine tr_env (es_cons (t := 0) (OT.tmp rfl) (es_cons (t := 5) (OT.tmp rfl) (es_cons (t := 6) (OT.tmp rfl) (es_cons (t := 7) (OT.tmp rfl) (es_cons (t := 8) (OT.tmp rfl) (es_cons (t := 9) (OT.tmp rfl) (es_cons (t := 10) (OT.tmp rfl) (es_cons (t := 11) (OT.tmp rfl) es_nil)))))))) ?_
          rw [showR_ok a1, a2, a1]
          refine tr_region ?_
          refine op_pure (pu_move (OT.tmp rfl)) rfl rfl ?_
          refine op_acts (acts_callM (Parse_fn (Lib.itoa (z + d)) hV (by omega)) (mk_in hK hn) (show enters Tryd.prog 18 = true from by decide +kernel) (OTs.cons (OT.tmp rfl) OTs.nil) (List.Perm.refl _)) (List.Perm.refl _) rfl rfl (fun _ _ => ?_)
          refine op_pure (pu_move (OT.tmp rfl)) rfl rfl ?_
          refine op_pure (pu_extract (OT.tmp rfl) rfl) rfl rfl ?_
          refine op_pure (pu_extract (OT.tmp rfl) rfl) rfl rfl ?_
          refine op_acts (acts_alloc (zVl)) (List.Perm.refl _) rfl rfl (fun g13_5 _ => ?_)
          refine op_acts (acts_store_var (OT.tmp rfl) (OT.tmp rfl) (by exact perm_at 0 rfl) (show tyOk Tryd.prog 23 true 3 = true from by decide +kernel)) (by exact perm_at 0 rfl) rfl rfl (fun _ _ => ?_)
          refine op_pure (pu_assign (OT.tmp rfl)) rfl rfl ?_
          refine tr_nil ?_
          refine then_normal ?_
          refine tr_seq ?_
          -- region 14
          refine tr_env (es_cons (t := 0) (OT.tmp rfl) (es_cons (t := 5) (OT.tmp rfl) (es_cons (t := 6) (OT.tmp rfl) (es_cons (t := 7) (OT.tmp rfl) (es_cons (t := 8) (OT.tmp rfl) (es_cons (t := 9) (OT.tmp rfl) (es_cons (t := 10) (OT.tmp rfl) (es_cons (t := 11) (OT.tmp rfl) (es_cons (t := 12) (OT.tmp rfl) (es_cons (t := 13) (OT.tmp rfl) es_nil)))))))))) ?_
          rw [a4]
          refine tr_region ?_
          refine op_pure (pu_move (OT.tmp rfl)) rfl rfl ?_
          refine op_acts (acts_callM (Decode_fn (encV (1, z + d, [])) hV (by omega)) (mk_in hK hn) (show enters Tryd.prog 24 = true from by decide +kernel) (OTs.cons (OT.tmp rfl) OTs.nil) (List.Perm.refl _)) (List.Perm.refl _) rfl rfl (fun _ _ => ?_)
          refine op_pure (pu_move (OT.tmp rfl)) rfl rfl ?_
          refine op_pure (pu_extract (OT.tmp rfl) rfl) rfl rfl ?_
          refine op_pure (pu_extract (OT.tmp rfl) rfl) rfl rfl ?_
          refine op_pure (pu_extract (OT.tmp rfl) rfl) rfl rfl ?_
          refine op_acts (acts_alloc (zVl)) (List.Perm.refl _) rfl rfl (fun g14_6 _ => ?_)
          refine op_acts (acts_store_var (OT.tmp rfl) (OT.tmp rfl) (by exact perm_at 0 rfl) (show tyOk Tryd.prog 23 true 3 = true from by decide +kernel)) (by exact perm_at 0 rfl) rfl rfl (fun _ _ => ?_)
          refine op_pure (pu_assign (OT.tmp rfl)) rfl rfl ?_
          refine op_pure (pu_assign (OT.tmp rfl)) rfl rfl ?_
          refine tr_nil ?_
          refine then_normal ?_
          refine tr_seq ?_
          -- region 15
          refine tr_env (es_cons (t := 0) (OT.tmp rfl) (es_cons (t := 5) (OT.tmp rfl) (es_cons (t := 6) (OT.tmp rfl) (es_cons (t := 7) (OT.tmp rfl) (es_cons (t := 8) (OT.tmp rfl) (es_cons (t := 9) (OT.tmp rfl) (es_cons (t := 10) (OT.tmp rfl) (es_cons (t := 11) (OT.tmp rfl) (es_cons (t := 12) (OT.tmp rfl) (es_cons (t := 13) (OT.tmp rfl) (es_cons (t := 14) (OT.tmp rfl) (es_cons (t := 15) (OT.tmp rfl) (es_cons (t := 16) (OT.tmp rfl) es_nil))))))))))))) ?_
          rw [a3]
          refine tr_region ?_
          refine op_pure (pu_move (OT.tmp rfl)) rfl rfl ?_
          refine op_pure (pu_neq (OT.tmp rfl) OT.const) rfl rfl ?_
          refine op_pure (pu_move (OT.tmp rfl)) rfl rfl ?_
          refine op_gu rfl rfl rfl (OT.gu_mk (OT.tmp rfl)) (fun hg => by (have hg1 := hg.2; (try simp only [decide_eq_true_eq, decide_eq_false_iff_not] at hg1); exact pu_move (by exact OT.tmp rfl))) rfl ?_
          refine op_gu rfl rfl rfl (OT.gu_mk (OT.tmp rfl)) (fun hg => by (have hg1 := hg.2; (try simp only [decide_eq_true_eq, decide_eq_false_iff_not] at hg1); exact pu_neq (by exact OT.gu (OT.tmp rfl) hg) OT.const)) rfl ?_
          refine op_pure (pu_pick_or (OT.tmp rfl) (by exact OT.tmp rfl)) rfl rfl ?_
          refine op_pure (pu_move (OT.tmp rfl)) rfl rfl ?_
          refine op_gu rfl rfl rfl (OT.gu_mk (OT.tmp rfl)) (fun hg => by (have hg1 := hg.2; (try simp only [decide_eq_true_eq, decide_eq_false_iff_not] at hg1); exact pu_move (by exact OT.tmp rfl))) rfl ?_
          refine op_gu rfl rfl rfl (OT.gu_mk (OT.tmp rfl)) (fun hg => by (have hg1 := hg.2; (try simp only [decide_eq_true_eq, decide_eq_false_iff_not] at hg1); exact pu_neq (by exact OT.gu (OT.tmp rfl) hg) OT.const)) rfl ?_
          refine op_pure (pu_pick_or (OT.tmp rfl) (by exact OT.tmp rfl)) rfl rfl ?_
          refine op_pure (pu_move (OT.tmp rfl)) rfl rfl ?_
          refine op_gu rfl rfl rfl (OT.gu_mk (OT.tmp rfl)) (fun hg => by (have hg1 := hg.2; (try simp only [decide_eq_true_eq, decide_eq_false_iff_not] at hg1); exact pu_move (by exact OT.tmp rfl))) rfl ?_
          refine op_gu rfl rfl rfl (OT.gu_mk (OT.tmp rfl)) (fun hg => by (have hg1 := hg.2; (try simp only [decide_eq_true_eq, decide_eq_false_iff_not] at hg1); exact pu_neq (by exact OT.gu (OT.tmp rfl) hg) OT.const)) rfl ?_
          refine op_pure (pu_pick_or (OT.tmp rfl) (by exact OT.tmp rfl)) rfl rfl ?_
          refine op_pure (pu_move (OT.tmp rfl)) rfl rfl ?_
          refine op_gu rfl rfl rfl (OT.gu_mk (OT.tmp rfl)) (fun hg => by (have hg1 := hg.2; (try simp only [decide_eq_true_eq, decide_eq_false_iff_not] at hg1); exact pu_load_var (by exact OT.tmp rfl) (by exact mem_at 1 rfl) (show tyOk Tryd.prog 23 true 3 = true from by decide +kernel))) rfl ?_
          refine op_gu rfl rfl rfl (OT.gu_mk (OT.tmp rfl)) (fun hg => by (have hg1 := hg.2; (try simp only [decide_eq_true_eq, decide_eq_false_iff_not] at hg1); exact pu_load_var (by exact OT.tmp rfl) (by exact mem_at 2 rfl) (show tyOk Tryd.prog 23 true 3 = true from by decide +kernel))) rfl ?_
          refine op_gu rfl rfl rfl (OT.gu_mk (OT.tmp rfl)) (fun hg => by (have hg1 := hg.2; (try simp only [decide_eq_true_eq, decide_eq_false_iff_not] at hg1); exact pu_ne_of eqVl (by exact OT.gu (OT.tmp rfl) hg) (by exact OT.gu (OT.tmp rfl) hg))) rfl ?_
          refine op_pure (pu_pick_or (OT.tmp rfl) (by exact OT.tmp rfl)) rfl rfl ?_
          refine op_pure (pu_move (OT.tmp rfl)) rfl rfl ?_
          refine op_gu rfl rfl rfl (OT.gu_mk (OT.tmp rfl)) (fun hg => by (have hg1 := hg.2; (try simp only [decide_eq_true_eq, decide_eq_false_iff_not] at hg1); exact pu_load_var (by exact OT.tmp rfl) (by exact mem_at 0 rfl) (show tyOk Tryd.prog 23 true 3 = true from by decide +kernel))) rfl ?_
          refine op_gu rfl rfl rfl (OT.gu_mk (OT.tmp rfl)) (fun hg => by (have hg1 := hg.2; (try simp only [decide_eq_true_eq, decide_eq_false_iff_not] at hg1); exact pu_load_var (by exact OT.tmp rfl) (by exact mem_at 2 rfl) (show tyOk Tryd.prog 23 true 3 = true from by decide +kernel))) rfl ?_
          refine op_gu rfl rfl rfl (OT.gu_mk (OT.tmp rfl)) (fun hg => by (have hg1 := hg.2; (try simp only [decide_eq_true_eq, decide_eq_false_iff_not] at hg1); exact pu_ne_of eqVl (by exact OT.gu (OT.tmp rfl) hg) (by exact OT.gu (OT.tmp rfl) hg))) rfl ?_
          refine op_pure (pu_pick_or (OT.tmp rfl) (by exact OT.tmp rfl)) rfl rfl ?_
          refine op_pure (pu_move (OT.tmp rfl)) rfl rfl ?_
          refine op_gu rfl rfl rfl (OT.gu_mk (OT.tmp rfl)) (fun hg => by (have hg1 := hg.2; (try simp only [decide_eq_true_eq, decide_eq_false_iff_not] at hg1); exact pu_move (by exact OT.tmp rfl))) rfl ?_
          refine op_gu rfl rfl rfl (OT.gu_mk (OT.tmp rfl)) (fun hg => by (have hg1 := hg.2; (try simp only [decide_eq_true_eq, decide_eq_false_iff_not] at hg1); exact pu_move (by exact OT.tmp rfl))) rfl ?_
          refine op_gu rfl rfl rfl (OT.gu_mk (OT.tmp rfl)) (fun hg => by (have hg1 := hg.2; (try simp only [decide_eq_true_eq, decide_eq_false_iff_not] at hg1); exact pu_len_sl (by exact OT.gu (OT.tmp rfl) hg) Tryd.underlying26)) rfl ?_
          refine op_gu rfl rfl rfl (OT.gu_mk (OT.tmp rfl)) (fun hg => by (have hg1 := hg.2; (try simp only [decide_eq_true_eq, decide_eq_false_iff_not] at hg1); exact pu_neq (by exact OT.gu (OT.tmp rfl) hg) (by exact OT.gu (OT.tmp rfl) hg))) rfl ?_
          refine op_pure (pu_pick_or (OT.tmp rfl) (by exact OT.tmp rfl)) rfl rfl ?_
          refine op_pure (pu_move (OT.tmp rfl)) rfl rfl ?_
          refine op_gu rfl rfl rfl (OT.gu_mk (OT.tmp rfl)) (fun hg => by (have hg1 := hg.2; (try simp only [decide_eq_true_eq, decide_eq_false_iff_not] at hg1); exact pu_move (by exact OT.tmp rfl))) rfl ?_
          refine op_gu rfl rfl rfl (OT.gu_mk (OT.tmp rfl)) (fun hg => by (have hg1 := hg.2; (try simp only [decide_eq_true_eq, decide_eq_false_iff_not] at hg1); exact pu_move (by exact OT.tmp rfl))) rfl ?_
          refine op_gu rfl rfl rfl (OT.gu_mk (OT.tmp rfl)) (fun hg => by (have hg1 := hg.2; (try simp only [decide_eq_true_eq, decide_eq_false_iff_not] at hg1); exact pu_move (by exact OT.tmp rfl))) rfl ?_
          refine op_gu rfl rfl rfl (OT.gu_mk (OT.tmp rfl)) (fun hg => by (have hg1 := hg.2; (try simp only [decide_eq_true_eq, decide_eq_false_iff_not] at hg1); exact pu_add' (by exact OT.gu (OT.tmp rfl) hg) (by exact OT.gu (OT.tmp rfl) hg) (by omega))) rfl ?_
          refine op_gu_acts () rfl rfl rfl (OT.gu_mk (OT.tmp rfl)) (fun hg => by (have hg1 := hg.2; (try simp only [decide_eq_true_eq, decide_eq_false_iff_not] at hg1); exact acts_call (Digits_fn (z + d) hm0 hm1) (show enters Tryd.prog 26 = true from by decide +kernel) (OTs.cons (by exact OT.gu (OT.tmp rfl) hg) OTs.nil) (List.Perm.refl _))) rfl (fun _ _ => ?_)
          refine op_gu rfl rfl rfl (OT.gu_mk (OT.tmp rfl)) (fun hg => by (have hg1 := hg.2; (try simp only [decide_eq_true_eq, decide_eq_false_iff_not] at hg1); exact pu_bs_neq (by exact OT.gu (OT.tmp rfl) hg) (by exact OT.gu (OT.tmp rfl) hg))) rfl ?_
          refine op_pure (pu_pick_or (OT.tmp rfl) (by exact OT.tmp rfl)) rfl rfl ?_
          refine op_pure (pu_move (OT.tmp rfl)) rfl rfl ?_
          refine op_gu rfl rfl rfl (OT.gu_mk (OT.tmp rfl)) (fun hg => by (have hg1 := hg.2; (try simp only [decide_eq_true_eq, decide_eq_false_iff_not] at hg1); exact pu_move (by exact OT.tmp rfl))) rfl ?_
          refine op_gu rfl rfl rfl (OT.gu_mk (OT.tmp rfl)) (fun hg => by (have hg1 := hg.2; (try simp only [decide_eq_true_eq, decide_eq_false_iff_not] at hg1); exact pu_len_sl (by exact OT.gu (OT.tmp rfl) hg) Tryd.underlying26)) rfl ?_
          refine op_gu rfl rfl rfl (OT.gu_mk (OT.tmp rfl)) (fun hg => by (have hg1 := hg.2; (try simp only [decide_eq_true_eq, decide_eq_false_iff_not] at hg1); exact pu_move (by exact OT.tmp rfl))) rfl ?_
          refine op_gu rfl rfl rfl (OT.gu_mk (OT.tmp rfl)) (fun hg => by (have hg1 := hg.2; (try simp only [decide_eq_true_eq, decide_eq_false_iff_not] at hg1); exact pu_quo' (by exact OT.gu (OT.tmp rfl) hg) OT.const (by omega) (by omega))) rfl ?_
          refine op_gu rfl rfl rfl (OT.gu_mk (OT.tmp rfl)) (fun hg => by (have hg1 := hg.2; (try simp only [decide_eq_true_eq, decide_eq_false_iff_not] at hg1); exact pu_add' (by exact OT.gu (OT.tmp rfl) hg) OT.const (by omega))) rfl ?_
          refine op_gu rfl rfl rfl (OT.gu_mk (OT.tmp rfl)) (fun hg => by (have hg1 := hg.2; (try simp only [decide_eq_true_eq, decide_eq_false_iff_not] at hg1); exact pu_gtr (by exact OT.gu (OT.tmp rfl) hg) (by exact OT.gu (OT.tmp rfl) hg))) rfl ?_
          refine op_pure (pu_pick_or (OT.tmp rfl) (by exact OT.tmp rfl)) rfl rfl ?_
          refine op_pure (pu_move (OT.tmp rfl)) rfl rfl ?_
          refine op_gu rfl rfl rfl (OT.gu_mk (OT.tmp rfl)) (fun hg => by (have hg1 := hg.2; (try simp only [decide_eq_true_eq, decide_eq_false_iff_not] at hg1); exact pu_move (by exact OT.tmp rfl))) rfl ?_
          refine op_gu rfl rfl rfl (OT.gu_mk (OT.tmp rfl)) (fun hg => by (have hg1 := hg.2; (try simp only [decide_eq_true_eq, decide_eq_false_iff_not] at hg1); exact pu_len_sl (by exact OT.gu (OT.tmp rfl) hg) Tryd.underlying26)) rfl ?_
          refine op_gu rfl rfl rfl (OT.gu_mk (OT.tmp rfl)) (fun hg => by (have hg1 := hg.2; (try simp only [decide_eq_true_eq, decide_eq_false_iff_not] at hg1); exact pu_move (by exact OT.tmp rfl))) rfl ?_
          refine op_gu rfl rfl rfl (OT.gu_mk (OT.tmp rfl)) (fun hg => by (have hg1 := hg.2; (try simp only [decide_eq_true_eq, decide_eq_false_iff_not] at hg1); exact pu_add' (by exact OT.gu (OT.tmp rfl) hg) OT.const (by omega))) rfl ?_
          refine op_gu rfl rfl rfl (OT.gu_mk (OT.tmp rfl)) (fun hg => by (have hg1 := hg.2; (try simp only [decide_eq_true_eq, decide_eq_false_iff_not] at hg1); exact pu_quo' (by exact OT.gu (OT.tmp rfl) hg) OT.const (by omega) (by omega))) rfl ?_
          refine op_gu rfl rfl rfl (OT.gu_mk (OT.tmp rfl)) (fun hg => by (have hg1 := hg.2; (try simp only [decide_eq_true_eq, decide_eq_false_iff_not] at hg1); exact pu_lss (by exact OT.gu (OT.tmp rfl) hg) (by exact OT.gu (OT.tmp rfl) hg))) rfl ?_
          refine op_pure (pu_pick_or (OT.tmp rfl) (by exact OT.tmp rfl)) rfl rfl ?_
          refine tr_nil ?_
          refine then_normal ?_
          refine tr_cond (OT.tmp rfl) (fun c110 => ?_) (fun c110 => ?_)
          · skip
            exfalso; simp [nums] at c110; omega --done
          · skip
            refine tr_skip ?_
            refine block_normal ?_
            refine then_normal ?_
            -- region 9
            refine tr_env (es_cons (t := 0) (OT.tmp rfl) (es_cons (t := 5) (OT.tmp rfl) (es_cons (t := 6) (OT.tmp rfl) es_nil))) ?_
            refine tr_region ?_
            refine op_pure (pu_move (OT.tmp rfl)) rfl rfl ?_
            refine op_pure (pu_add' (OT.tmp rfl) OT.const (by omega)) rfl rfl ?_
            refine op_pure (pu_assign (OT.tmp rfl)) rfl rfl ?_
            refine tr_nil ?_
            refine then_normal ?_
            exact tr_again (d + 1) (by omega) (by omega) (es_append (es_cons (t := 6) (by exact OT.tmp rfl) es_nil) (es_cons (t := 0) (OT.tmp rfl) (es_cons (t := 5) (OT.tmp rfl) es_nil))) (own_picks (by exact picks_nil))
        · skip
          refine tr_exit ?_
          refine then_exit ?_
          refine then_exit ?_
          refine block_hit ?_
          refine then_normal ?_
          refine tr_seq ?_
          -- region 17
          refine tr_env es_nil ?_
          refine tr_region ?_
          refine op_pure (pu_assign OT.const) rfl rfl ?_
          refine tr_nil ?_
          refine then_normal ?_
          refine tr_ret ?_
          exact ret_one .ret (.inl rfl) rfl () (OT.val (OT.tmp rfl) (congrArg Value.bool (rfl))) trivial (by exact picks_nil)
end Go.Proofs.YtdlendioamiagaaDoor
/- The package-level variables that the rows list: what they hold in whatever world meets the list; one world that meets it. -/
namespace Go.Proofs.YtdlendioamiagaaDoor
open Go Go.Gw Go.Vl Go.RowKit
set_option linter.unusedVariables false
abbrev laidL : List (String × DataW Unit) := Rows.valChecksRow.laid
/-- The name of the sentinels' type. -/
abbrev errName : String := match (Rows.laid_strconv_ErrSyntax : DataW Unit) with
  | .iface n _ => n
  | _ => ""
theorem rowE (u : TypeId) (h : Tryd.prog.typeName? 3 u = some errName) : u = 142 :=
  typeName_ptr_named (nm := "errors.errorString") (by kernel_rfl) (by kernel_rfl) (by decide) u (h.trans (congrArg some (by decide)))
abbrev tzName : String := (laidL.getD 1 ("", .nil)).1
def tzTab : List Int := [0, 1, 56, 2, 57, 49, 28, 3, 61, 58, 42, 50, 38, 29, 17, 4, 62, 47, 59, 36, 45, 43, 51, 22, 53, 39, 33, 30, 24, 18, 12, 5, 63, 55, 48, 27, 60, 41, 37, 16, 46, 35, 44, 21, 52, 32, 23, 11, 54, 26, 40, 15, 34, 20, 31, 10, 25, 14, 19, 9, 13, 8, 7, 6]
theorem u8x : Go.Proofs.U8Extra Tryd.prog Tryd.lValid_ren where
  n3 := by kernel_rfl
  y3 := by kernel_rfl
  n4 := by kernel_rfl
  y4 := by kernel_rfl
  c5 := by kernel_rfl
  c119 := by kernel_rfl
  c138 := by kernel_rfl
theorem vars_of {W : World} (hS : W.ShapedOpen Tryd.prog) (hL : laidMet Tryd.prog laidL W) : VarsV (heapOf W) where
  tab := fun w ho => by
    have hT : Lib.TabIs Tryd.prog W Tryd.tabName .u64 Lib.pow10Tab := Lib.tabIs_of_head (g := 3) (t := 126) (e := 64) (n := 20) (by kernel_rfl) (by kernel_rfl) Tryd.underlying126 Tryd.underlying64 (by kernel_rfl) (by kernel_rfl) hL.tail.tail
    exact var_on hT ho
  syn := by
    obtain ⟨a0, s0, hv0, _⟩ := laid_sentinel (g := 4) (ti := 70) (tp := 142) (te := 144) (ts := 9) hL.tail.tail.tail.tail.tail (by kernel_rfl) (by kernel_rfl) Tryd.underlying70 rowE Tryd.underlying142 Tryd.underlying144 rfl rfl Tryd.underlying9 (by kernel_rfl) (by kernel_rfl)
    exact ⟨_, _, fun w ho => var_on hv0 ho⟩
  rng := by
    obtain ⟨a0, s0, hv0, _⟩ := laid_sentinel (g := 5) (ti := 70) (tp := 142) (te := 144) (ts := 9) hL.tail.tail.tail.tail (by kernel_rfl) (by kernel_rfl) Tryd.underlying70 rowE Tryd.underlying142 Tryd.underlying144 rfl rfl Tryd.underlying9 (by kernel_rfl) (by kernel_rfl)
    exact ⟨_, _, fun w ho => var_on hv0 ho⟩
  len := by
    obtain ⟨m, hm⟩ : ∃ m, W.cell? ⟨Tryd.lCut_ren.g 1, 0, none⟩ = some (.int .i64 m) := cell_of_shapedOpen_int (zero := #[.int .i64 0]) (t := 3) hS (of_decide_eq_true (by kernel_rfl)) (by kernel_rfl) rfl (by kernel_rfl) (by kernel_rfl) Tryd.underlying3
    exact ⟨m, fun w ho => cell_on hm ho⟩
  utf := fun w ho => by
    have h3 := Go.Lib.laidMet.reads hL (n := "unicode/utf8.first") (d := Rows.laid_unicode_utf8_first) (by simp [laidL, Rows.valChecksRow])
    have h4 := Go.Lib.laidMet.reads hL (n := "unicode/utf8.acceptRanges") (d := Rows.laid_unicode_utf8_acceptRanges) (by simp [laidL, Rows.valChecksRow])
    rw [show (Rows.laid_unicode_utf8_first : DataW Unit) = Lib.firstData from by kernel_rfl] at h3
    rw [show (Rows.laid_unicode_utf8_acceptRanges : DataW Unit) = Lib.acceptData from by kernel_rfl] at h4
    have hT := Go.Proofs.utf8Tabs_of_readsT (Go.Proofs.U8Types.of196 Tryd.lValid) u8x h3 h4
    exact ⟨fun c hc => cell_on (hT.1 c hc) ho, fun i hi => ⟨cell_on (hT.2 i hi).1 ho, cell_on (hT.2 i hi).2 ho⟩⟩
  syc := by
    obtain ⟨a0, s0, hv0, _⟩ := laid_sentinel (g := 4) (ti := 70) (tp := 142) (te := 144) (ts := 9) hL.tail.tail.tail.tail.tail (by kernel_rfl) (by kernel_rfl) Tryd.underlying70 rowE Tryd.underlying142 Tryd.underlying144 rfl rfl Tryd.underlying9 (by kernel_rfl) (by kernel_rfl)
    have key : ∀ w, On (heapOf W) w → w.cell? ⟨4, 0, none⟩ = some (.iface 142 (.pointer (some a0))) := fun w ho => by
      have h0 := World.var?_cell (g := 4) (by kernel_rfl) (var_on hv0 ho) 0
      simpa using h0
    exact ⟨_, .inr ⟨_, _, rfl⟩, key⟩
  tz := fun w ho => by
    have hT : Lib.TabIs Tryd.prog W tzName .u8 tzTab := Lib.tabIs_of_head (g := 7) (t := 146) (e := 5) (n := 64) (by kernel_rfl) (by kernel_rfl) Tryd.underlying146 Tryd.underlying5 (by kernel_rfl) (by kernel_rfl) hL.tail
    have h0 := World.var?_cell (g := 7) (by kernel_rfl) (var_on hT ho) 15
    exact h0
theorem plain_all (w : World) : laidMetH Tryd.prog laidL w = laidMet Tryd.prog laidL w := MakeChecks.laidMetH_plain _ _ _ (by kernel_rfl)
theorem shp (os : Os) : (World.laidAll Tryd.prog os laidL).Shaped Tryd.prog := World.shaped_of_ZipB (by kernel_rfl) (by kernel_rfl)
theorem met (os : Os) (args : Array Value) : laidMet Tryd.prog laidL ((World.laidAll Tryd.prog os laidL).forCall (fun _ _ => 0) ⟨#[], args, []⟩).memory := laidMet_laidAll _ (by kernel_rfl) (by kernel_rfl)
end Go.Proofs.YtdlendioamiagaaDoor
