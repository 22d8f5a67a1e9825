/- The texts G40, G41, G42, G43, G44, VlA, VlB, Vl1, Vl2, Vl3, Vl4 of this claim, put together in their order. No condition of their own. -/
import Derived.Test.YtdlendioamiagaaDoorQ1
import Derived.Lib.RuneBytes
import Derived.Laws.Small
import Derived.Lib.ValidLaws
import Derived.Laws.BitsAllLaws
import Derived.Test.YtdlendioamiagaaDoorProg
import Derived.Test.YtdlendioamiagaaDoorChecked
/- Typed walks: a rune turned to a text. Over any program. -/
namespace Go.Gw
open Go
set_option linter.unusedVariables false
theorem encode_rune {r : Int} (h : (0 ≤ r ∧ r < 55296) ∨ (57343 < r ∧ r ≤ 1114111)) : Utf8.encode r = bs (Lib.encodeRune r) := by
  have hv : Utf8.valid r = true := by unfold Utf8.valid; simp; omega
  unfold Utf8.encode Lib.encodeRune
  rw [if_pos hv]
  by_cases h1 : r ≤ 127
  · rw [Lib.encodeRuneZ_one (by omega) h1, if_pos (by omega)]; rfl
  by_cases h2 : r ≤ 2047
  · rw [Lib.encodeRuneZ_two (by omega) h2, if_neg (by omega), if_pos (by omega)]
    have e1 : 192 + r.toNat / 64 = (192 + r / 64).toNat := by omega
    have e2 : 128 + r.toNat % 64 = (128 + r % 64).toNat := by omega
    show (⟨#[UInt8.ofNat (192 + r.toNat / 64), UInt8.ofNat (128 + r.toNat % 64)]⟩ : ByteArray) = _
    rw [e1, e2]; rfl
  by_cases h3 : r ≤ 65535
  · rw [Lib.encodeRuneZ_three (by omega), if_neg (by omega), if_neg (by omega), if_pos (by omega)]
    have e1 : 224 + r.toNat / 4096 = (224 + r / 4096).toNat := by omega
    have e2 : 128 + r.toNat / 64 % 64 = (128 + r / 64 % 64).toNat := by omega
    have e3 : 128 + r.toNat % 64 = (128 + r % 64).toNat := by omega
    show (⟨#[UInt8.ofNat (224 + r.toNat / 4096), UInt8.ofNat (128 + r.toNat / 64 % 64), UInt8.ofNat (128 + r.toNat % 64)]⟩ : ByteArray) = _
    rw [e1, e2, e3]; rfl
  · rw [Lib.encodeRuneZ_four (by omega) (by omega), if_neg (by omega), if_neg (by omega), if_neg (by omega)]
    have e0 : 240 + r.toNat / 262144 = (240 + r / 262144).toNat := by omega
    have e1 : 128 + r.toNat / 4096 % 64 = (128 + r / 4096 % 64).toNat := by omega
    have e2 : 128 + r.toNat / 64 % 64 = (128 + r / 64 % 64).toNat := by omega
    have e3 : 128 + r.toNat % 64 = (128 + r % 64).toNat := by omega
    show (⟨#[UInt8.ofNat (240 + r.toNat / 262144), UInt8.ofNat (128 + r.toNat / 4096 % 64), UInt8.ofNat (128 + r.toNat / 64 % 64), UInt8.ofNat (128 + r.toNat % 64)]⟩ : ByteArray) = _
    rw [e0, e1, e2, e3]; rfl
theorem pu_rune_str {C : Cx} {Γ : Env} {L : List It} {dst : Option Tmp} {ty : TypeId} {pos : String} {after : Array Edge} {guard : Option (Nat × Bool)} {x : Operand} {s t : TypeId} {k k' : IntKind} {r : Int} (hx : OT C.N Γ x (IntT k r)) (hs : C.P.underlying s = some (.int k')) (ht : C.P.underlying t = some .string) (h : (0 ≤ r ∧ r < 55296) ∨ (57343 < r ∧ r ≤ 1114111)) : Pure C Γ L ⟨dst, .convert s t x, ty, pos, after, guard⟩ (BsT (Lib.encodeRune r)) := fun a w H f s' ow => by
  have hv : a.eval x = .int k r := hx a H f
  refine ⟨.string (bs (Lib.encodeRune r)), ?_, rfl⟩
  rw [← encode_rune h]
  simp [execOp, convert, hv, run_underlying hs, run_underlying ht, Conv.intToString]
end Go.Gw
/- Typed walks: the lesser of two numbers; texts compared by '<'. Over any program. -/
namespace Go.Gw
open Go
set_option linter.unusedVariables false
section
variable {C : Cx} {Γ : Env} {L : List It} {dst : Option Tmp} {ty : TypeId} {pos : String} {after : Array Edge} {guard : Option (Nat × Bool)} {x y : Operand}
end
end Go.Gw
/- Typed walks: texts compared by '<'. Over any program. -/
namespace Go.Gw
open Go
set_option linter.unusedVariables false
end Go.Gw
/- Typed walks: three results, the first of which lies in a variable. Over any program. -/
namespace Go.Gw
open Go
set_option linter.unusedVariables false
set_option linter.unusedSimpArgs false
section
variable {Γ : Env} {L J : List It} {α : Type} {d : Kd α}
end
end Go.Gw
/- Typed walks: a number turned, with what overflows. Over any program. -/
namespace Go.Gw
open Go
set_option linter.unusedVariables false
set_option linter.unusedSimpArgs false
section
variable {C : Cx} {Γ : Env} {L : List It} {dst : Option Tmp} {ty : TypeId} {pos : String} {after : Array Edge} {guard : Option (Nat × Bool)} {x : Operand}
theorem pu_neg_w {t : TypeId} {n : Int} (hx : OT C.N Γ x (I64 n)) : Pure C Γ L ⟨dst, .unOp .neg t x, ty, pos, after, guard⟩ (I64 (IntKind.i64.wrap (-n))) := fun a w H f s ow => by
  have h1 : a.eval x = .int .i64 n := hx a H f
  exact ⟨_, by simp [execOp, h1, Op.unary, Op.intArith], rfl⟩
end
end Go.Gw
/- Values of properties, plain: a rune's bytes as the program puts them together. -/
namespace Go.Vl
open Go Go.Gw
set_option linter.unusedVariables false
set_option linter.unusedSimpArgs false
theorem or_tab (a : Nat) (n : Nat) (h : ∀ x : Fin n, bitsV .or .u8 (a : Int) ((x.val : Nat) : Int) = ((a + x.val : Nat) : Int)) {y : Int} (h0 : 0 ≤ y) (h1 : y < n) : bitsV .or .u8 (a : Int) y = (a : Int) + y := by
  obtain ⟨k, rfl⟩ : ∃ k : Nat, y = k := ⟨y.toNat, by omega⟩
  have := h ⟨k, by omega⟩
  rw [this]; push_cast; rfl
set_option maxRecDepth 20000 in
theorem or192 {y : Int} (h0 : 0 ≤ y) (h1 : y < 32) : bitsV .or .u8 192 y = 192 + y := or_tab 192 32 (by decide) h0 h1
set_option maxRecDepth 20000 in
theorem or128 {y : Int} (h0 : 0 ≤ y) (h1 : y < 64) : bitsV .or .u8 128 y = 128 + y := or_tab 128 64 (by decide) h0 h1
set_option maxRecDepth 20000 in
theorem or224 {y : Int} (h0 : 0 ≤ y) (h1 : y < 16) : bitsV .or .u8 224 y = 224 + y := or_tab 224 16 (by decide) h0 h1
set_option maxRecDepth 20000 in
theorem or240 {y : Int} (h0 : 0 ≤ y) (h1 : y < 8) : bitsV .or .u8 240 y = 240 + y := or_tab 240 8 (by decide) h0 h1
set_option maxRecDepth 40000 in
theorem and63_tab : ∀ x : Fin 256, bitsV .and .u8 ((x.val : Nat) : Int) 63 = ((x.val % 64 : Nat) : Int) := by decide
theorem and63 {y : Int} (h0 : 0 ≤ y) (h1 : y < 256) : bitsV .and .u8 y 63 = y % 64 := by
  obtain ⟨k, rfl⟩ : ∃ k : Nat, y = k := ⟨y.toNat, by omega⟩
  have := and63_tab ⟨k, by omega⟩
  rw [this]
  show ((k % 64 : Nat) : Int) = _
  omega
theorem wrap8 (r : Int) : IntKind.u8.wrap r = r % 256 := by
  simp [IntKind.wrap, IntKind.bits, IntKind.signed]
theorem wrap32 {r : Int} (h0 : 0 ≤ r) (h1 : r < 4294967296) : IntKind.u32.wrap r = r := by
  simp [IntKind.wrap, IntKind.bits, IntKind.signed]; omega
theorem shr6 (r : Int) : r.fdiv (2 ^ min (Int.toNat 6) IntKind.i32.bits) = r / 64 := Int.fdiv_eq_ediv_of_nonneg r (by decide)
theorem shr12 (r : Int) : r.fdiv (2 ^ min (Int.toNat 12) IntKind.i32.bits) = r / 4096 := Int.fdiv_eq_ediv_of_nonneg r (by decide)
theorem shr18 (r : Int) : r.fdiv (2 ^ min (Int.toNat 18) IntKind.i32.bits) = r / 262144 := Int.fdiv_eq_ediv_of_nonneg r (by decide)
theorem low6 (r : Int) : bitsV .or .u8 128 (bitsV .and .u8 (IntKind.u8.wrap r) 63) = 128 + r % 64 := by
  rw [wrap8, and63 (by omega) (by omega), or128 (by omega) (by omega)]
  omega
theorem put2 {r : Int} (h0 : 128 ≤ r) (h1 : r ≤ 2047) : [bitsV .or .u8 192 (IntKind.u8.wrap (r.fdiv (2 ^ min (Int.toNat 6) IntKind.i32.bits))), bitsV .or .u8 128 (bitsV .and .u8 (IntKind.u8.wrap r) 63)] = Lib.encodeRuneZ r := by
  rw [Lib.encodeRuneZ_two h0 h1, low6, shr6, wrap8, or192 (by omega) (by omega)]
  congr 1
  omega
theorem put3 {r : Int} (h : (2048 ≤ r ∧ r < 55296) ∨ (57343 < r ∧ r ≤ 65535)) : [bitsV .or .u8 224 (IntKind.u8.wrap (r.fdiv (2 ^ min (Int.toNat 12) IntKind.i32.bits))), bitsV .or .u8 128 (bitsV .and .u8 (IntKind.u8.wrap (r.fdiv (2 ^ min (Int.toNat 6) IntKind.i32.bits))) 63), bitsV .or .u8 128 (bitsV .and .u8 (IntKind.u8.wrap r) 63)] = Lib.encodeRuneZ r := by
  rw [Lib.encodeRuneZ_three h, low6, low6, shr6, shr12, wrap8, or224 (by omega) (by omega)]
  congr 1
  omega
theorem put4 {r : Int} (h0 : 65536 ≤ r) (h1 : r ≤ 1114111) : [bitsV .or .u8 240 (IntKind.u8.wrap (r.fdiv (2 ^ min (Int.toNat 18) IntKind.i32.bits))), bitsV .or .u8 128 (bitsV .and .u8 (IntKind.u8.wrap (r.fdiv (2 ^ min (Int.toNat 12) IntKind.i32.bits))) 63), bitsV .or .u8 128 (bitsV .and .u8 (IntKind.u8.wrap (r.fdiv (2 ^ min (Int.toNat 6) IntKind.i32.bits))) 63), bitsV .or .u8 128 (bitsV .and .u8 (IntKind.u8.wrap r) 63)] = Lib.encodeRuneZ r := by
  rw [Lib.encodeRuneZ_four h0 h1, low6, low6, low6, shr6, shr12, shr18, wrap8, or240 (by omega) (by omega)]
  congr 1
  omega
theorem put1 {r : Int} (h0 : 0 ≤ r) (h1 : r ≤ 127) : [IntKind.u8.wrap r] = Lib.encodeRuneZ r := by
  rw [Lib.encodeRuneZ_one h0 h1, wrap8]
  congr 1
  omega
/-- A rune's number. -/
abbrev isRune (r : Int) : Prop := (0 ≤ r ∧ r < 55296) ∨ (57343 < r ∧ r ≤ 1114111)
/-- A rune's bytes. -/
abbrev enc (r : Int) : List UInt8 := Lib.encodeRune r
theorem nums_enc (r : Int) : nums (enc r) = Lib.encodeRuneZ r := by
  unfold nums enc Lib.encodeRune
  rw [List.map_map]
  conv => rhs; rw [← List.map_id (Lib.encodeRuneZ r)]
  refine List.map_congr_left fun x hx => ?_
  have := Lib.encodeRuneZ_byte r x hx
  show ((x.toNat.toUInt8).toNat : Int) = x
  rw [show x.toNat.toUInt8 = UInt8.ofNat x.toNat from rfl, UInt8.toNat_ofNat']
  omega
end Go.Vl
/- Values of properties, plain: what is wrong with one; its bytes; its number's bits. -/
namespace Go.Vl
open Go Go.Gw
set_option linter.unusedVariables false
set_option linter.unusedSimpArgs false
abbrev Vl := Int × Int × List UInt8
/-- What is wrong with a value. -/
def checkV (v : Vl) : Int := if v.1 = 1 then 0 else if v.1 = 3 then (if v.2.1 ≠ 0 ∧ v.2.1 ≠ 1 then 1 else 0) else if v.1 = 2 then (if 64 < v.2.2.length then 3 else if Lib.validD v.2.2 = true then 0 else 7) else 1
theorem check_ok {v : Vl} (h : checkV v = 0) : v.1 = 1 ∨ (v.1 = 3 ∧ (v.2.1 = 0 ∨ v.2.1 = 1)) ∨ (v.1 = 2 ∧ v.2.2.length ≤ 64 ∧ Lib.validD v.2.2 = true) := by
  unfold checkV at h
  split at h
  · exact .inl ‹_›
  · split at h
    · split at h
      · omega
      · exact .inr (.inl ⟨‹_›, by omega⟩)
    · split at h
      · split at h
        · omega
        · split at h
          · exact .inr (.inr ⟨‹_›, by omega, ‹_›⟩)
          · omega
      · omega
/-- A number as bytes of seven bits, the lowest first. -/
def varint (n : Nat) : List UInt8 := if n < 128 then [UInt8.ofNat n] else UInt8.ofNat (n % 128 + 128) :: varint (n / 128)
termination_by n
decreasing_by omega
def zig (i : Int) : Nat := if i < 0 then (-i - 1).toNat * 2 + 1 else i.toNat * 2
/-- A good value's bytes. -/
def encV (v : Vl) : List UInt8 := if v.1 = 3 then [3, UInt8.ofNat v.2.1.toNat] else if v.1 = 2 then 2 :: UInt8.ofNat v.2.2.length :: v.2.2 else 1 :: varint (zig v.2.1)
/-! ### bits of 64 -/
theorem wrap64 {x : Int} (h0 : 0 ≤ x) (h1 : x < 18446744073709551616) : IntKind.u64.wrap x = x := by
  simp [IntKind.wrap, IntKind.bits, IntKind.signed]; omega
theorem xor64 {x y : Nat} (hx : x < 18446744073709551616) (hy : y < 18446744073709551616) : bitsV .xor .u64 (x : Int) (y : Int) = ((x ^^^ y : Nat) : Int) := by
  have h : x ^^^ y < 2 ^ 64 := Nat.xor_lt_two_pow hx hy
  show IntKind.u64.wrap (((BitVec.ofInt 64 (x : Int)) ^^^ (BitVec.ofInt 64 (y : Int))).toNat : Int) = _
  rw [BitVec.toNat_xor, ofInt_u64 x hx, ofInt_u64 y hy]
  exact wrap64 (by omega) (by omega)
theorem and64 {x y : Nat} (hx : x < 18446744073709551616) (hy : y < 18446744073709551616) : bitsV .and .u64 (x : Int) (y : Int) = ((x &&& y : Nat) : Int) := by
  have h : x &&& y < 2 ^ 64 := Nat.and_lt_two_pow x hy
  show IntKind.u64.wrap (((BitVec.ofInt 64 (x : Int)) &&& (BitVec.ofInt 64 (y : Int))).toNat : Int) = _
  rw [BitVec.toNat_and, ofInt_u64 x hx, ofInt_u64 y hy]
  exact wrap64 (by omega) (by omega)
theorem ones_xor (x : Nat) (h : x < 2 ^ 64) : x ^^^ (2 ^ 64 - 1) = 2 ^ 64 - 1 - x := by
  apply Nat.eq_of_testBit_eq
  intro i
  rw [Nat.testBit_xor, Nat.testBit_two_pow_sub_one, Nat.sub_right_comm, show 2 ^ 64 - x - 1 = 2 ^ 64 - (x + 1) from by omega, Nat.testBit_two_pow_sub_succ h]
  by_cases hi : i < 64
  · simp [hi]
  · have : x.testBit i = false := Nat.testBit_lt_two_pow (Nat.lt_of_lt_of_le h (Nat.pow_le_pow_right (by omega) (by omega)))
    simp [hi, this]
/-- The program's way to a number's zigzag form. -/
theorem zig_eq {i : Int} (h0 : -9223372036854775808 ≤ i) (h1 : i ≤ 9223372036854775807) : bitsV .xor .u64 (IntKind.u64.wrap (IntKind.u64.wrap i * 2 ^ min (Int.toNat 1) IntKind.u64.bits)) (IntKind.u64.wrap (i.fdiv (2 ^ min (Int.toNat 63) IntKind.i64.bits))) = (zig i : Int) ∧ (zig i : Int) < 18446744073709551616 := by
  have e1 : min (Int.toNat 1) IntKind.u64.bits = 1 := rfl
  have e2 : min (Int.toNat 63) IntKind.i64.bits = 63 := rfl
  have e3 : i.fdiv (2 ^ 63) = i / 9223372036854775808 := Int.fdiv_eq_ediv_of_nonneg i (by decide)
  rw [e1, e2, e3]
  have w : ∀ x : Int, IntKind.u64.wrap x = x % 18446744073709551616 := fun x => by simp [IntKind.wrap, IntKind.bits, IntKind.signed]
  unfold zig
  by_cases h : i < 0
  · rw [if_pos h]
    have ha : IntKind.u64.wrap (IntKind.u64.wrap i * 2 ^ 1) = ((18446744073709551616 + 2 * i).toNat : Int) := by rw [w, w]; omega
    have hb : IntKind.u64.wrap (i / 9223372036854775808) = ((2 ^ 64 - 1 : Nat) : Int) := by rw [w]; omega
    rw [ha, hb, xor64 (by omega) (by decide), ones_xor _ (by omega)]
    omega
  · rw [if_neg h]
    have ha : IntKind.u64.wrap (IntKind.u64.wrap i * 2 ^ 1) = ((2 * i).toNat : Int) := by rw [w, w]; omega
    have hb : IntKind.u64.wrap (i / 9223372036854775808) = ((0 : Nat) : Int) := by rw [w]; omega
    rw [ha, hb, xor64 (by omega) (by decide), Nat.xor_zero]
    omega
/-- One byte of a number: the low seven bits, marked. -/
theorem low_or (n : Nat) : bitsV .or .u8 (IntKind.u8.wrap (n : Int)) 128 = ((n % 128 + 128 : Nat) : Int) := by
  have h8 : IntKind.u8.wrap (n : Int) = ((n % 256 : Nat) : Int) := by rw [wrap8]; omega
  have tab : ∀ x : Fin 256, bitsV .or .u8 ((x.val : Nat) : Int) 128 = ((x.val % 128 + 128 : Nat) : Int) := by
    set_option maxRecDepth 40000 in decide
  have := tab ⟨n % 256, by omega⟩
  rw [h8, this]
  show ((n % 256 % 128 + 128 : Nat) : Int) = _
  omega
theorem shr7 (n : Nat) : (n : Int).fdiv (2 ^ min (Int.toNat 7) IntKind.u64.bits) = ((n / 128 : Nat) : Int) := by
  rw [show (2 : Int) ^ min (Int.toNat 7) IntKind.u64.bits = 128 from rfl, Int.fdiv_eq_ediv_of_nonneg _ (by decide)]
  omega
theorem varint_small {n : Nat} (h : n < 128) : varint n = [UInt8.ofNat n] := by rw [varint, if_pos h]
theorem varint_big {n : Nat} (h : ¬ n < 128) : varint n = UInt8.ofNat (n % 128 + 128) :: varint (n / 128) := by rw [varint, if_neg h]
theorem varint_len : ∀ (k n : Nat), n < 2 ^ (7 * k) → 0 < k → 1 ≤ (varint n).length ∧ (varint n).length ≤ k
  | 0, n, _, h => absurd h (by omega)
  | k + 1, n, hn, _ => by
    by_cases h : n < 128
    · rw [varint_small h]; simp
    · rw [varint_big h]
      cases k with
      | zero => simp at hn; omega
      | succ k =>
        have h2 : 2 ^ (7 * (k + 1 + 1)) = 128 * 2 ^ (7 * (k + 1)) := by rw [Nat.mul_add 7 (k + 1) 1, Nat.pow_add]; omega
        have := varint_len (k + 1) (n / 128) (by omega) (by omega)
        rw [List.length_cons]; omega
theorem zig_lt {i : Int} (h0 : -9223372036854775808 ≤ i) (h1 : i ≤ 9223372036854775807) : zig i < 18446744073709551616 := by have := (zig_eq h0 h1).2; omega
theorem varint_ten {n : Nat} (h : n < 18446744073709551616) : 1 ≤ (varint n).length ∧ (varint n).length ≤ 10 := varint_len 10 n (Nat.lt_of_lt_of_le h (by decide)) (by decide)
end Go.Vl
/- Walks through the Go functions utf8.appendRuneNonASCII, utf8.AppendRune, as typed contracts. -/
namespace Go.Proofs.YtdlendioamiagaaDoor
open Go Go.Gw Go.Vl
set_option linter.unusedVariables false
set_option linter.unusedSimpArgs false
abbrev kVl2 : Kd (Int × List UInt8) := kpair (kint .i64) kS
abbrev kVl : Kd Vl := kpair (kint .i64) kVl2
theorem nil_sl {α : Type} {d : Kd α} {H : FH} : (SlT d []).p H nilS := ⟨none, 0, rfl, by simp, by simp, fun h => by simp at h⟩
theorem z5 : ZeroOf Tryd.prog 5 (kint .u8) 0 := ⟨.int .u8 0, by kernel_rfl, fun H => rfl⟩
theorem z9 : ZeroOf Tryd.prog 9 kS [] := ⟨.string (bs []), by kernel_rfl, fun H => rfl⟩
theorem zBs : ZeroOf Tryd.prog 26 (ksl (kint .u8)) [] := ⟨nilS, by kernel_rfl, fun H => nil_sl⟩
theorem zBld : ZeroOf Tryd.prog 68 kBld (.pointer none, nilS) := ⟨.agg #[.pointer none, nilS], by kernel_rfl, fun H => ⟨[.pointer none, nilS], ⟨[_], [_], ⟨rfl, rfl⟩, ⟨rfl, rfl⟩, rfl⟩, rfl⟩⟩
theorem vl_p (H : FH) (t : Vl) : (kVl.T t).p H (.agg #[.int .i64 t.1, .int .i64 t.2.1, .string (bs t.2.2)]) := ⟨[.int .i64 t.1, .int .i64 t.2.1, .string (bs t.2.2)], ⟨[.int .i64 t.1], [.int .i64 t.2.1, .string (bs t.2.2)], rfl, ⟨[.int .i64 t.2.1], [.string (bs t.2.2)], rfl, rfl, rfl⟩, rfl⟩, rfl⟩
theorem zVl : ZeroOf Tryd.prog 23 kVl (0, 0, []) := ⟨.agg #[.int .i64 0, .int .i64 0, .string (bs [])], by kernel_rfl, fun H => vl_p H (0, 0, [])⟩
theorem lv0 {t : Vl} : Lens kVl (kint .i64) 0 t t.1 (fun y => (y, t.2)) := Lens.fst
theorem lv1 {t : Vl} : Lens kVl (kint .i64) 1 t t.2.1 (fun y => (t.1, y, t.2.2)) := Lens.comp (Lens.snd (a := kint .i64) (b := kVl2)) (Lens.fst (a := kint .i64) (b := kS))
theorem lv2 {t : Vl} : Lens kVl kS 2 t t.2.2 (fun y => (t.1, t.2.1, y)) := Lens.comp (Lens.snd (a := kint .i64) (b := kVl2)) (Lens.snd (a := kint .i64) (b := kS))
theorem enc_le (r : Int) : (Lib.encodeRuneZ r).length ≤ 4 := (Lib.encodeRuneZ_length r).2

set_option maxRecDepth 20000 in
/-- unicode/utf8.appendRuneNonASCII -/
theorem appNon_fn (v : Value) (xs : List Int) (r : Int) (hl : xs.length ≤ 1000000) (hr : isRune r) (h1 : 127 < r) : Ct Tryd.prog 75 [IsV v, IntT .i32 r] ([OwnI 5 (kint .u8) v xs]) Value (fun u => IsV u) (fun u => [OwnI 5 (kint .u8) u (xs ++ Lib.encodeRuneZ r)]) (fun _ => True) := by
  refine fn_intro Tryd.func75 rfl rfl ?_
  intro H w
  have hw : IntKind.u32.wrap r = r := wrap32 (by omega) (by omega)
  have hle := enc_le r
  refine tr_seq ?_
  -- region 0
  refine tr_env (es_cons (t := 0) (OT.tmp rfl) (es_cons (t := 1) (OT.tmp rfl) es_nil)) ?_
  refine tr_region ?_
  refine op_pure (pu_assign OT.const) rfl rfl ?_
  refine tr_nil ?_
  refine then_normal ?_
  refine tr_seq ?_
  -- region 1
  refine tr_env (es_cons (t := 0) (OT.tmp rfl) (es_cons (t := 1) (OT.tmp rfl) es_nil)) ?_
  refine tr_region ?_
  refine op_pure (pu_move (OT.tmp rfl)) rfl rfl ?_
  refine op_pure (pu_convert (OT.tmp rfl) Tryd.underlying21 Tryd.underlying42) rfl rfl ?_
  refine op_pure (pu_assign (OT.tmp rfl)) rfl rfl ?_
  refine tr_nil ?_
  refine then_normal ?_
  refine tr_block ?_
  refine tr_seq ?_
  -- region 3
  refine tr_env (es_cons (t := 0) (OT.tmp rfl) (es_cons (t := 1) (OT.tmp rfl) (es_cons (t := 5) (OT.tmp rfl) es_nil))) ?_
  rw [hw]
  refine tr_region ?_
  refine op_pure (pu_move (OT.tmp rfl)) rfl rfl ?_
  refine op_pure (pu_leq (OT.tmp rfl) OT.const) rfl rfl ?_
  refine op_pure (pu_assign (OT.tmp rfl)) rfl rfl ?_
  refine tr_nil ?_
  refine then_normal ?_
  refine tr_cond (OT.tmp rfl) (fun c11 => ?_) (fun c11 => ?_)
  · skip
    simp only [decide_eq_true_eq] at c11
    refine tr_seq ?_
    -- region 4
    refine tr_env (es_cons (t := 0) (OT.tmp rfl) (es_cons (t := 1) (OT.tmp rfl) es_nil)) ?_
    refine tr_region ?_
    refine op_pure (pu_move (OT.tmp rfl)) rfl rfl ?_
    refine op_pure (pu_move (OT.tmp rfl)) rfl rfl ?_
    refine op_pure (pu_shr (OT.tmp rfl) OT.const (by omega)) rfl rfl ?_
    refine op_pure (pu_convert (OT.tmp rfl) Tryd.underlying21 Tryd.underlying5) rfl rfl ?_
    refine op_pure (pu_bits OT.const (OT.tmp rfl) (by simp)) rfl rfl ?_
    refine op_pure (pu_move (OT.tmp rfl)) rfl rfl ?_
    refine op_pure (pu_convert (OT.tmp rfl) Tryd.underlying21 Tryd.underlying5) rfl rfl ?_
    refine op_pure (pu_bits (OT.tmp rfl) OT.const (by simp)) rfl rfl ?_
    refine op_pure (pu_bits OT.const (OT.tmp rfl) (by simp)) rfl rfl ?_
    refine op_acts (acts_lit (d := (kint .u8)) (v0 := 0) (show slTy Tryd.prog 26 5 1 1 = true from by decide +kernel) (show tyOk Tryd.prog 5 false 1 = true from by decide +kernel) z5 (show 2 * 1 ≤ 16777216 from by decide) (by decide) (fills_arr rfl rfl (by decide) (OT.tmp rfl) (fills_arr rfl rfl (by decide) (OT.tmp rfl) fills_nil))) (List.Perm.refl _) rfl rfl (fun _ _ => ?_)
    refine tr_as 23 (T := SlT (kint .u8) (Lib.encodeRuneZ r)) (OT.eq (OT.tmp rfl) (congrArg (SlT (kint .u8)) (put2 (by omega) (by omega)))) ?_
    refine op_acts (acts_append (OT.tmp rfl) (by exact perm_at 0 rfl) (OT.tmp rfl) (show slTy Tryd.prog 26 5 1 1 = true from by decide +kernel) (by omega) (by (simp [maxLen]; omega))) (by exact perm_at 0 rfl) rfl rfl (fun v4_10 _ => ?_)
    refine op_pure (pu_assign (OT.tmp rfl)) rfl rfl ?_
    refine tr_nil ?_
    refine then_normal ?_
    refine tr_ret ?_
    refine block_ret ?_
    exact ret_one .ret (.inl rfl) rfl v4_10 (OT.tmp rfl) trivial (by repeat (first | exact picks_nil | refine picks_cons 0 rfl ?_ | refine picks_cons 1 rfl ?_ | refine picks_cons 2 rfl ?_ | refine picks_cons 3 rfl ?_ | refine picks_cons 4 rfl ?_ | refine picks_cons 5 rfl ?_ | refine picks_cons 6 rfl ?_))
  · skip
    simp only [decide_eq_false_iff_not] at c11
    refine tr_seq ?_
    refine tr_seq ?_
    -- region 5
    refine tr_env (es_cons (t := 0) (OT.tmp rfl) (es_cons (t := 1) (OT.tmp rfl) (es_cons (t := 5) (OT.tmp rfl) es_nil))) ?_
    refine tr_region ?_
    refine op_pure (pu_move (OT.tmp rfl)) rfl rfl ?_
    refine op_pure (pu_lss (OT.tmp rfl) OT.const) rfl rfl ?_
    refine op_pure (pu_assign (OT.tmp rfl)) rfl rfl ?_
    refine tr_nil ?_
    refine then_normal ?_
    refine tr_cond (OT.tmp rfl) (fun c25 => ?_) (fun c25 => ?_)
    · skip
      simp only [Bool.and_eq_true, decide_eq_true_eq] at *
      refine tr_skip ?_
      refine then_normal ?_
      refine tr_cond (OT.tmp rfl) (fun c25 => ?_) (fun c25 => ?_)
      · skip
        simp only [Bool.and_eq_true, decide_eq_true_eq] at *
        refine tr_seq ?_
        -- region 7
        refine tr_env (es_cons (t := 0) (OT.tmp rfl) (es_cons (t := 1) (OT.tmp rfl) es_nil)) ?_
        refine tr_region ?_
        refine op_pure (pu_move (OT.tmp rfl)) rfl rfl ?_
        refine op_pure (pu_move (OT.tmp rfl)) rfl rfl ?_
        refine op_pure (pu_shr (OT.tmp rfl) OT.const (by omega)) rfl rfl ?_
        refine op_pure (pu_convert (OT.tmp rfl) Tryd.underlying21 Tryd.underlying5) rfl rfl ?_
        refine op_pure (pu_bits OT.const (OT.tmp rfl) (by simp)) rfl rfl ?_
        refine op_pure (pu_move (OT.tmp rfl)) rfl rfl ?_
        refine op_pure (pu_shr (OT.tmp rfl) OT.const (by omega)) rfl rfl ?_
        refine op_pure (pu_convert (OT.tmp rfl) Tryd.underlying21 Tryd.underlying5) rfl rfl ?_
        refine op_pure (pu_bits (OT.tmp rfl) OT.const (by simp)) rfl rfl ?_
        refine op_pure (pu_bits OT.const (OT.tmp rfl) (by simp)) rfl rfl ?_
        refine op_pure (pu_move (OT.tmp rfl)) rfl rfl ?_
        refine op_pure (pu_convert (OT.tmp rfl) Tryd.underlying21 Tryd.underlying5) rfl rfl ?_
        refine op_pure (pu_bits (OT.tmp rfl) OT.const (by simp)) rfl rfl ?_
        refine op_pure (pu_bits OT.const (OT.tmp rfl) (by simp)) rfl rfl ?_
        refine op_acts (acts_lit (d := (kint .u8)) (v0 := 0) (show slTy Tryd.prog 26 5 1 1 = true from by decide +kernel) (show tyOk Tryd.prog 5 false 1 = true from by decide +kernel) z5 (show 3 * 1 ≤ 16777216 from by decide) (by decide) (fills_arr rfl rfl (by decide) (OT.tmp rfl) (fills_arr rfl rfl (by decide) (OT.tmp rfl) (fills_arr rfl rfl (by decide) (OT.tmp rfl) fills_nil)))) (List.Perm.refl _) rfl rfl (fun _ _ => ?_)
        refine tr_as 48 (T := SlT (kint .u8) (Lib.encodeRuneZ r)) (OT.eq (OT.tmp rfl) (congrArg (SlT (kint .u8)) (put3 (by omega)))) ?_
        refine op_acts (acts_append (OT.tmp rfl) (by exact perm_at 0 rfl) (OT.tmp rfl) (show slTy Tryd.prog 26 5 1 1 = true from by decide +kernel) (by omega) (by (simp [maxLen]; omega))) (by exact perm_at 0 rfl) rfl rfl (fun v7_15 _ => ?_)
        refine op_pure (pu_assign (OT.tmp rfl)) rfl rfl ?_
        refine tr_nil ?_
        refine then_normal ?_
        refine tr_ret ?_
        refine block_ret ?_
        exact ret_one .ret (.inl rfl) rfl v7_15 (OT.tmp rfl) trivial (by repeat (first | exact picks_nil | refine picks_cons 0 rfl ?_ | refine picks_cons 1 rfl ?_ | refine picks_cons 2 rfl ?_ | refine picks_cons 3 rfl ?_ | refine picks_cons 4 rfl ?_ | refine picks_cons 5 rfl ?_ | refine picks_cons 6 rfl ?_))
      · skip
        simp only [Bool.and_eq_false_iff, decide_eq_false_iff_not] at *
        refine tr_seq ?_
        -- region 8
        refine tr_env (es_cons (t := 0) (OT.tmp rfl) (es_cons (t := 1) (OT.tmp rfl) (es_cons (t := 5) (OT.tmp rfl) es_nil))) ?_
        refine tr_region ?_
        refine op_pure (pu_move (OT.tmp rfl)) rfl rfl ?_
        refine op_pure (pu_gtr (OT.tmp rfl) OT.const) rfl rfl ?_
        refine op_pure (pu_move (OT.tmp rfl)) rfl rfl ?_
        refine op_gu rfl rfl rfl (OT.gu_mk (OT.tmp rfl)) (fun hg => by (have hg1 := hg.2; (try simp only [decide_eq_true_eq, decide_eq_false_iff_not] at hg1); exact pu_move (by exact OT.tmp rfl))) rfl ?_
        refine op_gu rfl rfl rfl (OT.gu_mk (OT.tmp rfl)) (fun hg => by (have hg1 := hg.2; (try simp only [decide_eq_true_eq, decide_eq_false_iff_not] at hg1); exact pu_leq (by exact OT.gu (OT.tmp rfl) hg) OT.const)) rfl ?_
        refine op_pure (pu_pick_and (OT.tmp rfl) (by exact OT.tmp rfl)) rfl rfl ?_
        refine op_pure (pu_assign (OT.tmp rfl)) rfl rfl ?_
        refine tr_nil ?_
        refine then_normal ?_
        refine tr_cond (OT.tmp rfl) (fun c50 => ?_) (fun c50 => ?_)
        · skip
          simp only [Bool.and_eq_true, decide_eq_true_eq] at *
          refine tr_seq ?_
          -- region 9
          refine tr_env (es_cons (t := 0) (OT.tmp rfl) (es_cons (t := 1) (OT.tmp rfl) es_nil)) ?_
          refine tr_region ?_
          refine op_pure (pu_move (OT.tmp rfl)) rfl rfl ?_
          refine op_pure (pu_move (OT.tmp rfl)) rfl rfl ?_
          refine op_pure (pu_shr (OT.tmp rfl) OT.const (by omega)) rfl rfl ?_
          refine op_pure (pu_convert (OT.tmp rfl) Tryd.underlying21 Tryd.underlying5) rfl rfl ?_
          refine op_pure (pu_bits OT.const (OT.tmp rfl) (by simp)) rfl rfl ?_
          refine op_pure (pu_move (OT.tmp rfl)) rfl rfl ?_
          refine op_pure (pu_shr (OT.tmp rfl) OT.const (by omega)) rfl rfl ?_
          refine op_pure (pu_convert (OT.tmp rfl) Tryd.underlying21 Tryd.underlying5) rfl rfl ?_
          refine op_pure (pu_bits (OT.tmp rfl) OT.const (by simp)) rfl rfl ?_
          refine op_pure (pu_bits OT.const (OT.tmp rfl) (by simp)) rfl rfl ?_
          refine op_pure (pu_move (OT.tmp rfl)) rfl rfl ?_
          refine op_pure (pu_shr (OT.tmp rfl) OT.const (by omega)) rfl rfl ?_
          refine op_pure (pu_convert (OT.tmp rfl) Tryd.underlying21 Tryd.underlying5) rfl rfl ?_
          refine op_pure (pu_bits (OT.tmp rfl) OT.const (by simp)) rfl rfl ?_
          refine op_pure (pu_bits OT.const (OT.tmp rfl) (by simp)) rfl rfl ?_
          refine op_pure (pu_move (OT.tmp rfl)) rfl rfl ?_
          refine op_pure (pu_convert (OT.tmp rfl) Tryd.underlying21 Tryd.underlying5) rfl rfl ?_
          refine op_pure (pu_bits (OT.tmp rfl) OT.const (by simp)) rfl rfl ?_
          refine op_pure (pu_bits OT.const (OT.tmp rfl) (by simp)) rfl rfl ?_
          refine op_acts (acts_lit (d := (kint .u8)) (v0 := 0) (show slTy Tryd.prog 26 5 1 1 = true from by decide +kernel) (show tyOk Tryd.prog 5 false 1 = true from by decide +kernel) z5 (show 4 * 1 ≤ 16777216 from by decide) (by decide) (fills_arr rfl rfl (by decide) (OT.tmp rfl) (fills_arr rfl rfl (by decide) (OT.tmp rfl) (fills_arr rfl rfl (by decide) (OT.tmp rfl) (fills_arr rfl rfl (by decide) (OT.tmp rfl) fills_nil))))) (List.Perm.refl _) rfl rfl (fun _ _ => ?_)
          refine tr_as 76 (T := SlT (kint .u8) (Lib.encodeRuneZ r)) (OT.eq (OT.tmp rfl) (congrArg (SlT (kint .u8)) (put4 (by omega) (by omega)))) ?_
          refine op_acts (acts_append (OT.tmp rfl) (by exact perm_at 0 rfl) (OT.tmp rfl) (show slTy Tryd.prog 26 5 1 1 = true from by decide +kernel) (by omega) (by omega)) (by exact perm_at 0 rfl) rfl rfl (fun v9_20 _ => ?_)
          refine op_pure (pu_assign (OT.tmp rfl)) rfl rfl ?_
          refine tr_nil ?_
          refine then_normal ?_
          refine tr_ret ?_
          refine block_ret ?_
          exact ret_one .ret (.inl rfl) rfl v9_20 (OT.tmp rfl) trivial (by repeat (first | exact picks_nil | refine picks_cons 0 rfl ?_ | refine picks_cons 1 rfl ?_ | refine picks_cons 2 rfl ?_ | refine picks_cons 3 rfl ?_ | refine picks_cons 4 rfl ?_ | refine picks_cons 5 rfl ?_ | refine picks_cons 6 rfl ?_))
        · skip
          exfalso; simp only [Bool.and_eq_false_iff, decide_eq_false_iff_not] at *; omega --done
    · skip
      simp only [Bool.and_eq_false_iff, decide_eq_false_iff_not] at *
      -- region 6
      refine tr_env (es_cons (t := 0) (OT.tmp rfl) (es_cons (t := 1) (OT.tmp rfl) (es_cons (t := 5) (OT.tmp rfl) es_nil))) ?_
      refine tr_region ?_
      refine op_pure (pu_move (OT.tmp rfl)) rfl rfl ?_
      refine op_pure (pu_lss OT.const (OT.tmp rfl)) rfl rfl ?_
      refine op_pure (pu_move (OT.tmp rfl)) rfl rfl ?_
      refine op_gu rfl rfl rfl (OT.gu_mk (OT.tmp rfl)) (fun hg => by (have hg1 := hg.2; (try simp only [decide_eq_true_eq, decide_eq_false_iff_not] at hg1); exact pu_move (by exact OT.tmp rfl))) rfl ?_
      refine op_gu rfl rfl rfl (OT.gu_mk (OT.tmp rfl)) (fun hg => by (have hg1 := hg.2; (try simp only [decide_eq_true_eq, decide_eq_false_iff_not] at hg1); exact pu_leq (by exact OT.gu (OT.tmp rfl) hg) OT.const)) rfl ?_
      refine op_pure (pu_pick_and (OT.tmp rfl) (by exact OT.tmp rfl)) rfl rfl ?_
      refine op_pure (pu_assign (OT.tmp rfl)) rfl rfl ?_
      refine tr_nil ?_
      refine then_normal ?_
      refine tr_cond (OT.tmp rfl) (fun c25 => ?_) (fun c25 => ?_)
      · skip
        simp only [Bool.and_eq_true, decide_eq_true_eq] at *
        refine tr_seq ?_
        -- region 7
        refine tr_env (es_cons (t := 0) (OT.tmp rfl) (es_cons (t := 1) (OT.tmp rfl) es_nil)) ?_
        refine tr_region ?_
        refine op_pure (pu_move (OT.tmp rfl)) rfl rfl ?_
        refine op_pure (pu_move (OT.tmp rfl)) rfl rfl ?_
        refine op_pure (pu_shr (OT.tmp rfl) OT.const (by omega)) rfl rfl ?_
        refine op_pure (pu_convert (OT.tmp rfl) Tryd.underlying21 Tryd.underlying5) rfl rfl ?_
        refine op_pure (pu_bits OT.const (OT.tmp rfl) (by simp)) rfl rfl ?_
        refine op_pure (pu_move (OT.tmp rfl)) rfl rfl ?_
        refine op_pure (pu_shr (OT.tmp rfl) OT.const (by omega)) rfl rfl ?_
        refine op_pure (pu_convert (OT.tmp rfl) Tryd.underlying21 Tryd.underlying5) rfl rfl ?_
        refine op_pure (pu_bits (OT.tmp rfl) OT.const (by simp)) rfl rfl ?_
        refine op_pure (pu_bits OT.const (OT.tmp rfl) (by simp)) rfl rfl ?_
        refine op_pure (pu_move (OT.tmp rfl)) rfl rfl ?_
        refine op_pure (pu_convert (OT.tmp rfl) Tryd.underlying21 Tryd.underlying5) rfl rfl ?_
        refine op_pure (pu_bits (OT.tmp rfl) OT.const (by simp)) rfl rfl ?_
        refine op_pure (pu_bits OT.const (OT.tmp rfl) (by simp)) rfl rfl ?_
        refine op_acts (acts_lit (d := (kint .u8)) (v0 := 0) (show slTy Tryd.prog 26 5 1 1 = true from by decide +kernel) (show tyOk Tryd.prog 5 false 1 = true from by decide +kernel) z5 (show 3 * 1 ≤ 16777216 from by decide) (by decide) (fills_arr rfl rfl (by decide) (OT.tmp rfl) (fills_arr rfl rfl (by decide) (OT.tmp rfl) (fills_arr rfl rfl (by decide) (OT.tmp rfl) fills_nil)))) (List.Perm.refl _) rfl rfl (fun _ _ => ?_)
        refine tr_as 48 (T := SlT (kint .u8) (Lib.encodeRuneZ r)) (OT.eq (OT.tmp rfl) (congrArg (SlT (kint .u8)) (put3 (by omega)))) ?_
        refine op_acts (acts_append (OT.tmp rfl) (by exact perm_at 0 rfl) (OT.tmp rfl) (show slTy Tryd.prog 26 5 1 1 = true from by decide +kernel) (by omega) (by (simp [maxLen]; omega))) (by exact perm_at 0 rfl) rfl rfl (fun v7_15 _ => ?_)
        refine op_pure (pu_assign (OT.tmp rfl)) rfl rfl ?_
        refine tr_nil ?_
        refine then_normal ?_
        refine tr_ret ?_
        refine block_ret ?_
        exact ret_one .ret (.inl rfl) rfl v7_15 (OT.tmp rfl) trivial (by repeat (first | exact picks_nil | refine picks_cons 0 rfl ?_ | refine picks_cons 1 rfl ?_ | refine picks_cons 2 rfl ?_ | refine picks_cons 3 rfl ?_ | refine picks_cons 4 rfl ?_ | refine picks_cons 5 rfl ?_ | refine picks_cons 6 rfl ?_))
      · skip
        simp only [Bool.and_eq_false_iff, decide_eq_false_iff_not] at *
        refine tr_seq ?_
        -- region 8
        refine tr_env (es_cons (t := 0) (OT.tmp rfl) (es_cons (t := 1) (OT.tmp rfl) (es_cons (t := 5) (OT.tmp rfl) es_nil))) ?_
        refine tr_region ?_
        refine op_pure (pu_move (OT.tmp rfl)) rfl rfl ?_
        refine op_pure (pu_gtr (OT.tmp rfl) OT.const) rfl rfl ?_
        refine op_pure (pu_move (OT.tmp rfl)) rfl rfl ?_
        refine op_gu rfl rfl rfl (OT.gu_mk (OT.tmp rfl)) (fun hg => by (have hg1 := hg.2; (try simp only [decide_eq_true_eq, decide_eq_false_iff_not] at hg1); exact pu_move (by exact OT.tmp rfl))) rfl ?_
        refine op_gu rfl rfl rfl (OT.gu_mk (OT.tmp rfl)) (fun hg => by (have hg1 := hg.2; (try simp only [decide_eq_true_eq, decide_eq_false_iff_not] at hg1); exact pu_leq (by exact OT.gu (OT.tmp rfl) hg) OT.const)) rfl ?_
        refine op_pure (pu_pick_and (OT.tmp rfl) (by exact OT.tmp rfl)) rfl rfl ?_
        refine op_pure (pu_assign (OT.tmp rfl)) rfl rfl ?_
        refine tr_nil ?_
        refine then_normal ?_
        refine tr_cond (OT.tmp rfl) (fun c50 => ?_) (fun c50 => ?_)
        · skip
          simp only [Bool.and_eq_true, decide_eq_true_eq] at *
          refine tr_seq ?_
          -- region 9
          refine tr_env (es_cons (t := 0) (OT.tmp rfl) (es_cons (t := 1) (OT.tmp rfl) es_nil)) ?_
          refine tr_region ?_
          refine op_pure (pu_move (OT.tmp rfl)) rfl rfl ?_
          refine op_pure (pu_move (OT.tmp rfl)) rfl rfl ?_
          refine op_pure (pu_shr (OT.tmp rfl) OT.const (by omega)) rfl rfl ?_
          refine op_pure (pu_convert (OT.tmp rfl) Tryd.underlying21 Tryd.underlying5) rfl rfl ?_
          refine op_pure (pu_bits OT.const (OT.tmp rfl) (by simp)) rfl rfl ?_
          refine op_pure (pu_move (OT.tmp rfl)) rfl rfl ?_
          refine op_pure (pu_shr (OT.tmp rfl) OT.const (by omega)) rfl rfl ?_
          refine op_pure (pu_convert (OT.tmp rfl) Tryd.underlying21 Tryd.underlying5) rfl rfl ?_
          refine op_pure (pu_bits (OT.tmp rfl) OT.const (by simp)) rfl rfl ?_
          refine op_pure (pu_bits OT.const (OT.tmp rfl) (by simp)) rfl rfl ?_
          refine op_pure (pu_move (OT.tmp rfl)) rfl rfl ?_
          refine op_pure (pu_shr (OT.tmp rfl) OT.const (by omega)) rfl rfl ?_
          refine op_pure (pu_convert (OT.tmp rfl) Tryd.underlying21 Tryd.underlying5) rfl rfl ?_
          refine op_pure (pu_bits (OT.tmp rfl) OT.const (by simp)) rfl rfl ?_
          refine op_pure (pu_bits OT.const (OT.tmp rfl) (by simp)) rfl rfl ?_
          refine op_pure (pu_move (OT.tmp rfl)) rfl rfl ?_
          refine op_pure (pu_convert (OT.tmp rfl) Tryd.underlying21 Tryd.underlying5) rfl rfl ?_
          refine op_pure (pu_bits (OT.tmp rfl) OT.const (by simp)) rfl rfl ?_
          refine op_pure (pu_bits OT.const (OT.tmp rfl) (by simp)) rfl rfl ?_
          refine op_acts (acts_lit (d := (kint .u8)) (v0 := 0) (show slTy Tryd.prog 26 5 1 1 = true from by decide +kernel) (show tyOk Tryd.prog 5 false 1 = true from by decide +kernel) z5 (show 4 * 1 ≤ 16777216 from by decide) (by decide) (fills_arr rfl rfl (by decide) (OT.tmp rfl) (fills_arr rfl rfl (by decide) (OT.tmp rfl) (fills_arr rfl rfl (by decide) (OT.tmp rfl) (fills_arr rfl rfl (by decide) (OT.tmp rfl) fills_nil))))) (List.Perm.refl _) rfl rfl (fun _ _ => ?_)
          refine tr_as 76 (T := SlT (kint .u8) (Lib.encodeRuneZ r)) (OT.eq (OT.tmp rfl) (congrArg (SlT (kint .u8)) (put4 (by omega) (by omega)))) ?_
          refine op_acts (acts_append (OT.tmp rfl) (by exact perm_at 0 rfl) (OT.tmp rfl) (show slTy Tryd.prog 26 5 1 1 = true from by decide +kernel) (by omega) (by (simp [maxLen]; omega))) (by exact perm_at 0 rfl) rfl rfl (fun v9_20 _ => ?_)
          refine op_pure (pu_assign (OT.tmp rfl)) rfl rfl ?_
          refine tr_nil ?_
          refine then_normal ?_
          refine tr_ret ?_
          refine block_ret ?_
          exact ret_one .ret (.inl rfl) rfl v9_20 (OT.tmp rfl) trivial (by repeat (first | exact picks_nil | refine picks_cons 0 rfl ?_ | refine picks_cons 1 rfl ?_ | refine picks_cons 2 rfl ?_ | refine picks_cons 3 rfl ?_ | refine picks_cons 4 rfl ?_ | refine picks_cons 5 rfl ?_ | refine picks_cons 6 rfl ?_))
        · skip
          exfalso; simp only [Bool.and_eq_false_iff, decide_eq_false_iff_not] at *; omega --done
set_option maxRecDepth 20000 in
/-- unicode/utf8.AppendRune -/
theorem appRune_fn (v : Value) (xs : List Int) (r : Int) (hl : xs.length ≤ 1000000) (hr : isRune r) : Ct Tryd.prog 60 [IsV v, IntT .i32 r] ([OwnI 5 (kint .u8) v xs]) Value (fun u => IsV u) (fun u => [OwnI 5 (kint .u8) u (xs ++ Lib.encodeRuneZ r)]) (fun _ => True) := by
  refine fn_intro Tryd.func60 rfl rfl ?_
  intro H w
  have hw : IntKind.u32.wrap r = r := wrap32 (by omega) (by omega)
  have hle := enc_le r
  refine tr_seq ?_
  -- region 0
  refine tr_env (es_cons (t := 0) (OT.tmp rfl) (es_cons (t := 1) (OT.tmp rfl) es_nil)) ?_
  refine tr_region ?_
  refine op_pure (pu_assign OT.const) rfl rfl ?_
  refine tr_nil ?_
  refine then_normal ?_
  refine tr_seq ?_
  refine tr_seq ?_
  -- region 1
  refine tr_env (es_cons (t := 0) (OT.tmp rfl) (es_cons (t := 1) (OT.tmp rfl) es_nil)) ?_
  refine tr_region ?_
  refine op_pure (pu_move (OT.tmp rfl)) rfl rfl ?_
  refine op_pure (pu_convert (OT.tmp rfl) Tryd.underlying21 Tryd.underlying42) rfl rfl ?_
  refine op_pure (pu_leq (OT.tmp rfl) OT.const) rfl rfl ?_
  refine tr_nil ?_
  refine then_normal ?_
  refine tr_cond (OT.tmp rfl) (fun c7 => ?_) (fun c7 => ?_)
  · skip
    rw [hw] at c7
    simp only [decide_eq_true_eq] at c7
    refine tr_seq ?_
    -- region 2
    refine tr_env (es_cons (t := 0) (OT.tmp rfl) (es_cons (t := 1) (OT.tmp rfl) es_nil)) ?_
    skip
    refine tr_region ?_
    refine op_pure (pu_move (OT.tmp rfl)) rfl rfl ?_
    refine op_pure (pu_move (OT.tmp rfl)) rfl rfl ?_
    refine op_pure (pu_convert (OT.tmp rfl) Tryd.underlying21 Tryd.underlying5) rfl rfl ?_
    refine op_acts (acts_lit (d := (kint .u8)) (v0 := 0) (show slTy Tryd.prog 26 5 1 1 = true from by decide +kernel) (show tyOk Tryd.prog 5 false 1 = true from by decide +kernel) z5 (show 1 * 1 ≤ 16777216 from by decide) (by decide) (fills_arr rfl rfl (by decide) (OT.tmp rfl) fills_nil)) (List.Perm.refl _) rfl rfl (fun _ _ => ?_)
    refine tr_as 11 (T := SlT (kint .u8) (Lib.encodeRuneZ r)) (OT.eq (OT.tmp rfl) (congrArg (SlT (kint .u8)) (put1 (by omega) (by omega)))) ?_
    refine op_acts (acts_append (OT.tmp rfl) (by exact perm_at 0 rfl) (OT.tmp rfl) (show slTy Tryd.prog 26 5 1 1 = true from by decide +kernel) (by omega) (by (simp [maxLen]; omega))) (by exact perm_at 0 rfl) rfl rfl (fun v2_4 _ => ?_)
    refine op_pure (pu_assign (OT.tmp rfl)) rfl rfl ?_
    refine tr_nil ?_
    refine then_normal ?_
    refine tr_ret ?_
    refine then_ret ?_
    exact ret_one .ret (.inl rfl) rfl v2_4 (OT.tmp rfl) trivial (by repeat (first | exact picks_nil | refine picks_cons 0 rfl ?_ | refine picks_cons 1 rfl ?_ | refine picks_cons 2 rfl ?_ | refine picks_cons 3 rfl ?_ | refine picks_cons 4 rfl ?_ | refine picks_cons 5 rfl ?_ | refine picks_cons 6 rfl ?_))
  · skip
    rw [hw] at c7
    simp only [decide_eq_false_iff_not] at c7
    refine tr_skip ?_
    refine then_normal ?_
    refine tr_seq ?_
    -- region 3
    refine tr_env (es_cons (t := 0) (OT.tmp rfl) (es_cons (t := 1) (OT.tmp rfl) es_nil)) ?_
    refine tr_region ?_
    refine op_pure (pu_move (OT.tmp rfl)) rfl rfl ?_
    refine op_pure (pu_move (OT.tmp rfl)) rfl rfl ?_
    refine op_acts (acts_call (appNon_fn v xs r hl hr (by omega)) (show enters Tryd.prog 75 = true from by decide +kernel) (OTs.cons (OT.tmp rfl) (OTs.cons (OT.tmp rfl) OTs.nil)) (List.Perm.refl _)) (List.Perm.refl _) rfl rfl (fun v3_2 _ => ?_)
    refine op_pure (pu_assign (OT.tmp rfl)) rfl rfl ?_
    refine tr_nil ?_
    refine then_normal ?_
    refine tr_ret ?_
    exact ret_one .ret (.inl rfl) rfl v3_2 (OT.tmp rfl) trivial (by repeat (first | exact picks_nil | refine picks_cons 0 rfl ?_ | refine picks_cons 1 rfl ?_ | refine picks_cons 2 rfl ?_ | refine picks_cons 3 rfl ?_ | refine picks_cons 4 rfl ?_ | refine picks_cons 5 rfl ?_ | refine picks_cons 6 rfl ?_))
end Go.Proofs.YtdlendioamiagaaDoor
/- Walks through the Go functions slices.Grow[[]byte,byte], slices.Concat[[]byte,byte], as typed contracts. -/
namespace Go.Proofs.YtdlendioamiagaaDoor
open Go Go.Gw Go.Vl
set_option linter.unusedVariables false
set_option linter.unusedSimpArgs false
theorem take_flatB {ls : List (List Int)} {k : Nat} (h : k < ls.length) : (ls.take (k + 1)).flatten = (ls.take k).flatten ++ at' ls (k : Int) := by
  rw [List.take_succ_eq_append_getElem h, at'_nat h, List.flatten_append]; simp only [List.flatten_cons, List.flatten_nil, List.append_nil]
theorem flat_leB (ls : List (List Int)) (k : Nat) : (ls.take k).flatten.length ≤ ls.flatten.length := by
  conv => rhs; rw [← List.take_append_drop k ls]
  rw [List.flatten_append, List.length_append]; omega

set_option maxRecDepth 20000 in
/-- slices.Grow[[]byte,byte] -/
theorem GrowB_fn (n : Nat) (hm : n ≤ 1000000) : Ct Tryd.prog 56 [IsV nilS, I64 (n : Int)] ([]) Value (fun r => IsV r) (fun r => [OwnI 5 (kint .u8) r []]) (fun _ => True) := by
  refine fn_intro Tryd.func56 rfl rfl ?_
  intro H w
  refine tr_seq ?_
  -- region 0
  refine tr_env (es_cons (t := 0) (OT.tmp rfl) (es_cons (t := 1) (OT.tmp rfl) es_nil)) ?_
  refine tr_region ?_
  refine op_pure (pu_assign OT.const) rfl rfl ?_
  refine tr_nil ?_
  refine then_normal ?_
  refine tr_seq ?_
  refine tr_seq ?_
  -- region 1
  refine tr_env (es_cons (t := 0) (OT.tmp rfl) (es_cons (t := 1) (OT.tmp rfl) es_nil)) ?_
  refine tr_region ?_
  refine op_pure (pu_move (OT.tmp rfl)) rfl rfl ?_
  refine op_pure (pu_lss (OT.tmp rfl) OT.const) rfl rfl ?_
  refine tr_nil ?_
  refine then_normal ?_
  refine tr_cond (OT.tmp rfl) (fun c6 => ?_) (fun c6 => ?_)
  · try simp only [decide_eq_true_eq, decide_eq_false_iff_not, Bool.or_eq_true, Bool.and_eq_true, Bool.or_eq_false_iff, Bool.and_eq_false_iff, Bool.not_eq_true', Bool.not_eq_false', ne_eq, Classical.not_not] at c6
    exact absurd c6 (by omega) --done
  · try simp only [decide_eq_true_eq, decide_eq_false_iff_not, Bool.or_eq_true, Bool.and_eq_true, Bool.or_eq_false_iff, Bool.and_eq_false_iff, Bool.not_eq_true', Bool.not_eq_false', ne_eq, Classical.not_not] at c6
    refine tr_skip ?_
    refine then_normal ?_
    refine tr_seq ?_
    refine tr_seq ?_
    -- region 3
    refine tr_env (es_cons (t := 0) (OT.tmp rfl) (es_cons (t := 1) (OT.tmp rfl) es_nil)) ?_
    refine tr_region ?_
    refine op_pure (pu_move (OT.tmp rfl)) rfl rfl ?_
    refine op_pure (pu_move (OT.tmp rfl)) rfl rfl ?_
    refine op_pure (pu_cap_nil (OT.tmp rfl) Tryd.underlying26) rfl rfl ?_
    refine op_pure (pu_move (OT.tmp rfl)) rfl rfl ?_
    refine op_pure (pu_len_nil (OT.tmp rfl) Tryd.underlying26) rfl rfl ?_
    refine op_pure (pu_sub' (OT.tmp rfl) (OT.tmp rfl) (by omega)) rfl rfl ?_
    refine op_pure (pu_sub' (OT.tmp rfl) (OT.tmp rfl) (by omega)) rfl rfl ?_
    refine op_pure (pu_assign (OT.tmp rfl)) rfl rfl ?_
    refine tr_nil ?_
    refine then_normal ?_
    refine tr_seq ?_
    -- region 4
    refine tr_env (es_cons (t := 0) (OT.tmp rfl) (es_cons (t := 1) (OT.tmp rfl) es_nil)) ?_
    refine tr_region ?_
    refine op_pure (pu_move (OT.tmp rfl)) rfl rfl ?_
    refine op_pure (pu_gtr (OT.tmp rfl) OT.const) rfl rfl ?_
    refine tr_nil ?_
    refine then_normal ?_
    refine tr_cond (OT.tmp rfl) (fun c16 => ?_) (fun c16 => ?_)
    · try simp only [decide_eq_true_eq, decide_eq_false_iff_not, Bool.or_eq_true, Bool.and_eq_true, Bool.or_eq_false_iff, Bool.and_eq_false_iff, Bool.not_eq_true', Bool.not_eq_false', ne_eq, Classical.not_not] at c16
      -- region 5
      refine tr_env (es_cons (t := 0) (OT.tmp rfl) (es_cons (t := 1) (OT.tmp rfl) es_nil)) ?_
      refine tr_region ?_
      refine op_pure (pu_move (OT.tmp rfl)) rfl rfl ?_
      refine op_pure (pu_move (OT.tmp rfl)) rfl rfl ?_
      refine op_pure (pu_cap_nil (OT.tmp rfl) Tryd.underlying26) rfl rfl ?_
      refine op_pure (pu_slice_nil (OT.tmp rfl) (OT.tmp rfl) Tryd.underlying26 (show tyOk Tryd.prog 5 false 1 = true from by decide +kernel)) rfl rfl ?_
      refine op_pure (pu_move (OT.tmp rfl)) rfl rfl ?_
      refine op_acts (acts_append_make (d := (kint .u8)) (v0 := 0) (OT.tmp rfl) (OT.tmp rfl) (show slTy Tryd.prog 26 5 1 1 = true from by decide +kernel) Tryd.underlying3 (show tyOk Tryd.prog 5 false 1 = true from by decide +kernel) z5 (by omega) (by omega) (by (simp [maxLen]; omega))) (List.Perm.refl _) rfl rfl (fun v5_5 _ => ?_)
      refine op_pure (pu_move (OT.tmp rfl)) rfl rfl ?_
      refine op_pure (pu_len_nil (OT.tmp rfl) Tryd.underlying26) rfl rfl ?_
      refine op_acts (acts_slice_own_hi (OT.tmp rfl) (by exact perm_at 0 rfl) (OT.tmp rfl) Tryd.underlying26 (show tyOk Tryd.prog 5 false 1 = true from by decide +kernel) (by omega) (by omega)) (by exact perm_at 0 rfl) rfl rfl (fun v5_8 _ => ?_)
      refine op_pure (pu_assign (OT.tmp rfl)) rfl rfl ?_
      refine tr_nil ?_
      refine then_normal ?_
      refine tr_seq ?_
      -- region 6
      refine tr_env (es_cons (t := 0) (OT.tmp rfl) es_nil) ?_
      refine tr_region ?_
      refine op_pure (pu_move (OT.tmp rfl)) rfl rfl ?_
      refine op_pure (pu_assign (OT.tmp rfl)) rfl rfl ?_
      refine tr_nil ?_
      refine then_normal ?_
      refine tr_ret ?_
      exact ret_one .ret (.inl rfl) rfl v5_8 (OT.tmp rfl) trivial (by repeat (first | exact picks_nil | refine picks_cons 0 rfl ?_ | refine picks_cons 1 rfl ?_ | refine picks_cons 2 rfl ?_ | refine picks_cons 3 rfl ?_ | refine picks_cons 4 rfl ?_ | refine picks_cons 5 rfl ?_ | refine picks_cons 6 rfl ?_))
    · try simp only [decide_eq_true_eq, decide_eq_false_iff_not, Bool.or_eq_true, Bool.and_eq_true, Bool.or_eq_false_iff, Bool.and_eq_false_iff, Bool.not_eq_true', Bool.not_eq_false', ne_eq, Classical.not_not] at c16
      refine tr_nilItem 5 (kint .u8) ?_
      refine tr_skip ?_
      refine then_normal ?_
      refine tr_seq ?_
      -- region 6
      refine tr_env (es_cons (t := 0) (OT.tmp rfl) es_nil) ?_
      refine tr_region ?_
      refine op_pure (pu_move (OT.tmp rfl)) rfl rfl ?_
      refine op_pure (pu_assign (OT.tmp rfl)) rfl rfl ?_
      refine tr_nil ?_
      refine then_normal ?_
      refine tr_ret ?_
      exact ret_one .ret (.inl rfl) rfl nilS (OT.tmp rfl) trivial (by repeat (first | exact picks_nil | refine picks_cons 0 rfl ?_ | refine picks_cons 1 rfl ?_ | refine picks_cons 2 rfl ?_ | refine picks_cons 3 rfl ?_ | refine picks_cons 4 rfl ?_ | refine picks_cons 5 rfl ?_ | refine picks_cons 6 rfl ?_))
set_option maxRecDepth 20000 in
/-- slices.Concat[[]byte,byte] -/
theorem ConcatB_fn (ls : List (List Int)) (hm : ls.length ≤ 1000000) (hf : ls.flatten.length ≤ 1000000) : Ct Tryd.prog 32 [SlT (ksl (kint .u8)) ls] ([]) Value (fun v => IsV v) (fun v => [OwnI 5 (kint .u8) v ls.flatten]) (fun _ => True) := by
  refine fn_intro Tryd.func32 rfl rfl ?_
  intro H w
  refine tr_seq ?_
  -- region 0
  refine tr_env (es_cons (t := 0) (OT.tmp rfl) es_nil) ?_
  refine tr_region ?_
  refine op_pure (pu_assign OT.const) rfl rfl ?_
  refine tr_nil ?_
  refine then_normal ?_
  refine tr_seq ?_
  -- region 1
  refine tr_env (es_cons (t := 0) (OT.tmp rfl) es_nil) ?_
  refine tr_region ?_
  refine op_pure (pu_assign OT.const) rfl rfl ?_
  refine tr_nil ?_
  refine then_normal ?_
  refine tr_seq ?_
  refine tr_seq ?_
  -- region 2
  refine tr_env (es_cons (t := 0) (OT.tmp rfl) (es_cons (t := 3) (OT.tmp rfl) es_nil)) ?_
  refine tr_region ?_
  refine op_pure (pu_move (OT.tmp rfl)) rfl rfl ?_
  refine op_pure (pu_len_sl (OT.tmp rfl) Tryd.underlying88) rfl rfl ?_
  refine op_pure (pu_move OT.const) rfl rfl ?_
  refine tr_nil ?_
  refine then_normal ?_
  refine tr_block ?_
  refine tr_loopK (σ := Nat) (es_cons (t := 0) (OT.tmp rfl) (es_cons (t := 9) (OT.tmp rfl) (es_cons (t := 10) (OT.tmp rfl) es_nil))) (fun k => [(11, I64 (k : Int)), (3, I64 ((ls.take k).flatten.length : Int))]) (fun k => []) (fun k => k ≤ ls.length) (fun k => ls.length - k) 0 (Nat.zero_le _) ?_ (own_picks (by exact picks_nil)) ?_
  · exact (es_cons (t := 11) (by exact OT.tmp rfl) (es_cons (t := 3) (by exact OT.tmp rfl) es_nil))
  · rintro k hk
    refine tr_seq ?_
    -- region 3
    refine tr_env (es_cons (t := 0) (OT.tmp rfl) (es_cons (t := 3) (OT.tmp rfl) (es_cons (t := 9) (OT.tmp rfl) (es_cons (t := 10) (OT.tmp rfl) (es_cons (t := 11) (OT.tmp rfl) es_nil))))) ?_
    refine tr_region ?_
    refine op_pure (pu_lss (OT.tmp rfl) (OT.tmp rfl)) rfl rfl ?_
    refine tr_nil ?_
    refine then_normal ?_
    refine tr_seq ?_
    refine tr_cond (OT.tmp rfl) (fun c12 => ?_) (fun c12 => ?_)
    · try simp only [decide_eq_true_eq, decide_eq_false_iff_not, Bool.or_eq_true, Bool.and_eq_true, Bool.or_eq_false_iff, Bool.and_eq_false_iff, Bool.not_eq_true', Bool.not_eq_false', ne_eq, Classical.not_not] at c12
      refine tr_skip ?_
      refine then_normal ?_
      refine tr_seq ?_
      refine tr_block ?_
      refine tr_seq ?_
      -- region 4
      refine tr_env (es_cons (t := 0) (OT.tmp rfl) (es_cons (t := 3) (OT.tmp rfl) (es_cons (t := 9) (OT.tmp rfl) (es_cons (t := 10) (OT.tmp rfl) (es_cons (t := 11) (OT.tmp rfl) es_nil))))) ?_
      have hfl := flat_leB ls (k + 1)
      have htf := take_flatB (ls := ls) (k := k) (by omega)
      rw [htf, List.length_append] at hfl
      refine tr_region ?_
      refine op_pure (pu_index (OT.tmp rfl) (OT.tmp rfl) Tryd.underlying88 (show tyOk Tryd.prog 26 false 1 = true from by decide +kernel) (by omega) (by omega)) rfl rfl ?_
      refine op_pure (pu_load (OT.tmp rfl) (show tyOk Tryd.prog 26 false 1 = true from by decide +kernel)) rfl rfl ?_
      refine op_pure (pu_assign (OT.tmp rfl)) rfl rfl ?_
      refine tr_nil ?_
      refine then_normal ?_
      refine tr_seq ?_
      -- region 5
      refine tr_env (es_cons (t := 0) (OT.tmp rfl) (es_cons (t := 3) (OT.tmp rfl) (es_cons (t := 5) (OT.tmp rfl) (es_cons (t := 9) (OT.tmp rfl) (es_cons (t := 10) (OT.tmp rfl) (es_cons (t := 11) (OT.tmp rfl) es_nil)))))) ?_
      refine tr_region ?_
      refine op_pure (pu_move (OT.tmp rfl)) rfl rfl ?_
      refine op_pure (pu_move (OT.tmp rfl)) rfl rfl ?_
      refine op_pure (pu_len_sl (OT.tmp rfl) Tryd.underlying26) rfl rfl ?_
      refine op_pure (pu_add' (OT.tmp rfl) (OT.tmp rfl) (by omega)) rfl rfl ?_
      refine op_pure (pu_assign (OT.tmp rfl)) rfl rfl ?_
      refine tr_nil ?_
      refine then_normal ?_
      refine tr_seq ?_
      -- region 6
      refine tr_env (es_cons (t := 0) (OT.tmp rfl) (es_cons (t := 3) (OT.tmp rfl) (es_cons (t := 9) (OT.tmp rfl) (es_cons (t := 10) (OT.tmp rfl) (es_cons (t := 11) (OT.tmp rfl) es_nil))))) ?_
      refine tr_region ?_
      refine op_pure (pu_move (OT.tmp rfl)) rfl rfl ?_
      refine op_pure (pu_lss (OT.tmp rfl) OT.const) rfl rfl ?_
      refine tr_nil ?_
      refine then_normal ?_
      refine tr_cond (OT.tmp rfl) (fun c20 => ?_) (fun c20 => ?_)
      · try simp only [decide_eq_true_eq, decide_eq_false_iff_not, Bool.or_eq_true, Bool.and_eq_true, Bool.or_eq_false_iff, Bool.and_eq_false_iff, Bool.not_eq_true', Bool.not_eq_false', ne_eq, Classical.not_not] at c20
        exact absurd c20 (by omega) --done
      · try simp only [decide_eq_true_eq, decide_eq_false_iff_not, Bool.or_eq_true, Bool.and_eq_true, Bool.or_eq_false_iff, Bool.and_eq_false_iff, Bool.not_eq_true', Bool.not_eq_false', ne_eq, Classical.not_not] at c20
        refine tr_skip ?_
        refine block_normal ?_
        refine then_normal ?_
        -- region 8
        refine tr_env (es_cons (t := 0) (OT.tmp rfl) (es_cons (t := 3) (OT.tmp rfl) (es_cons (t := 9) (OT.tmp rfl) (es_cons (t := 10) (OT.tmp rfl) (es_cons (t := 11) (OT.tmp rfl) es_nil))))) ?_
        refine tr_region ?_
        refine op_pure (pu_add' (OT.tmp rfl) OT.const (by omega)) rfl rfl ?_
        refine op_pure (pu_move (OT.tmp rfl)) rfl rfl ?_
        refine tr_nil ?_
        refine then_normal ?_
        exact tr_again (k + 1) (by omega) (by omega) (es_append (es_cons (t := 11) (by exact OT.tmp rfl) (es_cons (t := 3) (OT.val (OT.tmp rfl) (congrArg (Value.int _) (by rw [htf, List.length_append]; omega))) es_nil)) (es_cons (t := 0) (OT.tmp rfl) (es_cons (t := 9) (OT.tmp rfl) (es_cons (t := 10) (OT.tmp rfl) es_nil)))) (own_picks (by exact picks_nil))
    · try simp only [decide_eq_true_eq, decide_eq_false_iff_not, Bool.or_eq_true, Bool.and_eq_true, Bool.or_eq_false_iff, Bool.and_eq_false_iff, Bool.not_eq_true', Bool.not_eq_false', ne_eq, Classical.not_not] at c12
      refine tr_exit ?_
      refine then_exit ?_
      refine then_exit ?_
      refine block_hit ?_
      refine then_normal ?_
      refine tr_seq ?_
      -- region 9
      refine tr_env (es_cons (t := 0) (OT.tmp rfl) (es_cons (t := 3) (OT.tmp rfl) es_nil)) ?_
      obtain rfl : k = ls.length := by omega
      rw [List.take_length]
      refine tr_region ?_
      refine op_pure (pu_move (OT.tmp rfl)) rfl rfl ?_
      refine op_acts (acts_call (GrowB_fn ls.flatten.length hf) (show enters Tryd.prog 56 = true from by decide +kernel) (OTs.cons OT.const (OTs.cons (OT.tmp rfl) OTs.nil)) (List.Perm.refl _)) (List.Perm.refl _) rfl rfl (fun v9_1 _ => ?_)
      refine op_pure (pu_assign (OT.tmp rfl)) rfl rfl ?_
      refine tr_nil ?_
      refine then_normal ?_
      refine tr_seq ?_
      refine tr_seq ?_
      -- region 10
      refine tr_env (es_cons (t := 0) (OT.tmp rfl) (es_cons (t := 6) (OT.tmp rfl) es_nil)) ?_
      refine tr_region ?_
      refine op_pure (pu_move (OT.tmp rfl)) rfl rfl ?_
      refine op_pure (pu_len_sl (OT.tmp rfl) Tryd.underlying88) rfl rfl ?_
      refine op_pure (pu_move OT.const) rfl rfl ?_
      refine tr_nil ?_
      refine then_normal ?_
      refine tr_block ?_
      refine tr_loopK (σ := Nat × Value) (es_cons (t := 25) (OT.tmp rfl) (es_cons (t := 26) (OT.tmp rfl) es_nil)) (fun s => [(27, I64 (s.1 : Int)), (6, IsV s.2)]) (fun s => [OwnI 5 (kint .u8) s.2 (ls.take s.1).flatten]) (fun s => s.1 ≤ ls.length) (fun s => ls.length - s.1) (0, v9_1) (Nat.zero_le _) ?_ (own_picks (by repeat (first | exact picks_nil | refine picks_cons 0 rfl ?_ | refine picks_cons 1 rfl ?_ | refine picks_cons 2 rfl ?_ | refine picks_cons 3 rfl ?_ | refine picks_cons 4 rfl ?_ | refine picks_cons 5 rfl ?_ | refine picks_cons 6 rfl ?_))) ?_
      · exact (es_cons (t := 27) (by exact OT.tmp rfl) (es_cons (t := 6) (by exact OT.tmp rfl) es_nil))
      · rintro ⟨k2, v⟩ hk2
        dsimp only at hk2 ⊢
        refine tr_seq ?_
        -- region 11
        refine tr_env (es_cons (t := 6) (OT.tmp rfl) (es_cons (t := 25) (OT.tmp rfl) (es_cons (t := 26) (OT.tmp rfl) (es_cons (t := 27) (OT.tmp rfl) es_nil)))) ?_
        refine tr_region ?_
        refine op_pure (pu_lss (OT.tmp rfl) (OT.tmp rfl)) rfl rfl ?_
        refine tr_nil ?_
        refine then_normal ?_
        refine tr_seq ?_
        refine tr_cond (OT.tmp rfl) (fun c28 => ?_) (fun c28 => ?_)
        · try simp only [decide_eq_true_eq, decide_eq_false_iff_not, Bool.or_eq_true, Bool.and_eq_true, Bool.or_eq_false_iff, Bool.and_eq_false_iff, Bool.not_eq_true', Bool.not_eq_false', ne_eq, Classical.not_not] at c28
          refine tr_skip ?_
          refine then_normal ?_
          refine tr_seq ?_
          refine tr_block ?_
          refine tr_seq ?_
          -- region 12
          refine tr_env (es_cons (t := 6) (OT.tmp rfl) (es_cons (t := 25) (OT.tmp rfl) (es_cons (t := 26) (OT.tmp rfl) (es_cons (t := 27) (OT.tmp rfl) es_nil)))) ?_
          have hfl2 := flat_leB ls (k2 + 1)
          have htf2 := take_flatB (ls := ls) (k := k2) (by omega)
          rw [htf2, List.length_append] at hfl2
          refine tr_region ?_
          refine op_pure (pu_index (OT.tmp rfl) (OT.tmp rfl) Tryd.underlying88 (show tyOk Tryd.prog 26 false 1 = true from by decide +kernel) (by omega) (by omega)) rfl rfl ?_
          refine op_pure (pu_load (OT.tmp rfl) (show tyOk Tryd.prog 26 false 1 = true from by decide +kernel)) rfl rfl ?_
          refine op_pure (pu_assign (OT.tmp rfl)) rfl rfl ?_
          refine tr_nil ?_
          refine then_normal ?_
          -- region 13
          refine tr_env (es_cons (t := 6) (OT.tmp rfl) (es_cons (t := 8) (OT.tmp rfl) (es_cons (t := 25) (OT.tmp rfl) (es_cons (t := 26) (OT.tmp rfl) (es_cons (t := 27) (OT.tmp rfl) es_nil))))) ?_
          refine tr_region ?_
          refine op_pure (pu_move (OT.tmp rfl)) rfl rfl ?_
          refine op_pure (pu_move (OT.tmp rfl)) rfl rfl ?_
          refine op_acts (acts_append (OT.tmp rfl) (by exact perm_at 0 rfl) (OT.tmp rfl) (show slTy Tryd.prog 26 5 1 1 = true from by decide +kernel) (by omega) (by (simp [maxLen] at *; omega))) (by exact perm_at 0 rfl) rfl rfl (fun v13_2 _ => ?_)
          refine op_pure (pu_assign (OT.tmp rfl)) rfl rfl ?_
          refine tr_nil ?_
          refine block_normal ?_
          refine then_normal ?_
          -- region 14
          refine tr_env (es_cons (t := 6) (OT.tmp rfl) (es_cons (t := 25) (OT.tmp rfl) (es_cons (t := 26) (OT.tmp rfl) (es_cons (t := 27) (OT.tmp rfl) es_nil)))) ?_
          refine tr_region ?_
          refine op_pure (pu_add' (OT.tmp rfl) OT.const (by omega)) rfl rfl ?_
          refine op_pure (pu_move (OT.tmp rfl)) rfl rfl ?_
          refine tr_nil ?_
          refine then_normal ?_
          exact tr_again (k2 + 1, v13_2) (by show k2 + 1 ≤ ls.length; omega) (by omega) (es_append (es_cons (t := 27) (by exact OT.tmp rfl) (es_cons (t := 6) (by exact OT.tmp rfl) es_nil)) (es_cons (t := 25) (OT.tmp rfl) (es_cons (t := 26) (OT.tmp rfl) es_nil))) (own_picks (by rw [htf2]; exact (by repeat (first | exact picks_nil | refine picks_cons 0 rfl ?_ | refine picks_cons 1 rfl ?_ | refine picks_cons 2 rfl ?_ | refine picks_cons 3 rfl ?_ | refine picks_cons 4 rfl ?_ | refine picks_cons 5 rfl ?_ | refine picks_cons 6 rfl ?_))))
        · try simp only [decide_eq_true_eq, decide_eq_false_iff_not, Bool.or_eq_true, Bool.and_eq_true, Bool.or_eq_false_iff, Bool.and_eq_false_iff, Bool.not_eq_true', Bool.not_eq_false', ne_eq, Classical.not_not] at c28
          refine tr_exit ?_
          refine then_exit ?_
          refine then_exit ?_
          refine block_hit ?_
          refine then_normal ?_
          refine tr_seq ?_
          -- region 15
          refine tr_env (es_cons (t := 6) (OT.tmp rfl) es_nil) ?_
          obtain rfl : k2 = ls.length := by omega
          rw [List.take_length]
          refine tr_region ?_
          refine op_pure (pu_move (OT.tmp rfl)) rfl rfl ?_
          refine op_pure (pu_assign (OT.tmp rfl)) rfl rfl ?_
          refine tr_nil ?_
          refine then_normal ?_
          refine tr_ret ?_
          exact ret_one .ret (.inl rfl) rfl v (OT.tmp rfl) trivial (by repeat (first | exact picks_nil | refine picks_cons 0 rfl ?_ | refine picks_cons 1 rfl ?_ | refine picks_cons 2 rfl ?_ | refine picks_cons 3 rfl ?_ | refine picks_cons 4 rfl ?_ | refine picks_cons 5 rfl ?_ | refine picks_cons 6 rfl ?_))
end Go.Proofs.YtdlendioamiagaaDoor
/- Walks through the Go functions (*strings.Builder).copyCheck, (*strings.Builder).copyCheck, as typed contracts. -/
namespace Go.Proofs.YtdlendioamiagaaDoor
open Go Go.Gw Go.Vl
set_option linter.unusedVariables false
set_option linter.unusedSimpArgs false

set_option maxRecDepth 20000 in
/-- (*strings.Builder).copyCheck -/
theorem copyNew_fn (b : Nat) (v : Value) : Ct Tryd.prog 59 [IsV (pt b 0)] ([BlkI b 68 kBld (.pointer none, v)]) Unit (fun _ => AnyT) (fun _ => [BlkI b 68 kBld (pt b 0, v)]) (fun _ => True) := by
  refine fn_intro Tryd.func59 rfl rfl ?_
  intro H w
  refine tr_seq ?_
  -- region 0
  refine tr_env (es_cons (t := 0) (OT.tmp rfl) es_nil) ?_
  refine tr_region ?_
  refine op_pure (pu_move (OT.tmp rfl)) rfl rfl ?_
  refine op_pure (pu_nilCheck (OT.tmp rfl)) rfl rfl ?_
  refine op_pure (pu_faddr (OT.tmp rfl) (show fieldOk Tryd.prog 68 0 0 false 1 = true from by decide +kernel)) rfl rfl ?_
  refine op_pure (pu_load_rawf (OT.tmp rfl) (by exact mem_at 0 rfl) lb0 (show tyOk Tryd.prog 66 false 1 = true from by decide +kernel)) rfl rfl ?_
  refine op_pure (pu_ptr_eql ptr_is (OT.tmp rfl) Tryd.underlying66) rfl rfl ?_
  refine tr_nil ?_
  refine then_normal ?_
  refine tr_cond (OT.tmp rfl) (fun c6 => ?_) (fun c6 => ?_)
  · skip
    -- region 1
    refine tr_env (es_cons (t := 0) (OT.tmp rfl) es_nil) ?_
    refine tr_region ?_
    refine op_pure (pu_move (OT.tmp rfl)) rfl rfl ?_
    refine op_pure (pu_move (OT.tmp rfl)) rfl rfl ?_
    refine op_pure (pu_to_unsafe (OT.tmp rfl) (by exact mem_at 0 rfl) Tryd.underlying66 Tryd.underlying105 (by kernel_rfl) (by decide)) rfl rfl ?_
    refine op_pure (pu_extern (e := Extern.AbiNoEscape.same) (OT.tmp rfl) Tryd.func74 (by kernel_rfl) (by kernel_rfl) (by kernel_rfl) (by kernel_rfl) (fun w => rfl)) rfl rfl ?_
    refine op_pure (pu_from_unsafe (OT.tmp rfl) (by exact mem_at 0 rfl) Tryd.underlying105 Tryd.underlying66 (by kernel_rfl) (by kernel_rfl)) rfl rfl ?_
    refine op_pure (pu_nilCheck (OT.tmp rfl)) rfl rfl ?_
    refine op_pure (pu_faddr (OT.tmp rfl) (show fieldOk Tryd.prog 68 0 0 false 1 = true from by decide +kernel)) rfl rfl ?_
    refine op_acts (acts_store_rawf (OT.tmp rfl) (OT.tmp rfl) (by rfl) (by exact perm_at 0 rfl) lb0 (show tyOk Tryd.prog 66 false 1 = true from by decide +kernel)) (by exact perm_at 0 rfl) rfl rfl (fun _ _ => ?_)
    refine tr_nil ?_
    exact ret_none .normal (.inr rfl) rfl () (fun _ => trivial) trivial (by repeat (first | exact picks_nil | refine picks_cons 0 rfl ?_ | refine picks_cons 1 rfl ?_ | refine picks_cons 2 rfl ?_ | refine picks_cons 3 rfl ?_ | refine picks_cons 4 rfl ?_ | refine picks_cons 5 rfl ?_ | refine picks_cons 6 rfl ?_))
  · skip
    exact absurd c6 (by simp) --done
set_option maxRecDepth 20000 in
/-- (*strings.Builder).copyCheck -/
theorem copyOld_fn (b : Nat) (v : Value) : Ct Tryd.prog 59 [IsV (pt b 0)] ([BlkI b 68 kBld (pt b 0, v)]) Unit (fun _ => AnyT) (fun _ => [BlkI b 68 kBld (pt b 0, v)]) (fun _ => True) := by
  refine fn_intro Tryd.func59 rfl rfl ?_
  intro H w
  refine tr_seq ?_
  -- region 0
  refine tr_env (es_cons (t := 0) (OT.tmp rfl) es_nil) ?_
  refine tr_region ?_
  refine op_pure (pu_move (OT.tmp rfl)) rfl rfl ?_
  refine op_pure (pu_nilCheck (OT.tmp rfl)) rfl rfl ?_
  refine op_pure (pu_faddr (OT.tmp rfl) (show fieldOk Tryd.prog 68 0 0 false 1 = true from by decide +kernel)) rfl rfl ?_
  refine op_pure (pu_load_rawf (OT.tmp rfl) (by exact mem_at 0 rfl) lb0 (show tyOk Tryd.prog 66 false 1 = true from by decide +kernel)) rfl rfl ?_
  refine op_pure (pu_ptr_eql ptr_is (OT.tmp rfl) Tryd.underlying66) rfl rfl ?_
  refine tr_nil ?_
  refine then_normal ?_
  refine tr_cond (OT.tmp rfl) (fun c6 => ?_) (fun c6 => ?_)
  · skip
    exact absurd c6 (by simp) --done
  · skip
    refine tr_seq ?_
    -- region 2
    refine tr_env (es_cons (t := 0) (OT.tmp rfl) es_nil) ?_
    refine tr_region ?_
    refine op_pure (pu_move (OT.tmp rfl)) rfl rfl ?_
    refine op_pure (pu_nilCheck (OT.tmp rfl)) rfl rfl ?_
    refine op_pure (pu_faddr (OT.tmp rfl) (show fieldOk Tryd.prog 68 0 0 false 1 = true from by decide +kernel)) rfl rfl ?_
    refine op_pure (pu_load_rawf (OT.tmp rfl) (by exact mem_at 0 rfl) lb0 (show tyOk Tryd.prog 66 false 1 = true from by decide +kernel)) rfl rfl ?_
    refine op_pure (pu_move (OT.tmp rfl)) rfl rfl ?_
    refine op_pure (pu_ptr_neq_same (OT.tmp rfl) (OT.tmp rfl) Tryd.underlying66 (by kernel_rfl) (fun v h => by cases h)) rfl rfl ?_
    refine tr_nil ?_
    refine then_normal ?_
    refine tr_cond (OT.tmp rfl) (fun c19 => ?_) (fun c19 => ?_)
    · skip
      exact absurd c19 (by simp) --done
    · skip
      refine tr_skip ?_
      exact ret_none .normal (.inr rfl) rfl () (fun _ => trivial) trivial (by repeat (first | exact picks_nil | refine picks_cons 0 rfl ?_ | refine picks_cons 1 rfl ?_ | refine picks_cons 2 rfl ?_ | refine picks_cons 3 rfl ?_ | refine picks_cons 4 rfl ?_ | refine picks_cons 5 rfl ?_ | refine picks_cons 6 rfl ?_))
/-- The builder's first field: nothing yet, or itself. -/
abbrev adr (b : Nat) (p : Value) : Prop := p = .pointer none ∨ p = pt b 0
theorem copy_fn (b : Nat) (p v : Value) (h : adr b p) : Ct Tryd.prog 59 [IsV (pt b 0)] [BlkI b 68 kBld (p, v)] Unit (fun _ => AnyT) (fun _ => [BlkI b 68 kBld (pt b 0, v)]) (fun _ => True) := by
  rcases h with rfl | rfl
  · exact copyNew_fn b v
  · exact copyOld_fn b v
end Go.Proofs.YtdlendioamiagaaDoor
/- Walks through the Go functions (*strings.Builder).WriteByte, (*strings.Builder).WriteString, (*strings.Builder).WriteRune, (*strings.Builder).String, as typed contracts. -/
namespace Go.Proofs.YtdlendioamiagaaDoor
open Go Go.Gw Go.Vl
set_option linter.unusedVariables false
set_option linter.unusedSimpArgs false
theorem nums_app (a b : List UInt8) : nums (a ++ b) = nums a ++ nums b := List.map_append
theorem nums_one (c : UInt8) : nums [c] = [(c.toNat : Int)] := rfl
theorem nums_len (l : List UInt8) : (nums l).length = l.length := List.length_map _

set_option maxRecDepth 20000 in
/-- (*strings.Builder).WriteByte -/
theorem wByte_fn (b : Nat) (p v : Value) (l : List UInt8) (c : UInt8) (hp : adr b p) (hl : l.length ≤ 900000) : Ct Tryd.prog 35 [IsV (pt b 0), IntT .u8 (c.toNat : Int)] ([BlkI b 68 kBld (p, v), OwnI 5 (kint .u8) v (nums l)]) Value (fun u => IsV .nilIface) (fun u => [BlkI b 68 kBld (pt b 0, u), OwnI 5 (kint .u8) u (nums (l ++ [c]))]) (fun _ => True) := by
  refine fn_intro Tryd.func35 rfl rfl ?_
  intro H w
  have hnl := nums_len l
  refine tr_seq ?_
  -- region 0
  refine tr_env (es_cons (t := 0) (OT.tmp rfl) (es_cons (t := 1) (OT.tmp rfl) es_nil)) ?_
  refine tr_region ?_
  refine op_pure (pu_assign OT.const) rfl rfl ?_
  refine tr_nil ?_
  refine then_normal ?_
  refine tr_seq ?_
  -- region 1
  refine tr_env (es_cons (t := 0) (OT.tmp rfl) (es_cons (t := 1) (OT.tmp rfl) es_nil)) ?_
  refine tr_region ?_
  refine op_pure (pu_move (OT.tmp rfl)) rfl rfl ?_
  refine op_acts (acts_call (copy_fn _ _ _ (by assumption)) (show enters Tryd.prog 59 = true from by decide +kernel) (OTs.cons (OT.tmp rfl) OTs.nil) (by exact perm_at 0 rfl)) (by exact perm_at 0 rfl) rfl rfl (fun _ _ => ?_)
  refine tr_nil ?_
  refine then_normal ?_
  refine tr_seq ?_
  -- region 2
  refine tr_env (es_cons (t := 0) (OT.tmp rfl) (es_cons (t := 1) (OT.tmp rfl) es_nil)) ?_
  refine tr_region ?_
  refine op_pure (pu_move (OT.tmp rfl)) rfl rfl ?_
  refine op_pure (pu_move (OT.tmp rfl)) rfl rfl ?_
  refine op_pure (pu_nilCheck (OT.tmp rfl)) rfl rfl ?_
  refine op_pure (pu_faddr (OT.tmp rfl) (show fieldOk Tryd.prog 68 1 1 false 1 = true from by decide +kernel)) rfl rfl ?_
  refine op_pure (pu_load_rawf (OT.tmp rfl) (by exact mem_at 0 rfl) lb1 (show tyOk Tryd.prog 26 false 1 = true from by decide +kernel)) rfl rfl ?_
  refine op_pure (pu_move (OT.tmp rfl)) rfl rfl ?_
  refine op_acts (acts_lit (d := (kint .u8)) (v0 := 0) (show slTy Tryd.prog 26 5 1 1 = true from by decide +kernel) (show tyOk Tryd.prog 5 false 1 = true from by decide +kernel) z5 (show 1 * 1 ≤ 16777216 from by decide) (by decide) (fills_arr rfl rfl (by decide) (OT.tmp rfl) fills_nil)) (List.Perm.refl _) rfl rfl (fun _ _ => ?_)
  refine op_acts (acts_append (OT.tmp rfl) (by exact perm_at 1 rfl) (OT.tmp rfl) (show slTy Tryd.prog 26 5 1 1 = true from by decide +kernel) (by (simp; omega)) (by (simp [maxLen]; omega))) (by exact perm_at 1 rfl) rfl rfl (fun v2_7 _ => ?_)
  refine op_pure (pu_nilCheck (OT.tmp rfl)) rfl rfl ?_
  refine op_pure (pu_faddr (OT.tmp rfl) (show fieldOk Tryd.prog 68 1 1 false 1 = true from by decide +kernel)) rfl rfl ?_
  refine tr_fact (mem_at 0 rfl) own_cell fun hone => ?_
  refine op_acts (acts_store_rawf (OT.tmp rfl) (OT.tmp rfl) (by assumption) (by exact perm_at 1 rfl) lb1 (show tyOk Tryd.prog 26 false 1 = true from by decide +kernel)) (by exact perm_at 1 rfl) rfl rfl (fun _ _ => ?_)
  refine tr_nil ?_
  refine then_normal ?_
  refine tr_seq ?_
  -- region 3
  refine tr_env es_nil ?_
  refine tr_region ?_
  refine op_pure (pu_assign OT.const) rfl rfl ?_
  refine tr_nil ?_
  refine then_normal ?_
  refine tr_ret ?_
  exact ret_one .ret (.inl rfl) rfl v2_7 (OT.tmp rfl) trivial (by rw [nums_app, nums_one]; exact (by repeat (first | exact picks_nil | refine picks_cons 0 rfl ?_ | refine picks_cons 1 rfl ?_ | refine picks_cons 2 rfl ?_ | refine picks_cons 3 rfl ?_ | refine picks_cons 4 rfl ?_ | refine picks_cons 5 rfl ?_ | refine picks_cons 6 rfl ?_)))
set_option maxRecDepth 20000 in
/-- (*strings.Builder).WriteString -/
theorem wStr_fn (b : Nat) (p v : Value) (l : List UInt8) (s : List UInt8) (hp : adr b p) (hl : l.length ≤ 900000) (hs : s.length ≤ 90000) : Ct Tryd.prog 37 [IsV (pt b 0), BsT s] ([BlkI b 68 kBld (p, v), OwnI 5 (kint .u8) v (nums l)]) Value (fun u => TupT [I64 (s.length : Int), IsV .nilIface]) (fun u => [BlkI b 68 kBld (pt b 0, u), OwnI 5 (kint .u8) u (nums (l ++ s))]) (fun _ => True) := by
  refine fn_intro Tryd.func37 rfl rfl ?_
  intro H w
  have hnl := nums_len l
  refine tr_seq ?_
  -- region 0
  refine tr_env (es_cons (t := 0) (OT.tmp rfl) (es_cons (t := 1) (OT.tmp rfl) es_nil)) ?_
  refine tr_region ?_
  refine op_pure (pu_assign OT.const) rfl rfl ?_
  refine op_pure (pu_assign OT.const) rfl rfl ?_
  refine tr_nil ?_
  refine then_normal ?_
  refine tr_seq ?_
  -- region 1
  refine tr_env (es_cons (t := 0) (OT.tmp rfl) (es_cons (t := 1) (OT.tmp rfl) es_nil)) ?_
  refine tr_region ?_
  refine op_pure (pu_move (OT.tmp rfl)) rfl rfl ?_
  refine op_acts (acts_call (copy_fn _ _ _ (by assumption)) (show enters Tryd.prog 59 = true from by decide +kernel) (OTs.cons (OT.tmp rfl) OTs.nil) (by exact perm_at 0 rfl)) (by exact perm_at 0 rfl) rfl rfl (fun _ _ => ?_)
  refine tr_nil ?_
  refine then_normal ?_
  refine tr_seq ?_
  -- region 2
  refine tr_env (es_cons (t := 0) (OT.tmp rfl) (es_cons (t := 1) (OT.tmp rfl) es_nil)) ?_
  refine tr_region ?_
  refine op_pure (pu_move (OT.tmp rfl)) rfl rfl ?_
  refine op_pure (pu_move (OT.tmp rfl)) rfl rfl ?_
  refine op_pure (pu_nilCheck (OT.tmp rfl)) rfl rfl ?_
  refine op_pure (pu_faddr (OT.tmp rfl) (show fieldOk Tryd.prog 68 1 1 false 1 = true from by decide +kernel)) rfl rfl ?_
  refine op_pure (pu_load_rawf (OT.tmp rfl) (by exact mem_at 0 rfl) lb1 (show tyOk Tryd.prog 26 false 1 = true from by decide +kernel)) rfl rfl ?_
  refine op_pure (pu_move (OT.tmp rfl)) rfl rfl ?_
  refine op_acts (acts_append_bs (OT.tmp rfl) (by exact perm_at 1 rfl) (OT.tmp rfl) (show slTy Tryd.prog 26 5 1 1 = true from by decide +kernel) (by kernel_rfl) Tryd.underlying9 (by omega) (by (simp [maxLen]; omega))) (by exact perm_at 1 rfl) rfl rfl (fun v2_6 _ => ?_)
  refine op_pure (pu_nilCheck (OT.tmp rfl)) rfl rfl ?_
  refine op_pure (pu_faddr (OT.tmp rfl) (show fieldOk Tryd.prog 68 1 1 false 1 = true from by decide +kernel)) rfl rfl ?_
  refine tr_fact (mem_at 0 rfl) own_cell fun hone => ?_
  refine op_acts (acts_store_rawf (OT.tmp rfl) (OT.tmp rfl) (by assumption) (by exact perm_at 1 rfl) lb1 (show tyOk Tryd.prog 26 false 1 = true from by decide +kernel)) (by exact perm_at 1 rfl) rfl rfl (fun _ _ => ?_)
  refine tr_nil ?_
  refine then_normal ?_
  refine tr_seq ?_
  -- region 3
  refine tr_env (es_cons (t := 1) (OT.tmp rfl) es_nil) ?_
  refine tr_region ?_
  refine op_pure (pu_move (OT.tmp rfl)) rfl rfl ?_
  refine op_pure (pu_len_bs Tryd.underlying9 (OT.tmp rfl)) rfl rfl ?_
  refine op_pure (pu_assign (OT.tmp rfl)) rfl rfl ?_
  refine op_pure (pu_assign OT.const) rfl rfl ?_
  refine tr_nil ?_
  refine then_normal ?_
  refine tr_ret ?_
  exact ret_two .ret (.inl rfl) rfl v2_6 (OT.tmp rfl) (OT.tmp rfl) (fun _ _ h => h) trivial (by rw [nums_app]; exact (by repeat (first | exact picks_nil | refine picks_cons 0 rfl ?_ | refine picks_cons 1 rfl ?_ | refine picks_cons 2 rfl ?_ | refine picks_cons 3 rfl ?_ | refine picks_cons 4 rfl ?_ | refine picks_cons 5 rfl ?_ | refine picks_cons 6 rfl ?_)))
set_option maxRecDepth 20000 in
/-- (*strings.Builder).WriteRune -/
theorem wRune_fn (b : Nat) (p v : Value) (l : List UInt8) (r : Int) (hp : adr b p) (hl : l.length ≤ 900000) (hr : isRune r) : Ct Tryd.prog 36 [IsV (pt b 0), IntT .i32 r] ([BlkI b 68 kBld (p, v), OwnI 5 (kint .u8) v (nums l)]) Value (fun u => TupT [I64 ((Lib.encodeRuneZ r).length : Int), IsV .nilIface]) (fun u => [BlkI b 68 kBld (pt b 0, u), OwnI 5 (kint .u8) u (nums (l ++ enc r))]) (fun _ => True) := by
  refine fn_intro Tryd.func36 rfl rfl ?_
  intro H w
  have hnl := nums_len l
  have hle := enc_le r
  refine tr_seq ?_
  -- region 0
  refine tr_env (es_cons (t := 0) (OT.tmp rfl) (es_cons (t := 1) (OT.tmp rfl) es_nil)) ?_
  refine tr_region ?_
  refine op_pure (pu_assign OT.const) rfl rfl ?_
  refine op_pure (pu_assign OT.const) rfl rfl ?_
  refine tr_nil ?_
  refine then_normal ?_
  refine tr_seq ?_
  -- region 1
  refine tr_env (es_cons (t := 0) (OT.tmp rfl) (es_cons (t := 1) (OT.tmp rfl) es_nil)) ?_
  refine tr_region ?_
  refine op_pure (pu_move (OT.tmp rfl)) rfl rfl ?_
  refine op_acts (acts_call (copy_fn _ _ _ (by assumption)) (show enters Tryd.prog 59 = true from by decide +kernel) (OTs.cons (OT.tmp rfl) OTs.nil) (by exact perm_at 0 rfl)) (by exact perm_at 0 rfl) rfl rfl (fun _ _ => ?_)
  refine tr_nil ?_
  refine then_normal ?_
  refine tr_seq ?_
  -- region 2
  refine tr_env (es_cons (t := 0) (OT.tmp rfl) (es_cons (t := 1) (OT.tmp rfl) es_nil)) ?_
  refine tr_region ?_
  refine op_pure (pu_move (OT.tmp rfl)) rfl rfl ?_
  refine op_pure (pu_nilCheck (OT.tmp rfl)) rfl rfl ?_
  refine op_pure (pu_faddr (OT.tmp rfl) (show fieldOk Tryd.prog 68 1 1 false 1 = true from by decide +kernel)) rfl rfl ?_
  refine op_pure (pu_load_rawf (OT.tmp rfl) (by exact mem_at 0 rfl) lb1 (show tyOk Tryd.prog 26 false 1 = true from by decide +kernel)) rfl rfl ?_
  refine op_pure (pu_len_own (OT.tmp rfl) (by exact mem_at 1 rfl) Tryd.underlying26) rfl rfl ?_
  refine op_pure (pu_assign (OT.tmp rfl)) rfl rfl ?_
  refine tr_nil ?_
  refine then_normal ?_
  refine tr_seq ?_
  -- region 3
  refine tr_env (es_cons (t := 0) (OT.tmp rfl) (es_cons (t := 1) (OT.tmp rfl) (es_cons (t := 6) (OT.tmp rfl) es_nil))) ?_
  refine tr_region ?_
  refine op_pure (pu_move (OT.tmp rfl)) rfl rfl ?_
  refine op_pure (pu_move (OT.tmp rfl)) rfl rfl ?_
  refine op_pure (pu_nilCheck (OT.tmp rfl)) rfl rfl ?_
  refine op_pure (pu_faddr (OT.tmp rfl) (show fieldOk Tryd.prog 68 1 1 false 1 = true from by decide +kernel)) rfl rfl ?_
  refine op_pure (pu_load_rawf (OT.tmp rfl) (by exact mem_at 0 rfl) lb1 (show tyOk Tryd.prog 26 false 1 = true from by decide +kernel)) rfl rfl ?_
  refine op_pure (pu_move (OT.tmp rfl)) rfl rfl ?_
  refine op_acts (acts_call (appRune_fn _ _ r (by rw [hnl]; omega) hr) (show enters Tryd.prog 60 = true from by decide +kernel) (OTs.cons (OT.tmp rfl) (OTs.cons (OT.tmp rfl) OTs.nil)) (by exact perm_at 1 rfl)) (by exact perm_at 1 rfl) rfl rfl (fun v3_6 _ => ?_)
  refine op_pure (pu_nilCheck (OT.tmp rfl)) rfl rfl ?_
  refine op_pure (pu_faddr (OT.tmp rfl) (show fieldOk Tryd.prog 68 1 1 false 1 = true from by decide +kernel)) rfl rfl ?_
  refine tr_fact (mem_at 0 rfl) own_cell fun hone => ?_
  refine op_acts (acts_store_rawf (OT.tmp rfl) (OT.tmp rfl) (by assumption) (by exact perm_at 1 rfl) lb1 (show tyOk Tryd.prog 26 false 1 = true from by decide +kernel)) (by exact perm_at 1 rfl) rfl rfl (fun _ _ => ?_)
  refine tr_nil ?_
  refine then_normal ?_
  refine tr_seq ?_
  -- region 4
  refine tr_env (es_cons (t := 0) (OT.tmp rfl) (es_cons (t := 6) (OT.tmp rfl) es_nil)) ?_
  refine tr_region ?_
  refine op_pure (pu_move (OT.tmp rfl)) rfl rfl ?_
  refine op_pure (pu_nilCheck (OT.tmp rfl)) rfl rfl ?_
  refine op_pure (pu_faddr (OT.tmp rfl) (show fieldOk Tryd.prog 68 1 1 false 1 = true from by decide +kernel)) rfl rfl ?_
  refine op_pure (pu_load_rawf (OT.tmp rfl) (by exact mem_at 0 rfl) lb1 (show tyOk Tryd.prog 26 false 1 = true from by decide +kernel)) rfl rfl ?_
  refine op_pure (pu_len_own (OT.tmp rfl) (by exact mem_at 1 rfl) Tryd.underlying26) rfl rfl ?_
  refine op_pure (pu_move (OT.tmp rfl)) rfl rfl ?_
  refine op_pure (pu_sub' (OT.tmp rfl) (OT.tmp rfl) (by (simp; omega))) rfl rfl ?_
  refine op_pure (pu_assign (OT.tmp rfl)) rfl rfl ?_
  refine op_pure (pu_assign OT.const) rfl rfl ?_
  refine tr_nil ?_
  refine then_normal ?_
  refine tr_ret ?_
  exact ret_two .ret (.inl rfl) rfl v3_6 (OT.val (OT.tmp rfl) (congrArg (Value.int _) (by rw [List.length_append]; omega))) (OT.tmp rfl) (fun _ _ h => h) trivial (by rw [nums_app, nums_enc]; exact (by repeat (first | exact picks_nil | refine picks_cons 0 rfl ?_ | refine picks_cons 1 rfl ?_ | refine picks_cons 2 rfl ?_ | refine picks_cons 3 rfl ?_ | refine picks_cons 4 rfl ?_ | refine picks_cons 5 rfl ?_ | refine picks_cons 6 rfl ?_)))
set_option maxRecDepth 20000 in
/-- (*strings.Builder).String -/
theorem bStr_fn (b : Nat) (p v : Value) (l : List UInt8) (hl : l.length ≤ 1000000) (hn : l = [] → v = nilS) : Ct Tryd.prog 39 [IsV (pt b 0)] ([BlkI b 68 kBld (p, v), OwnI 5 (kint .u8) v (nums l)]) Unit (fun _ => BsT l) (fun _ => []) (fun _ => True) := by
  refine fn_intro Tryd.func39 rfl rfl ?_
  intro H w
  have hnl := nums_len l
  have hn2 : nums l = [] → v = nilS := fun e => hn (by simpa using e)
  refine tr_seq ?_
  -- region 0
  refine tr_env (es_cons (t := 0) (OT.tmp rfl) es_nil) ?_
  refine tr_region ?_
  refine op_pure (pu_assign OT.const) rfl rfl ?_
  refine tr_nil ?_
  refine then_normal ?_
  refine tr_seq ?_
  -- region 1
  refine tr_env (es_cons (t := 0) (OT.tmp rfl) es_nil) ?_
  apply tr_any (m := 10) (ns := [[(0, none)], [(3, some 0)], [(4, some 1)], [(5, some 2)], [(6, some 3)], [(0, none)], [(8, some 5)], [(9, some 6)], [(10, some 7)], [(11, some 8)]]) (by kernel_rfl) (by kernel_rfl) (Ts := [_, _, _, _, _, _, _, _, _, _]) rfl
  case hops =>
    refine ⟨?_, ⟨?_, ⟨?_, ⟨?_, ⟨?_, ⟨?_, ⟨?_, ⟨?_, ⟨?_, ⟨?_, trivial⟩⟩⟩⟩⟩⟩⟩⟩⟩⟩
    · exact rop_pure rfl (pu_move (OT.tmp rfl))
    · exact rop_pure rfl (pu_nilCheck (OT.tmp rfl))
    · exact rop_pure rfl (pu_faddr (OT.tmp rfl) (show fieldOk Tryd.prog 68 1 1 false 1 = true from by decide +kernel))
    · exact rop_pure rfl (pu_load_rawf (OT.tmp rfl) (by exact mem_at 0 rfl) lb1 (show tyOk Tryd.prog 26 false 1 = true from by decide +kernel))
    · exact rop_pure rfl (pu_dataV (OT.tmp rfl) (by exact mem_at 1 rfl) (by assumption))
    · exact rop_pure rfl (pu_move (OT.tmp rfl))
    · exact rop_pure rfl (pu_nilCheck (OT.tmp rfl))
    · exact rop_pure rfl (pu_faddr (OT.tmp rfl) (show fieldOk Tryd.prog 68 1 1 false 1 = true from by decide +kernel))
    · exact rop_pure rfl (pu_load_rawf (OT.tmp rfl) (by exact mem_at 0 rfl) lb1 (show tyOk Tryd.prog 26 false 1 = true from by decide +kernel))
    · exact rop_pure rfl (pu_len_own (OT.tmp rfl) (by exact mem_at 1 rfl) Tryd.underlying26)
  case h =>
    refine tr_as 12 (T := I64 (l.length : Int)) (OT.val (OT.tmp rfl) (by rw [hnl])) ?_
    refine op_acts (acts_unsafeString (OT.tmp rfl) (OT.tmp rfl) (by exact perm_at 1 rfl) Tryd.underlying91 (by kernel_rfl)) (by exact perm_at 1 rfl) rfl rfl (fun _ _ => ?_)
    refine op_pure (pu_assign (OT.tmp rfl)) rfl rfl ?_
    refine tr_nil ?_
    refine then_normal ?_
    refine tr_ret ?_
    exact ret_one .ret (.inl rfl) rfl () (OT.tmp rfl) trivial (by exact picks_nil)
end Go.Proofs.YtdlendioamiagaaDoor
