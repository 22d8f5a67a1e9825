/- 2 ^ bits.Len(x) is at most twice x; bits.Len's contract. -/
import Derived.Test.YtloblpklkhepbaaG13
import Derived.Test.YtloblpklkhepbaaBiA
namespace Go.Proofs.Ytloblpklkhepbaa
open Go Go.Gw
theorem bitLen_two : ∀ n x : Nat, x ≤ n → 0 < x → x < 2 ^ 64 → 2 ^ Lib.bitLen x ≤ 2 * x
  | 0, x, h, h0, _ => by omega
  | n + 1, x, h, h0, hx => by
    rw [Lib.bitLen_half x (by omega) hx, Nat.add_comm, Nat.pow_succ]
    by_cases h1 : x / 2 = 0
    · rw [h1, show Lib.bitLen 0 = 0 from rfl]; omega
    · have := bitLen_two n (x / 2) (by omega) (by omega) (by omega)
      omega
theorem bits_ct (x : Int) (h0 : 0 ≤ x) (h1 : x ≤ 18446744073709551615) : Ct Try.prog 74 [IsV (.int .u64 x)] [] Unit (fun _ => I64 (Lib.bitLen x.toNat)) (fun _ => []) (fun _ => True) := ct_one fun w => bits_Len x w h0 h1
end Go.Proofs.Ytloblpklkhepbaa
namespace Go.Proofs.Ytloblpklkhepbaa
open Go Go.Gw
theorem and_le {m n : Int} (h0 : 0 ≤ n) (h1 : n < 9223372036854775808) : 0 ≤ bitsV .and .u64 m n ∧ bitsV .and .u64 m n ≤ n := by
  have hn : (BitVec.ofInt 64 n).toNat = n.toNat := by
    rw [BitVec.toNat_ofInt]; omega
  have h2 : ((BitVec.ofInt 64 m &&& BitVec.ofInt 64 n).toNat : Int) ≤ n := by
    rw [BitVec.toNat_and]
    have : (BitVec.ofInt 64 m).toNat &&& (BitVec.ofInt 64 n).toNat ≤ (BitVec.ofInt 64 n).toNat := Nat.and_le_right
    omega
  have h3 : bitsV .and .u64 m n = ((BitVec.ofInt 64 m &&& BitVec.ofInt 64 n).toNat : Int) := by
    show IntKind.wrap .u64 ((BitVec.ofInt 64 m &&& BitVec.ofInt 64 n).toNat : Int) = _
    exact wrap_in (k := .u64) (by omega) (by show _ < (9223372036854775808 : Int); omega)
  rw [h3]; omega
theorem two_pow_in {n : Nat} (h0 : 0 < n) (h1 : n < 4611686018427387904) : IntKind.wrap .u64 (1 * 2 ^ min (Lib.bitLen n) 64) = ((2 ^ Lib.bitLen n : Nat) : Int) ∧ 2 ^ Lib.bitLen n ≤ 2 * n ∧ 0 < 2 ^ Lib.bitLen n := by
  have h := bitLen_two n n (Nat.le_refl _) h0 (by omega)
  have hl : Lib.bitLen n < 64 := by
    rcases Nat.lt_or_ge (Lib.bitLen n) 64 with h2 | h2
    · exact h2
    · have := Nat.pow_le_pow_right (n := 2) (by omega) h2
      omega
  refine ⟨?_, h, Nat.two_pow_pos _⟩
  rw [Nat.min_eq_left (by omega), Int.one_mul]
  rw [show (2 : Int) ^ Lib.bitLen n = ((2 ^ Lib.bitLen n : Nat) : Int) from by simp]
  generalize 2 ^ Lib.bitLen n = q at h
  exact wrap_in (k := .u64) (Int.natCast_nonneg _) (by show _ < (9223372036854775808 : Int); omega)
end Go.Proofs.Ytloblpklkhepbaa
