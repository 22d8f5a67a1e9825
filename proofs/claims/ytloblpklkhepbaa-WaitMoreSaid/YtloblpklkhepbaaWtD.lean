/- Who waits for whom in a ring: the plain part of rings. -/
import Derived.Test.YtloblpklkhepbaaWtC
import Derived.Test.YtloblpklkhepbaaG11
namespace Go.Wt
open Go Go.Gw
set_option linter.unusedVariables false
set_option linter.unusedSimpArgs false
/-! ### Reversed in place -/
def revTo (xs : List Int) : Nat → List Int
  | 0 => xs
  | k + 1 => ((revTo xs k).set k (at' (revTo xs k) ((xs.length : Int) - 1 - k))).set (xs.length - 1 - k) (at' (revTo xs k) k)
theorem revTo_len (xs : List Int) : ∀ k, (revTo xs k).length = xs.length
  | 0 => rfl
  | k + 1 => by simp [revTo, revTo_len xs k]
theorem revTo_at (xs : List Int) : ∀ (k : Nat), 2 * k ≤ xs.length → ∀ j : Nat, j < xs.length → (revTo xs k)[j]? = if j < k ∨ xs.length - 1 - j < k then xs[xs.length - 1 - j]? else xs[j]?
  | 0, _, j, hj => by simp [revTo]
  | k + 1, hk, j, hj => by
    have ih := revTo_at xs k (by omega)
    have hl := revTo_len xs k
    have a1 : at' (revTo xs k) ((xs.length : Int) - 1 - k) = at' xs ((xs.length : Int) - 1 - k) := by
      have := ih (xs.length - 1 - k) (by omega)
      rw [if_neg (by omega)] at this
      simp only [at', show ((xs.length : Int) - 1 - k).toNat = xs.length - 1 - k from by omega]
      simp only [List.getD_eq_getElem?_getD, this]
    have a2 : at' (revTo xs k) (k : Int) = at' xs (k : Int) := by
      have := ih k (by omega)
      rw [if_neg (by omega)] at this
      simp only [at', Int.toNat_natCast, List.getD_eq_getElem?_getD, this]
    simp only [revTo, a1, a2, List.getElem?_set, List.length_set, hl]
    have e1 : ∀ i : Nat, i < xs.length → some (at' xs (i : Int)) = xs[i]? := fun i hi => by rw [at'_nat hi, List.getElem?_eq_getElem hi]
    by_cases h1 : xs.length - 1 - k = j
    · rw [if_pos h1, if_pos (by omega), if_pos (by omega), show xs.length - 1 - j = k from by omega, e1 k (by omega)]
    · rw [if_neg h1]
      by_cases h2 : k = j
      · rw [if_pos h2, if_pos (by omega), if_pos (by omega), show (xs.length : Int) - 1 - k = ((xs.length - 1 - j : Nat) : Int) from by omega, e1 _ (by omega)]
      · rw [if_neg h2, ih j hj]
        by_cases h3 : j < k ∨ xs.length - 1 - j < k
        · rw [if_pos h3, if_pos (by omega)]
        · rw [if_neg h3, if_neg (by omega)]
theorem revTo_done {xs : List Int} {k : Nat} (h : 2 * k ≤ xs.length) (h1 : xs.length ≤ 2 * k + 1) : revTo xs k = xs.reverse := by
  apply List.ext_getElem?
  intro j
  by_cases hj : j < xs.length
  · rw [revTo_at xs k h j hj, List.getElem?_reverse hj]
    split
    · rfl
    · congr 1; omega
  · rw [List.getElem?_eq_none (by rw [revTo_len]; omega), List.getElem?_eq_none (by rw [List.length_reverse]; omega)]
theorem revTo_succ (xs : List Int) (k : Nat) (hk : 2 * k + 1 < xs.length) : revTo xs (k + 1) = ((revTo xs k).set (k : Int).toNat (at' (revTo xs k) ((xs.length : Int) - 1 - k))).set ((xs.length : Int) - 1 - k).toNat (at' (revTo xs k) k) := by
  rw [show ((xs.length : Int) - 1 - k).toNat = xs.length - 1 - k from by omega]; rfl
end Go.Wt
