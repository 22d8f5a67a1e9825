/- Sorts of tuples: arrays of tuples as lists, the comparison. The plain layer of the sort is the kit's. -/
import Derived.Test.YtloblpklkhepbaaG17
import Derived.Sort.AssemblyPlain
namespace Go.So
open Go Go.Gw
set_option linter.unusedVariables false
set_option linter.unusedSimpArgs false
abbrev kT : Kd (List Int) := ksl (kint .i64)
abbrev DA := Array (List Int)
abbrev kF (K0 : FH) (n0 : Nat) : Kd (List Int) := kcl K0 n0 (kint .i64)
/-- 'Less', out of cmp. -/
def ltc (c : List Int → List Int → Int) (x y : List Int) : Bool := decide (c x y < 0)
theorem at_arr {d : DA} {i : Int} (h0 : 0 ≤ i) (h1 : i < d.size) : at' d.toList i = d[i.toNat]! := by
  have h : i.toNat < d.size := by omega
  simp [at', List.getD_eq_getElem?_getD, h]
theorem at_nat {d : DA} {i : Nat} (h1 : i < d.size) : at' d.toList (i : Int) = d[i]! := by
  rw [at_arr (by omega) (by omega), Int.toNat_natCast]
theorem swp_list {d : DA} {i j : Nat} (hi : i < d.size) (hj : j < d.size) : ((d.toList.set i (at' d.toList (j : Int))).set j (at' d.toList (i : Int))) = (Sort.swp d i j).toList := by
  rw [at_nat hi, at_nat hj]
  simp [Sort.swp]
theorem swp_size {d : DA} {i j : Nat} : (Sort.swp d i j).size = d.size := by simp [Sort.swp]
theorem swp_items {d : DA} {i j : Int} (hi : 0 ≤ i) (hi1 : i < d.size) (hj : 0 ≤ j) (hj1 : j < d.size) : (d.toList.set i.toNat (at' d.toList j)).set j.toNat (at' d.toList i) = (Sort.swp d i.toNat j.toNat).toList := by
  have h1 := swp_list (d := d) (i := i.toNat) (j := j.toNat) (by omega) (by omega)
  rw [Int.toNat_of_nonneg hi, Int.toNat_of_nonneg hj] at h1
  exact h1
section
variable {c : List Int → List Int → Int} {d : DA} {a b i j : Nat}
theorem ltc_at (hi : i < d.size) (hj : j < d.size) : ltc c d[i]! d[j]! = decide (c (at' d.toList (i : Int)) (at' d.toList (j : Int)) < 0) := by
  rw [ltc, at_nat hi, at_nat hj]
theorem insIn_step (h : a < j) (hl : ltc c d[j]! d[j - 1]! = true) : Sort.insInner (ltc c) a j d = Sort.insInner (ltc c) a (j - 1) (Sort.swp d j (j - 1)) := by
  obtain ⟨k, rfl⟩ : ∃ k, j = k + 1 := ⟨j - 1, by omega⟩
  rw [Nat.add_sub_cancel] at hl ⊢
  rw [Sort.insInner, if_pos (by simp [hl]; omega)]
theorem insIn_stop (h : a < j → ltc c d[j]! d[j - 1]! = false) : Sort.insInner (ltc c) a j d = d := by
  cases j with
  | zero => rfl
  | succ k =>
    rw [Sort.insInner]
    split
    · rename_i hc
      simp only [Bool.and_eq_true, decide_eq_true_eq] at hc
      have := h hc.1
      rw [Nat.add_sub_cancel] at this
      rw [this] at hc; exact absurd hc.2 (by simp)
    · rfl
theorem insOut_step (h : i < b) : Sort.insOuter (ltc c) a b i d = Sort.insOuter (ltc c) a b (i + 1) (Sort.insInner (ltc c) a i d) := by
  rw [Sort.insOuter, if_pos h]
theorem insOut_end (h : ¬ i < b) : Sort.insOuter (ltc c) a b i d = d := by
  rw [Sort.insOuter, if_neg h]
theorem rev_step (h : i < j) : Sort.reverseLoop i j d = Sort.reverseLoop (i + 1) (j - 1) (Sort.swp d i j) := by
  rw [Sort.reverseLoop, if_pos h]
theorem rev_end (h : ¬ i < j) : Sort.reverseLoop i j d = d := by
  rw [Sort.reverseLoop, if_neg h]
variable {hi first root : Nat}
theorem sift_end (h : 2 * root + 1 ≥ hi) : Sort.siftDown (ltc c) hi first root d = d := by
  rw [Sort.siftDown, dif_pos h]
theorem sift_two (h : ¬ 2 * root + 1 ≥ hi) (h2 : 2 * root + 1 + 1 < hi) (h3 : ltc c d[first + (2 * root + 1)]! d[first + (2 * root + 1) + 1]! = true) :
    Sort.siftDown (ltc c) hi first root d = if !ltc c d[first + root]! d[first + (2 * root + 2)]! then d else Sort.siftDown (ltc c) hi first (2 * root + 2) (Sort.swp d (first + root) (first + (2 * root + 2))) := by
  rw [Sort.siftDown, dif_neg h, if_pos (by simp [h2, h3])]
  split <;> first | rfl | rw [dif_pos (by omega)]
theorem sift_one (h : ¬ 2 * root + 1 ≥ hi) (h3 : 2 * root + 1 + 1 < hi → ltc c d[first + (2 * root + 1)]! d[first + (2 * root + 1) + 1]! = false) :
    Sort.siftDown (ltc c) hi first root d = if !ltc c d[first + root]! d[first + (2 * root + 1)]! then d else Sort.siftDown (ltc c) hi first (2 * root + 1) (Sort.swp d (first + root) (first + (2 * root + 1))) := by
  rw [Sort.siftDown, dif_neg h, if_neg (by
    rw [Bool.and_eq_true, decide_eq_true_eq]; rintro ⟨h4, h5⟩; rw [h3 h4] at h5; cases h5)]
theorem sift_size (hi first root : Nat) (d : DA) : (Sort.siftDown (ltc c) hi first root d).size = d.size := by
  fun_induction Sort.siftDown (ltc c) hi first root d <;> simp_all [Sort.swp]
theorem heap_eq (h : a < b) : Sort.heapSort (ltc c) d a b = Sort.heapPop (ltc c) a (b - a) (Sort.heapBuild (ltc c) (b - a) a ((b - a - 1) / 2 + 1) d) := rfl
end
end Go.So
