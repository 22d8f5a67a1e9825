/- Sorts of tuples: the partitions' loops, step by step. -/
import Derived.Test.YtloblpklkhepbaaSoA
namespace Go.So
open Go Go.Gw
set_option linter.unusedVariables false
set_option linter.unusedSimpArgs false
section
variable {c : List Int → List Int → Int} {d : DA} {a b i j i2 j2 : Nat} {p : List Int → Bool}
theorem up_step (h : i ≤ j) (hp : p d[i]! = true) : Sort.scanUp p d j i = Sort.scanUp p d j (i + 1) := by
  rw [Sort.scanUp, if_pos (by simp [h, hp])]
theorem up_end (h : i ≤ j → p d[i]! = false) : Sort.scanUp p d j i = i := by
  rw [Sort.scanUp, if_neg (by rw [Bool.and_eq_true, decide_eq_true_eq]; rintro ⟨h1, h2⟩; rw [h h1] at h2; cases h2)]
theorem down_step (h0 : 0 < j) (h : i ≤ j) (hp : p d[j]! = true) : Sort.scanDown p d i j = Sort.scanDown p d i (j - 1) := by
  obtain ⟨k, rfl⟩ : ∃ k, j = k + 1 := ⟨j - 1, by omega⟩
  rw [Sort.scanDown, if_pos (by simp [h, hp]), Nat.add_sub_cancel]
theorem down_end (h : i ≤ j → p d[j]! = false) : Sort.scanDown p d i j = j := by
  cases j with
  | zero => rfl
  | succ k => rw [Sort.scanDown, if_neg (by rw [Bool.and_eq_true, decide_eq_true_eq]; rintro ⟨h1, h2⟩; rw [h h1] at h2; cases h2)]
theorem part_end (hi : Sort.scanUp (fun x => ltc c x d[a]!) d j i = i2) (hj : Sort.scanDown (fun x => !ltc c x d[a]!) d i2 j = j2) (h : i2 > j2) : Sort.partLoop (ltc c) a i j d = (j2, d) := by
  rw [Sort.partLoop]
  simp only [hi, hj]
  rw [if_pos h]
theorem part_step (hi : Sort.scanUp (fun x => ltc c x d[a]!) d j i = i2) (hj : Sort.scanDown (fun x => !ltc c x d[a]!) d i2 j = j2) (h : ¬ i2 > j2) (hg : j2 - 1 + 1 - (i2 + 1) < j + 1 - i) : Sort.partLoop (ltc c) a i j d = Sort.partLoop (ltc c) a (i2 + 1) (j2 - 1) (Sort.swp d i2 j2) := by
  rw [Sort.partLoop]
  simp only [hi, hj]
  rw [if_neg h, dif_pos hg]
theorem partE_end (hi : Sort.scanUp (fun x => !ltc c d[a]! x) d j i = i2) (hj : Sort.scanDown (fun x => ltc c d[a]! x) d i2 j = j2) (h : i2 > j2) : Sort.partEqLoop (ltc c) a i j d = (i2, d) := by
  rw [Sort.partEqLoop]
  simp only [hi, hj]
  rw [if_pos h]
theorem partE_step (hi : Sort.scanUp (fun x => !ltc c d[a]! x) d j i = i2) (hj : Sort.scanDown (fun x => ltc c d[a]! x) d i2 j = j2) (h : ¬ i2 > j2) (hg : j2 - 1 + 1 - (i2 + 1) < j + 1 - i) : Sort.partEqLoop (ltc c) a i j d = Sort.partEqLoop (ltc c) a (i2 + 1) (j2 - 1) (Sort.swp d i2 j2) := by
  rw [Sort.partEqLoop]
  simp only [hi, hj]
  rw [if_neg h, dif_pos hg]
theorem partition_one (hi : Sort.scanUp (fun x => ltc c x (Sort.swp d a b)[a]!) (Sort.swp d a b) (j - 1) (a + 1) = i2) (hj : Sort.scanDown (fun x => !ltc c x (Sort.swp d a b)[a]!) (Sort.swp d a b) i2 (j - 1) = j2) (h : i2 > j2) : Sort.partition (ltc c) d a j b = (j2, true, Sort.swp (Sort.swp d a b) j2 a) := by
  rw [Sort.partition]
  simp only [hi, hj]
  rw [if_pos h]
theorem partition_two (hi : Sort.scanUp (fun x => ltc c x (Sort.swp d a b)[a]!) (Sort.swp d a b) (j - 1) (a + 1) = i2) (hj : Sort.scanDown (fun x => !ltc c x (Sort.swp d a b)[a]!) (Sort.swp d a b) i2 (j - 1) = j2) (h : ¬ i2 > j2) :
    Sort.partition (ltc c) d a j b = ((Sort.partLoop (ltc c) a (i2 + 1) (j2 - 1) (Sort.swp (Sort.swp d a b) i2 j2)).1, false, Sort.swp (Sort.partLoop (ltc c) a (i2 + 1) (j2 - 1) (Sort.swp (Sort.swp d a b) i2 j2)).2 (Sort.partLoop (ltc c) a (i2 + 1) (j2 - 1) (Sort.swp (Sort.swp d a b) i2 j2)).1 a) := by
  rw [Sort.partition]
  simp only [hi, hj]
  rw [if_neg h]
/-- 'data[i], data[j] = data[j], data[i]', as the row reads behind it. -/
theorem sw (hi : i < d.size) (hj : j < d.size) : (d.toList.set (i : Int).toNat (at' d.toList (j : Int))).set (j : Int).toNat (at' d.toList (i : Int)) = (Sort.swp d i j).toList := by
  rw [swp_items (by omega) (by omega) (by omega) (by omega)]; simp
theorem lt_arr (hi : i < d.size) (hj : j < d.size) : decide (c (at' d.toList (i : Int)) (at' d.toList (j : Int)) < 0) = ltc c d[i]! d[j]! := (ltc_at hi hj).symm
end
end Go.So
