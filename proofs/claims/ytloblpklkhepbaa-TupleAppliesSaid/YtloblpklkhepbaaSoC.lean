/- Sorts of tuples: the steps of the insertion in part. -/
import Derived.Test.YtloblpklkhepbaaSoB
namespace Go.So
open Go Go.Gw
set_option linter.unusedVariables false
set_option linter.unusedSimpArgs false
section
variable {c : List Int → List Int → Int} {d : DA} {a b i j s : Nat}
theorem ss_step (h : i < b) (hp : ltc c d[i]! d[i - 1]! = false) : Sort.scanSorted (ltc c) d b i = Sort.scanSorted (ltc c) d b (i + 1) := by
  rw [Sort.scanSorted, if_pos (by simp [h, hp])]
theorem ss_end (h : i < b → ltc c d[i]! d[i - 1]! = true) : Sort.scanSorted (ltc c) d b i = i := by
  rw [Sort.scanSorted, if_neg (by
    rw [Bool.and_eq_true, decide_eq_true_eq]; rintro ⟨h1, h2⟩; rw [h h1] at h2; cases h2)]
theorem sd_step (h : 0 < j) (hp : ltc c d[j]! d[j - 1]! = true) : Sort.shiftDown (ltc c) j d = Sort.shiftDown (ltc c) (j - 1) (Sort.swp d j (j - 1)) := by
  obtain ⟨k, rfl⟩ : ∃ k, j = k + 1 := ⟨j - 1, by omega⟩
  rw [Nat.add_sub_cancel] at hp ⊢
  rw [Sort.shiftDown, if_neg (by simp [hp])]
theorem sd_end (h : 0 < j → ltc c d[j]! d[j - 1]! = false) : Sort.shiftDown (ltc c) j d = d := by
  cases j with
  | zero => rfl
  | succ k =>
    have := h (by omega)
    rw [Nat.add_sub_cancel] at this
    rw [Sort.shiftDown, if_pos (by simp [this])]
theorem su_step (h : j < b) (hp : ltc c d[j]! d[j - 1]! = true) : Sort.shiftUp (ltc c) b j d = Sort.shiftUp (ltc c) b (j + 1) (Sort.swp d j (j - 1)) := by
  rw [Sort.shiftUp, if_pos h, if_neg (by simp [hp])]
theorem su_end (h : j < b → ltc c d[j]! d[j - 1]! = false) : Sort.shiftUp (ltc c) b j d = d := by
  rw [Sort.shiftUp]
  split
  · rename_i hj
    rw [if_pos (by simp [h hj])]
  · rfl
theorem sd_size : ∀ (j : Nat) (d : DA), (Sort.shiftDown (ltc c) j d).size = d.size
  | 0, d => rfl
  | j + 1, d => by
    rw [Sort.shiftDown]
    split
    · rfl
    · rw [sd_size j, swp_size]
theorem su_size (b j : Nat) (d : DA) : (Sort.shiftUp (ltc c) b j d).size = d.size := by
  fun_induction Sort.shiftUp (ltc c) b j d <;> simp_all [Sort.swp]
theorem pi_zero : Sort.partialIns (ltc c) a b 0 i d = (d, false) := rfl
theorem pi_yes (hi : Sort.scanSorted (ltc c) d b i = b) : Sort.partialIns (ltc c) a b (s + 1) i d = (d, true) := by
  rw [Sort.partialIns]; simp only [hi, if_true]
theorem pi_few (hi : Sort.scanSorted (ltc c) d b i = j) (hj : j ≠ b) (h : b - a < 50) : Sort.partialIns (ltc c) a b (s + 1) i d = (d, false) := by
  rw [Sort.partialIns]; simp only [hi]; rw [if_neg hj, if_pos h]
theorem pi_on (hi : Sort.scanSorted (ltc c) d b i = j) (hj : j ≠ b) (h : ¬ b - a < 50) : Sort.partialIns (ltc c) a b (s + 1) i d =
    Sort.partialIns (ltc c) a b s j (if b - j ≥ 2 then Sort.shiftUp (ltc c) b (j + 1) (if j - a ≥ 2 then Sort.shiftDown (ltc c) (j - 1) (Sort.swp d j (j - 1)) else Sort.swp d j (j - 1)) else (if j - a ≥ 2 then Sort.shiftDown (ltc c) (j - 1) (Sort.swp d j (j - 1)) else Sort.swp d j (j - 1))) := by
  rw [Sort.partialIns]; simp only [hi]; rw [if_neg hj, if_neg h]
theorem sw1 (h0 : 0 < i) (h : i < d.size) : (d.toList.set (i : Int).toNat (at' d.toList ((i : Int) - 1))).set ((i : Int) - 1).toNat (at' d.toList (i : Int)) = (Sort.swp d i (i - 1)).toList := by
  rw [show (i : Int) - 1 = ((i - 1 : Nat) : Int) from by omega]
  exact sw h (by omega)
end
end Go.So
