/- A sorted list without its repeats is the set; what a contract needs of its arguments may be drawn from their types. -/
import Derived.Test.YtloblpklkhepbaaTuC
namespace Go.Tu
open Go Go.Gw Go.So
set_option linter.unusedVariables false
set_option linter.unusedSimpArgs false
theorem cmp_lt_le {a b c : Tp} (h1 : cmpL a b < 0) (h2 : cmpL b c ≤ 0) : cmpL a c < 0 := by
  obtain ⟨h3, h4⟩ := cmp_trans (a := a) (b := b) (c := c) (by omega) h2
  rcases Int.lt_or_eq_of_le h3 with h | h
  · exact h
  · have := (h4 h).1; omega
def dd : List Tp → List Tp
  | [] => []
  | [x] => [x]
  | x :: y :: l => if x = y then dd (y :: l) else x :: dd (y :: l)
theorem dd_mem : ∀ {l : List Tp} {z : Tp}, z ∈ dd l ↔ z ∈ l
  | [], z => by simp [dd]
  | [x], z => by simp [dd]
  | x :: y :: l, z => by
    rw [dd]
    split
    · rename_i h; subst h; rw [dd_mem]; simp
    · rw [List.mem_cons, dd_mem, List.mem_cons (b := x)]
theorem dd_rises : ∀ {l : List Tp}, l.Pairwise (fun x y => cmpL x y ≤ 0) → Rises (dd l)
  | [], _ => List.Pairwise.nil
  | [x], _ => List.pairwise_singleton _ _
  | x :: y :: l, h => by
    have h1 := List.pairwise_cons.1 h
    rw [dd]
    split
    · exact dd_rises h1.2
    · rename_i hne
      refine List.pairwise_cons.2 ⟨fun z hz => ?_, dd_rises h1.2⟩
      have hxy : cmpL x y < 0 := by
        have h2 := h1.1 y List.mem_cons_self
        rcases Int.lt_or_eq_of_le h2 with h3 | h3
        · exact h3
        · exact absurd (cmp_eq.1 h3) hne
      rcases List.mem_cons.1 (dd_mem.1 hz) with e | hz
      · subst e; exact hxy
      · exact cmp_lt_le hxy ((List.pairwise_cons.1 h1.2).1 z hz)
theorem dd_set {l rs : List Tp} (hp : rs.Perm l) (hs : rs.Pairwise fun x y => cmpL x y ≤ 0) : dd rs = setR l := setR_unique (dd_rises hs) fun x => dd_mem.trans hp.mem_iff
theorem dd_snoc : ∀ (l : List Tp) (x y : Tp), dd (l ++ [x, y]) = if x = y then dd (l ++ [x]) else dd (l ++ [x]) ++ [y]
  | [], x, y => by
    simp only [List.nil_append, dd]
    split <;> simp_all
  | [z], x, y => by
    simp only [List.cons_append, List.nil_append, dd]
    split <;> split <;> simp_all
  | z :: u :: l, x, y => by
    have ih := dd_snoc (u :: l) x y
    simp only [List.cons_append] at ih ⊢
    rw [dd, dd, ih]
    split
    · split <;> simp_all
    · split <;> simp_all
theorem dd_step {xs : List Tp} {m : Nat} (h1 : 0 < m) (h : m < xs.length) : dd (xs.take (m + 1)) = if at' xs ((m : Int) - 1) = at' xs (m : Int) then dd (xs.take m) else dd (xs.take m) ++ [at' xs (m : Int)] := by
  obtain ⟨k, rfl⟩ : ∃ k, m = k + 1 := ⟨m - 1, by omega⟩
  rw [show (((k + 1 : Nat) : Int) - 1) = (k : Int) from by omega, at'_nat h, at'_nat (by omega : k < xs.length), List.take_succ_eq_append_getElem h, List.take_succ_eq_append_getElem (by omega : k < xs.length), List.append_assoc]
  exact dd_snoc _ _ _
theorem dd_one {xs : List Tp} (h : xs.length < 2) : dd xs = xs := by
  match xs, h with
  | [], _ => rfl
  | [_], _ => rfl
  | _ :: _ :: _, h => simp at h; omega
theorem dd_len : ∀ (l : List Tp), (dd l).length ≤ l.length
  | [] => Nat.le_refl _
  | [_] => Nat.le_refl _
  | x :: y :: l => by
    rw [dd]
    have := dd_len (y :: l)
    split
    · rw [List.length_cons (a := x)]; omega
    · simp only [List.length_cons] at this ⊢; omega
/-- What the sort gives, as lists. -/
theorem perm_list {ts : List Tp} {r : DA} (h : Sort.PermIn 0 ts.length ts.toArray r) : r.toList.Perm ts := by
  have h1 : r.size = ts.length := by simpa using h.1
  have h2 := h.2.2
  have e1 : r.extract 0 ts.length = r := by rw [← h1]; exact Array.extract_size
  have e2 : ts.toArray.extract 0 ts.length = ts.toArray := by simp
  rw [e1, e2] at h2
  simpa using h2
theorem sorted_list {ts : List Tp} {r : DA} (h : Sort.PermIn 0 ts.length ts.toArray r) (hs : Sort.SortedIn (ltc cmpL) 0 ts.length r) : r.toList.Pairwise fun x y => cmpL x y ≤ 0 := by
  have h1 : r.size = ts.length := by simpa using h.1
  rw [List.pairwise_iff_getElem]
  intro i j hi hj hij
  have hi' : i < r.size := by simpa using hi
  have hj' : j < r.size := by simpa using hj
  have := hs i j (Nat.zero_le _) hij (by omega)
  simp only [ltc, decide_eq_false_iff_not] at this
  have e1 : r[i]! = r[i] := by simp [hi']
  have e2 : r[j]! = r[j] := by simp [hj']
  rw [e1, e2] at this
  have hn := cmp_neg r[i] r[j]
  simp only [Array.getElem_toList]
  omega
end Go.Tu
namespace Go.Tu
open Go Go.Gw
section
variable {α : Type}
theorem drop_at' [Inhabited α] {l m : List α} {k i : Nat} (h : l.drop k = m.drop k) (hk : k ≤ i) (hl : i < l.length) (hm : i < m.length) : at' l (i : Int) = at' m (i : Int) := by
  rw [at'_nat hl, at'_nat hm]
  have h1 : (l.drop k)[i - k]? = (m.drop k)[i - k]? := by rw [h]
  rw [List.getElem?_drop, List.getElem?_drop, show k + (i - k) = i from by omega, List.getElem?_eq_getElem hl, List.getElem?_eq_getElem hm] at h1
  exact Option.some.inj h1
theorem drop_more {l m : List α} {k i : Nat} (h : l.drop k = m.drop k) (hk : k ≤ i) : l.drop i = m.drop i := by
  have : i = k + (i - k) := by omega
  rw [this, ← List.drop_drop, ← List.drop_drop, h]
theorem set_take {l : List α} {j : Nat} {y : α} (h : j < l.length) : (l.set j y).take (j + 1) = l.take j ++ [y] := by
  rw [List.take_succ_eq_append_getElem (by rw [List.length_set]; exact h), List.getElem_set_self, List.take_set, List.set_eq_of_length_le (by rw [List.length_take]; omega)]
theorem cut_take {l z : List α} {j : Nat} (h : j ≤ l.length) : (l.take j ++ z).take j = l.take j := by
  rw [List.take_append_of_le_length (by rw [List.length_take]; omega), List.take_take, Nat.min_self]
end
end Go.Tu
