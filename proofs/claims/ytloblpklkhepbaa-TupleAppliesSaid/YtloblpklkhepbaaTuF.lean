/- From one set to another by their difference, and by two differences at once. Plain Lean. -/
import Derived.Test.YtloblpklkhepbaaTuE
namespace Go.Tu
open Go Go.Gw Go.So
set_option linter.unusedVariables false
set_option linter.unusedSimpArgs false
theorem diff_sets {x y : List Tp} (hx : Rises x) (hy : Rises y) : diffR x y = ((withoutL y x, withoutL x y), 0) := by
  rw [diffR, if_pos (by rw [rises_iff.2 hx, rises_iff.2 hy]; rfl)]
theorem meet_no {a b : List Tp} (h : ∀ z, z ∈ a → z ∉ b) : meetB a b = false := by
  rw [Bool.eq_false_iff]
  intro h1
  have h2 := (inter_meet b a).2 h1
  have h3 : 0 < (interL b a).length := by omega
  obtain ⟨z, hz⟩ := List.length_pos_iff_exists_mem.1 h3
  unfold interL at hz
  simp only [List.mem_filter, List.contains_iff_mem] at hz
  exact h z hz.2 hz.1
theorem without_none {a b : List Tp} (h : ∀ z, z ∈ a → z ∈ b) : withoutL a b = [] := by
  unfold withoutL
  rw [List.filter_eq_nil_iff]
  intro z hz
  simp [h z hz]
theorem both_eq {a b s : List Tp} (hs : Rises s) (h : ∀ z, z ∈ s ↔ z ∈ a ∨ z ∈ b) : bothR a b = s := (setR_unique hs fun z => by rw [h z, List.mem_append]).symm
theorem apply_diff {x y : List Tp} (hx : Rises x) (hy : Rises y) : applyR x (withoutL y x, withoutL x y) = (y, 0) := by
  have h1 : ¬ (!risesB x || !risesB (withoutL y x) || !risesB (withoutL x y)) = true := by
    rw [rises_iff.2 hx, rises_iff.2 (without_rises hy), rises_iff.2 (without_rises hx)]; simp
  have h2 : meetB (withoutL y x) x = false := meet_no fun z hz => (mem_without.1 hz).2
  have h3 : withoutL (withoutL x y) x = [] := without_none fun z hz => (mem_without.1 hz).1
  rw [applyR, if_neg h1, if_neg (by rw [h2]; simp), if_neg (by rw [h3]; simp)]
  rw [both_eq hy fun z => ?_]
  simp only [mem_without]
  by_cases c1 : z ∈ x <;> by_cases c2 : z ∈ y <;> simp [c1, c2]
theorem then_diffs {x y z : List Tp} (hx : Rises x) (hy : Rises y) (hz : Rises z) : thenR (withoutL y x, withoutL x y) (withoutL z y, withoutL y z) = ((withoutL z x, withoutL x z), 0) := by
  have h1 : ¬ (!risesB (withoutL y x) || !risesB (withoutL x y) || !risesB (withoutL z y) || !risesB (withoutL y z)) = true := by
    rw [rises_iff.2 (without_rises hy), rises_iff.2 (without_rises hx), rises_iff.2 (without_rises hz), rises_iff.2 (without_rises hy)]; simp
  have h2 : ¬ (meetB (withoutL y x) (withoutL z y) || meetB (withoutL x y) (withoutL y z) || meetB (withoutL y x) (withoutL x y) || meetB (withoutL z y) (withoutL y z)) = true := by
    rw [meet_no (fun u hu hv => (mem_without.1 hv).2 (mem_without.1 hu).1), meet_no (fun u hu hv => (mem_without.1 hu).2 (mem_without.1 hv).1), meet_no (fun u hu hv => (mem_without.1 hv).2 (mem_without.1 hu).1), meet_no (fun u hu hv => (mem_without.1 hu).2 (mem_without.1 hv).1)]; simp
  rw [thenR, if_neg h1, if_neg h2]
  have e1 : bothR (withoutL (withoutL y x) (withoutL y z)) (withoutL (withoutL z y) (withoutL x y)) = withoutL z x := by
    refine both_eq (without_rises hz) fun u => ?_
    simp only [mem_without]
    by_cases c1 : u ∈ x <;> by_cases c2 : u ∈ y <;> by_cases c3 : u ∈ z <;> simp [c1, c2, c3]
  have e2 : bothR (withoutL (withoutL x y) (withoutL z y)) (withoutL (withoutL y z) (withoutL y x)) = withoutL x z := by
    refine both_eq (without_rises hx) fun u => ?_
    simp only [mem_without]
    by_cases c1 : u ∈ x <;> by_cases c2 : u ∈ y <;> by_cases c3 : u ∈ z <;> simp [c1, c2, c3]
  rw [e1, e2]
abbrev psL (x y : Dl) : List Dl := [(x.1, y.1), (x.2, y.2), (x.1, x.2), (y.1, y.2)]
theorem ps_any (x y : Dl) : (psL x y).any (fun p => meetB p.1 p.2) = (meetB x.1 y.1 || meetB x.2 y.2 || meetB x.1 x.2 || meetB y.1 y.2) := by
  simp [psL, List.any, Bool.or_assoc]
theorem ps_all {x y : Dl} {q : Dl → Prop} (h1 : q (x.1, y.1)) (h2 : q (x.2, y.2)) (h3 : q (x.1, x.2)) (h4 : q (y.1, y.2)) {k : Nat} (hk : k < 4) : q (at' (psL x y) (k : Int)) := by
  match k, hk with
  | 0, _ => exact h1
  | 1, _ => exact h2
  | 2, _ => exact h3
  | 3, _ => exact h4
theorem few_of {ls : List (List Tp)} {l : List Tp} (h : fewB ls = true) (hl : l ∈ ls) : l.length ≤ 40 ∧ ∀ x ∈ l, x.length ≤ 40 := by
  unfold fewB at h
  have h1 := List.all_eq_true.1 h l hl
  simp only [Bool.and_eq_true, decide_eq_true_eq, List.all_eq_true] at h1
  exact h1
theorem few_Few {ls : List (List Tp)} {l : List Tp} (h : fewB ls = true) (hl : l ∈ ls) : Few l := by
  obtain ⟨h1, h2⟩ := few_of h hl
  exact ⟨by omega, fun x hx => by have := h2 x hx; omega⟩
theorem diff_ex : diffR [[1], [2]] [[2], [3]] = (([[3]], [[1]]), 0) := by decide +kernel
theorem then_ex : thenR ([[3]], []) ([[4]], [[3]]) = (([[4]], []), 0) := by decide +kernel
theorem Few.set {l : List Tp} (h : Few l) : Few (setR l) := ⟨Nat.le_trans (setR_len l) h.1, fun x hx => h.2 x (((setR_spec l).2 x).1 hx)⟩
end Go.Tu
namespace Go.Tu
open Go Go.Gw Go.So
theorem both_small {a b : List Tp} (h1 : Few a) (h2 : Few b) : Small (bothR a b) := (h1.both h2).setR
theorem then_small {x y : Dl} (h1 : Few x.1) (h2 : Few x.2) (h3 : Few y.1) (h4 : Few y.2) : Small (thenR x y).1.1 ∧ Small (thenR x y).1.2 := by
  unfold thenR
  split
  · exact ⟨⟨by simp, by simp⟩, ⟨by simp, by simp⟩⟩
  · split
    · exact ⟨⟨by simp, by simp⟩, ⟨by simp, by simp⟩⟩
    · exact ⟨both_small (h1.without _) (h3.without _), both_small (h2.without _) (h4.without _)⟩
end Go.Tu
