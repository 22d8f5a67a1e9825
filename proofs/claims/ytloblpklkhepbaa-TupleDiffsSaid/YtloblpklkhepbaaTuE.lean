/- Two sets are walked side by side: what is in one, in both, in the other. Plain Lean. -/
import Derived.Test.YtloblpklkhepbaaTuD
namespace Go.Tu
open Go Go.Gw Go.So
set_option linter.unusedVariables false
set_option linter.unusedSimpArgs false
def walkL : List Tp → List Tp → List Tp × List Tp × List Tp
  | [], b => ([], [], b)
  | a, [] => (a, [], [])
  | x :: a, y :: b =>
    if cmpL x y < 0 then (x :: (walkL a (y :: b)).1, (walkL a (y :: b)).2)
    else if 0 < cmpL x y then ((walkL (x :: a) b).1, (walkL (x :: a) b).2.1, y :: (walkL (x :: a) b).2.2)
    else ((walkL a b).1, x :: (walkL a b).2.1, (walkL a b).2.2)
termination_by a b => a.length + b.length
def cW : List Tp → List Tp → Int
  | [], _ => 1
  | _ :: _, [] => -1
  | x :: _, y :: _ => cmpL x y
theorem walk_nil (a : List Tp) : walkL a [] = (a, [], []) := by cases a <;> simp [walkL]
theorem at_zero {x : Tp} {a : List Tp} : at' (x :: a) 0 = x := rfl
theorem cW1 {a b : List Tp} (h : a.length = 0) : cW a b = 1 := by
  have := List.eq_nil_of_length_eq_zero h; subst this; rfl
theorem cW2 {a b : List Tp} (h : ¬ a.length = 0) (h2 : b.length = 0) : cW a b = -1 := by
  have := List.eq_nil_of_length_eq_zero h2; subst this
  cases a with
  | nil => simp at h
  | cons => rfl
theorem cW3 {a b : List Tp} (h : ¬ a.length = 0) (h2 : ¬ b.length = 0) : cW a b = cmpL (at' a 0) (at' b 0) := by
  cases a with
  | nil => simp at h
  | cons => cases b with
    | nil => simp at h2
    | cons => rfl
theorem walk_lt {a b : List Tp} (h : cW a b < 0) : 0 < a.length ∧ walkL a b = (at' a 0 :: (walkL (a.drop 1) b).1, (walkL (a.drop 1) b).2) := by
  match a, b with
  | [], _ => simp [cW] at h
  | x :: a, [] => exact ⟨by simp, by rw [walk_nil, show (x :: a).drop 1 = a from rfl, walk_nil]; rfl⟩
  | x :: a, y :: b =>
    have h1 : cmpL x y < 0 := h
    exact ⟨by simp, by rw [walkL, if_pos h1]; rfl⟩
theorem walk_gt {a b : List Tp} (h : 0 < cW a b) (h0 : 0 < a.length ∨ 0 < b.length) : 0 < b.length ∧ walkL a b = ((walkL a (b.drop 1)).1, (walkL a (b.drop 1)).2.1, at' b 0 :: (walkL a (b.drop 1)).2.2) := by
  match a, b with
  | [], [] => simp at h0
  | [], y :: b => exact ⟨by simp, by rw [walkL, walkL]; rfl⟩
  | x :: a, [] => simp [cW] at h
  | x :: a, y :: b =>
    have h1 : 0 < cmpL x y := h
    exact ⟨by simp, by rw [walkL, if_neg (by omega), if_pos h1]; rfl⟩
theorem walk_eq {a b : List Tp} (h : cW a b = 0) : 0 < a.length ∧ 0 < b.length ∧ walkL a b = ((walkL (a.drop 1) (b.drop 1)).1, at' a 0 :: (walkL (a.drop 1) (b.drop 1)).2.1, (walkL (a.drop 1) (b.drop 1)).2.2) := by
  match a, b with
  | [], _ => simp [cW] at h
  | x :: a, [] => simp [cW] at h
  | x :: a, y :: b =>
    have h1 : cmpL x y = 0 := h
    exact ⟨by simp, by simp, by rw [walkL, if_neg (by omega), if_neg (by omega)]; rfl⟩
theorem walk_end {a b : List Tp} (h1 : a.length = 0) (h2 : b.length = 0) : walkL a b = ([], [], []) := by
  have := List.eq_nil_of_length_eq_zero h1; subst this
  have := List.eq_nil_of_length_eq_zero h2; subst this
  simp [walkL]
def interL (a b : List Tp) : List Tp := a.filter fun x => b.contains x
theorem not_mem_lt {x : Tp} {l : List Tp} (h : ∀ z ∈ l, cmpL x z < 0) : x ∉ l := fun hx => by have := h x hx; rw [cmp_self] at this; omega
theorem without_nil (a : List Tp) : withoutL a [] = a := by unfold withoutL; simp
theorem nil_without (a : List Tp) : withoutL [] a = [] := rfl
theorem inter_nil (a : List Tp) : interL a [] = [] := by unfold interL; simp
theorem walk_sets : ∀ {a b : List Tp}, Rises a → Rises b → walkL a b = (withoutL a b, interL a b, withoutL b a)
  | [], b, _, _ => by rw [walkL, nil_without, without_nil]; rfl
  | x :: a, [], _, _ => by rw [walk_nil, without_nil, inter_nil, nil_without]
  | x :: a, y :: b, ha, hb => by
    have ha1 := List.pairwise_cons.1 ha
    have hb1 := List.pairwise_cons.1 hb
    have hn := cmp_neg x y
    by_cases h1 : cmpL x y < 0
    · have hx : x ∉ y :: b := fun hm => by
        rcases List.mem_cons.1 hm with e | hm
        · subst e; rw [cmp_self] at h1; omega
        · exact not_mem_lt (fun z hz => cmp_lt h1 (hb1.1 z hz)) hm
      rw [walkL, if_pos h1, walk_sets ha1.2 hb]
      have e1 : withoutL (x :: a) (y :: b) = x :: withoutL a (y :: b) := by unfold withoutL; rw [List.filter_cons_of_pos (by simpa using hx)]
      have e2 : interL (x :: a) (y :: b) = interL a (y :: b) := by unfold interL; rw [List.filter_cons_of_neg (by simpa using hx)]
      have e3 : withoutL (y :: b) (x :: a) = withoutL (y :: b) a := by
        unfold withoutL
        refine List.filter_congr fun z hz => ?_
        have : z ≠ x := fun e => hx (e ▸ hz)
        simp [this]
      rw [e1, e2, e3]
    · by_cases h2 : 0 < cmpL x y
      · have hy : y ∉ x :: a := fun hm => by
          rcases List.mem_cons.1 hm with e | hm
          · subst e; rw [cmp_self] at h2; omega
          · exact not_mem_lt (x := y) (fun z hz => cmp_lt (by omega) (ha1.1 z hz)) hm
        rw [walkL, if_neg h1, if_pos h2, walk_sets ha hb1.2]
        have e1 : withoutL (y :: b) (x :: a) = y :: withoutL b (x :: a) := by unfold withoutL; rw [List.filter_cons_of_pos (by simpa using hy)]
        have e2 : withoutL (x :: a) (y :: b) = withoutL (x :: a) b := by
          unfold withoutL
          refine List.filter_congr fun z hz => ?_
          have : z ≠ y := fun e => hy (e ▸ hz)
          simp [this]
        have e3 : interL (x :: a) (y :: b) = interL (x :: a) b := by
          unfold interL
          refine List.filter_congr fun z hz => ?_
          have : z ≠ y := fun e => hy (e ▸ hz)
          simp [this]
        rw [e1, e2, e3]
      · have e : x = y := cmp_eq.1 (by omega)
        subst e
        have hxa : x ∉ a := not_mem_lt ha1.1
        have hxb : x ∉ b := not_mem_lt hb1.1
        rw [walkL, if_neg h1, if_neg h2, walk_sets ha1.2 hb1.2]
        have f1 : ∀ {c d : List Tp}, x ∉ c → withoutL (x :: c) (x :: d) = withoutL c d := fun {c d} hc => by
          unfold withoutL
          rw [List.filter_cons_of_neg (by simp)]
          refine List.filter_congr fun z hz => ?_
          have : z ≠ x := fun e => hc (e ▸ hz)
          simp [this]
        have f2 : interL (x :: a) (x :: b) = x :: interL a b := by
          unfold interL
          rw [List.filter_cons_of_pos (by simp)]
          congr 1
          refine List.filter_congr fun z hz => ?_
          have : z ≠ x := fun e => hxa (e ▸ hz)
          simp [this]
        rw [f1 hxa, f1 hxb, f2]
termination_by a b => a.length + b.length
theorem inter_len (a b : List Tp) : (interL a b).length + (withoutL a b).length = a.length := by
  unfold interL withoutL
  induction a with
  | nil => rfl
  | cons x a ih =>
    by_cases h : x ∈ b
    · rw [List.filter_cons_of_pos (by simpa using h), List.filter_cons_of_neg (by simpa using h)]; simp only [List.length_cons]; omega
    · rw [List.filter_cons_of_neg (by simpa using h), List.filter_cons_of_pos (by simpa using h)]; simp only [List.length_cons]; omega
theorem take_flat {α : Type} [Inhabited α] {ls : List (List α)} {k : Nat} (h : k < ls.length) : (ls.take (k + 1)).flatten = (ls.take k).flatten ++ at' ls (k : Int) := by
  rw [at'_nat h, List.take_succ_eq_append_getElem h, List.flatten_append]; simp
theorem flat_le {α : Type} (ls : List (List α)) (k : Nat) : (ls.take k).flatten.length ≤ ls.flatten.length := by
  have : ls.flatten = (ls.take k).flatten ++ (ls.drop k).flatten := by rw [← List.flatten_append, List.take_append_drop]
  rw [this, List.length_append]; omega
end Go.Tu
namespace Go.Tu
open Go Go.Gw Go.So
theorem inter_meet (a b : List Tp) : (0 < ((interL a b).length : Int)) ↔ meetB b a = true := by
  have h1 := inter_len b a
  unfold meetB
  rw [decide_eq_true_eq]
  have e1 : 0 < (interL a b).length ↔ 0 < (interL b a).length := by
    rw [List.length_pos_iff_exists_mem, List.length_pos_iff_exists_mem]
    unfold interL
    simp only [List.mem_filter, List.contains_iff_mem]
    exact ⟨fun ⟨x, h1, h2⟩ => ⟨x, h2, h1⟩, fun ⟨x, h1, h2⟩ => ⟨x, h2, h1⟩⟩
  omega
theorem meet_comm (a b : List Tp) : meetB a b = meetB b a := by
  have h1 := inter_len a b; have h2 := inter_len b a
  have h3 := inter_meet a b; have h4 := inter_meet b a
  cases e1 : meetB a b <;> cases e2 : meetB b a
  · rfl
  · have h5 := h3.2 e2; have h6 : 0 < ((interL b a).length : Int) ↔ False := by rw [h4, e1]; simp
    unfold meetB at e1 e2
    simp only [decide_eq_true_eq, decide_eq_false_iff_not] at e1 e2
    omega
  · have h5 := h4.2 e1; have h6 : 0 < ((interL a b).length : Int) ↔ False := by rw [h3, e2]; simp
    unfold meetB at e1 e2
    simp only [decide_eq_true_eq, decide_eq_false_iff_not] at e1 e2
    omega
  · rfl
end Go.Tu
