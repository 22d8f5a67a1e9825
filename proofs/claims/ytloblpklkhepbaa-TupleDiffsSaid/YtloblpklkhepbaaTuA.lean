/- Tuples: their order, lists that rise, sets, what is in one list and not in another. Plain Lean. -/
import Derived.Test.YtloblpklkhepbaaSoA
import Derived.Test.YtloblpklkhepbaaG19
namespace Go.Tu
open Go Go.Gw Go.So
set_option linter.unusedVariables false
set_option linter.unusedSimpArgs false
abbrev Tp := List Int
def cmpI (x y : Int) : Int := if x < y then -1 else if y < x then 1 else 0
def cmpL : Tp → Tp → Int
  | [], [] => 0
  | [], _ :: _ => -1
  | _ :: _, [] => 1
  | x :: a, y :: b => if x < y then -1 else if y < x then 1 else cmpL a b
theorem cmp_vals : ∀ a b : Tp, cmpL a b = -1 ∨ cmpL a b = 0 ∨ cmpL a b = 1
  | [], [] => .inr (.inl rfl)
  | [], _ :: _ => .inl rfl
  | _ :: _, [] => .inr (.inr rfl)
  | x :: a, y :: b => by
    unfold cmpL
    split
    · exact .inl rfl
    · split
      · exact .inr (.inr rfl)
      · exact cmp_vals a b
theorem cmp_eq : ∀ {a b : Tp}, cmpL a b = 0 ↔ a = b
  | [], [] => by simp [cmpL]
  | [], _ :: _ => by simp [cmpL]
  | _ :: _, [] => by simp [cmpL]
  | x :: a, y :: b => by
    unfold cmpL
    split
    · constructor
      · intro h; omega
      · intro h; injection h; omega
    · split
      · constructor
        · intro h; omega
        · intro h; injection h; omega
      · rw [cmp_eq, List.cons.injEq]
        constructor
        · intro h; exact ⟨by omega, h⟩
        · intro h; exact h.2
theorem cmp_self (a : Tp) : cmpL a a = 0 := cmp_eq.2 rfl
theorem cmp_neg : ∀ a b : Tp, cmpL b a = -cmpL a b
  | [], [] => rfl
  | [], _ :: _ => rfl
  | _ :: _, [] => rfl
  | x :: a, y :: b => by
    unfold cmpL
    by_cases h1 : x < y
    · rw [if_pos h1, if_neg (by omega), if_pos h1]; rfl
    · by_cases h2 : y < x
      · rw [if_pos h2, if_neg h1, if_pos h2]
      · rw [if_neg h2, if_neg h1, if_neg h1, if_neg h2]; exact cmp_neg a b
theorem cmp_trans : ∀ {a b c : Tp}, cmpL a b ≤ 0 → cmpL b c ≤ 0 → cmpL a c ≤ 0 ∧ (cmpL a c = 0 → cmpL a b = 0 ∧ cmpL b c = 0)
  | [], [], c, _, h => ⟨h, fun h2 => ⟨rfl, h2⟩⟩
  | [], _ :: _, [], _, h => by simp [cmpL] at h
  | [], _ :: _, _ :: _, _, _ => by simp [cmpL]
  | _ :: _, [], _, h, _ => by simp [cmpL] at h
  | _ :: _, _ :: _, [], _, h => by simp [cmpL] at h
  | x :: a, y :: b, z :: c, h1, h2 => by
    have ih := @cmp_trans a b c
    unfold cmpL at h1 h2 ⊢
    by_cases c1 : x < y
    · by_cases c2 : y < z
      · simp [c1, c2, show x < z from by omega]
      · by_cases c3 : z < y
        · simp [c2, c3] at h2
        · have : y = z := by omega
          subst this; simp [c1]
    · by_cases c4 : y < x
      · simp [c1, c4] at h1
      · have : x = y := by omega
        subst this
        by_cases c2 : x < z
        · simp [c2]
        · by_cases c3 : z < x
          · simp [c2, c3] at h2
          · have : x = z := by omega
            subst this
            simp only [Int.lt_irrefl, if_false] at h1 h2 ⊢
            exact ih h1 h2
theorem cmp_lt {a b c : Tp} (h1 : cmpL a b < 0) (h2 : cmpL b c < 0) : cmpL a c < 0 := by
  obtain ⟨h3, h4⟩ := cmp_trans (a := a) (b := b) (c := c) (by omega) (by omega)
  rcases Int.lt_or_eq_of_le h3 with h | h
  · exact h
  · have := (h4 h).1; omega
theorem swo : Sort.SWO (ltc cmpL) where
  irrefl := fun x => by simp [ltc, cmp_self]
  trans := fun x y z h1 h2 => by simp only [ltc, decide_eq_true_eq] at h1 h2 ⊢; exact cmp_lt h1 h2
  ntrans := fun x y z h1 h2 => by
    simp only [ltc, decide_eq_false_iff_not] at h1 h2 ⊢
    have n1 := cmp_neg x y; have n2 := cmp_neg y z; have n3 := cmp_neg x z
    have := (cmp_trans (a := z) (b := y) (c := x) (by omega) (by omega)).1
    omega
/-! ### steps of the walks -/
theorem drop_at {α : Type} [Inhabited α] {l : List α} {k : Nat} (h : k < l.length) : l.drop k = at' l (k : Int) :: l.drop (k + 1) := by
  rw [at'_nat h]; exact List.drop_eq_getElem_cons h
theorem cmp_step {a b : Tp} {i : Nat} (h1 : i < a.length) (h2 : i < b.length) : cmpL (a.drop i) (b.drop i) = if at' a (i : Int) < at' b (i : Int) then -1 else if at' b (i : Int) < at' a (i : Int) then 1 else cmpL (a.drop (i + 1)) (b.drop (i + 1)) := by
  rw [drop_at h1, drop_at h2, cmpL]
theorem cmp_end1 {a b : Tp} {i : Nat} (h1 : i < a.length) (h2 : b.length ≤ i) : cmpL (a.drop i) (b.drop i) = 1 := by
  rw [drop_at h1, List.drop_of_length_le h2]; rfl
theorem cmp_end2 {a b : Tp} {i : Nat} (h1 : a.length ≤ i) (h2 : i < b.length) : cmpL (a.drop i) (b.drop i) = -1 := by
  rw [drop_at h2, List.drop_of_length_le h1]; rfl
theorem cmp_end0 {a b : Tp} {i : Nat} (h1 : a.length ≤ i) (h2 : b.length ≤ i) : cmpL (a.drop i) (b.drop i) = 0 := by
  rw [List.drop_of_length_le h1, List.drop_of_length_le h2]; rfl
/-! ### lists that rise -/
def risesB : List Tp → Bool
  | [] => true
  | [_] => true
  | x :: y :: l => decide (cmpL x y < 0) && risesB (y :: l)
def Rises (l : List Tp) : Prop := l.Pairwise fun x y => cmpL x y < 0
theorem rises_iff : ∀ {l : List Tp}, risesB l = true ↔ Rises l
  | [] => by simp [risesB, Rises]
  | [x] => by simp [risesB, Rises]
  | x :: y :: l => by
    rw [risesB, Bool.and_eq_true, decide_eq_true_eq, rises_iff]
    unfold Rises
    rw [List.pairwise_cons (a := x)]
    constructor
    · rintro ⟨h1, h2⟩
      refine ⟨fun z hz => ?_, h2⟩
      rcases List.mem_cons.1 hz with rfl | hz
      · exact h1
      · exact cmp_lt h1 ((List.pairwise_cons.1 h2).1 z hz)
    · rintro ⟨h1, h2⟩
      exact ⟨h1 y List.mem_cons_self, h2⟩
theorem rises_step {l : List Tp} {i : Nat} (h : i + 1 < l.length) : risesB (l.drop i) = (decide (cmpL (at' l (i : Int)) (at' l ((i + 1 : Nat) : Int)) < 0) && risesB (l.drop (i + 1))) := by
  rw [drop_at (by omega : i < l.length), drop_at h, risesB]
theorem rises_end {l : List Tp} {i : Nat} (h : l.length ≤ i + 1) : risesB (l.drop i) = true := by
  match hl : l.drop i with
  | [] => rfl
  | [_] => rfl
  | x :: y :: r =>
    have : (l.drop i).length ≤ 1 := by rw [List.length_drop]; omega
    rw [hl] at this; simp at this
theorem has_step {l : List Tp} {t : Tp} {k : Nat} (h : k < l.length) : (l.drop k).contains t = (decide (cmpL (at' l (k : Int)) t = 0) || (l.drop (k + 1)).contains t) := by
  rw [drop_at h, List.contains_cons]
  congr 1
  by_cases h2 : t = at' l (k : Int)
  · subst h2; simp [cmp_self]
  · have h3 : ¬ cmpL (at' l (k : Int)) t = 0 := fun e => h2 (cmp_eq.1 e).symm
    simp [h2, h3]
/-- Of two lists that rise, with the same members: they are one. -/
theorem rises_unique : ∀ {l m : List Tp}, Rises l → Rises m → (∀ x, x ∈ l ↔ x ∈ m) → l = m
  | [], [], _, _, _ => rfl
  | [], y :: m, _, _, h => absurd ((h y).2 List.mem_cons_self) (by simp)
  | x :: l, [], _, _, h => absurd ((h x).1 List.mem_cons_self) (by simp)
  | x :: l, y :: m, hl, hm, h => by
    have hl1 := List.pairwise_cons.1 hl
    have hm1 := List.pairwise_cons.1 hm
    have hxy : x = y := by
      rcases List.mem_cons.1 ((h x).1 List.mem_cons_self) with e | hx
      · exact e
      · rcases List.mem_cons.1 ((h y).2 List.mem_cons_self) with e | hy
        · exact e.symm
        · have h1 := hl1.1 y hy
          have h2 := hm1.1 x hx
          have := cmp_neg x y; omega
    subst hxy
    congr 1
    refine rises_unique hl1.2 hm1.2 fun z => ?_
    have hn : ∀ {l : List Tp}, (∀ z ∈ l, cmpL x z < 0) → x ∉ l := fun h3 hx => by have := h3 x hx; rw [cmp_self] at this; omega
    have hz := h z
    constructor
    · intro hzl
      rcases List.mem_cons.1 (hz.1 (List.mem_cons_of_mem _ hzl)) with e | h3
      · subst e; exact absurd hzl (hn hl1.1)
      · exact h3
    · intro hzm
      rcases List.mem_cons.1 (hz.2 (List.mem_cons_of_mem _ hzm)) with e | h3
      · subst e; exact absurd hzm (hn hm1.1)
      · exact h3
def withoutL (a b : List Tp) : List Tp := a.filter fun x => !b.contains x
theorem without_snoc {a b : List Tp} {k : Nat} (h : k < a.length) : withoutL (a.take (k + 1)) b = withoutL (a.take k) b ++ if b.contains (at' a (k : Int)) then [] else [at' a (k : Int)] := by
  rw [at'_nat h, List.take_succ_eq_append_getElem h]
  unfold withoutL
  rw [List.filter_append]
  congr 1
  by_cases h2 : a[k] ∈ b
  · simp [h2, List.filter_cons]
  · simp [h2, List.filter_cons]
theorem without_len (a b : List Tp) : (withoutL a b).length ≤ a.length := List.length_filter_le _ _
theorem without_rises {a b : List Tp} (h : Rises a) : Rises (withoutL a b) := h.sublist (List.filter_sublist)
theorem mem_without {a b : List Tp} {x : Tp} : x ∈ withoutL a b ↔ x ∈ a ∧ x ∉ b := by
  unfold withoutL; simp [List.mem_filter]
/-! ### the reference's sets -/
def insStep (t : Tp) (s : List Tp × Bool) (x : Tp) : List Tp × Bool := if !s.2 && decide (cmpL t x < 0) then (s.1 ++ [t] ++ [x], true) else (s.1 ++ [x], s.2)
def insFold (t : Tp) (l : List Tp) : List Tp × Bool := l.foldl (insStep t) ([], false)
def insOne (t : Tp) (l : List Tp) : List Tp := if (insFold t l).2 then (insFold t l).1 else (insFold t l).1 ++ [t]
def setStep (out : List Tp) (t : Tp) : List Tp := if out.contains t then out else insOne t out
def setR (l : List Tp) : List Tp := l.foldl setStep []
theorem fold_snoc {α β : Type} [Inhabited α] {f : β → α → β} {b : β} {l : List α} {k : Nat} (h : k < l.length) : (l.take (k + 1)).foldl f b = f ((l.take k).foldl f b) (at' l (k : Int)) := by
  rw [at'_nat h, List.take_succ_eq_append_getElem h, List.foldl_append]; rfl
theorem insFold_snoc {t : Tp} {l : List Tp} {k : Nat} (h : k < l.length) : insFold t (l.take (k + 1)) = insStep t (insFold t (l.take k)) (at' l (k : Int)) := fold_snoc h
theorem setR_snoc {l : List Tp} {k : Nat} (h : k < l.length) : setR (l.take (k + 1)) = setStep (setR (l.take k)) (at' l (k : Int)) := fold_snoc h
/-- The list up to the first that is greater, then t, then the rest. -/
theorem insFold_spec (t : Tp) : ∀ (l : List Tp) (acc : List Tp), Rises l →
    l.foldl (insStep t) (acc, false) = if l.any (fun x => decide (cmpL t x < 0)) then (acc ++ l.filter (fun x => !decide (cmpL t x < 0)) ++ [t] ++ l.filter (fun x => decide (cmpL t x < 0)), true) else (acc ++ l, false)
  | [], acc, _ => by simp
  | x :: l, acc, h => by
    have h1 := List.pairwise_cons.1 h
    have hdone : ∀ (l : List Tp) (acc : List Tp), l.foldl (insStep t) (acc, true) = (acc ++ l, true) := by
      intro l
      induction l with
      | nil => intro acc; simp
      | cons y l ih => intro acc; rw [List.foldl_cons, show insStep t (acc, true) y = (acc ++ [y], true) from by simp [insStep], ih]; simp
    rw [List.foldl_cons]
    by_cases hx : cmpL t x < 0
    · have hall : ∀ z ∈ l, cmpL t z < 0 := fun z hz => cmp_lt hx (h1.1 z hz)
      rw [show insStep t (acc, false) x = (acc ++ [t] ++ [x], true) from by simp [insStep, hx], hdone]
      have e1 : l.filter (fun x => decide (cmpL t x < 0)) = l := List.filter_eq_self.2 fun z hz => by simp [hall z hz]
      have e2 : l.filter (fun x => !decide (cmpL t x < 0)) = [] := List.filter_eq_nil_iff.2 fun z hz => by simp [hall z hz]
      simp [hx, e1, e2]
    · rw [show insStep t (acc, false) x = (acc ++ [x], false) from by simp [insStep, hx], insFold_spec t l _ h1.2]
      simp [hx]
theorem insOne_mem {t : Tp} {l : List Tp} (h : Rises l) (x : Tp) : x ∈ insOne t l ↔ x = t ∨ x ∈ l := by
  unfold insOne insFold
  rw [insFold_spec t l [] h]
  by_cases ha : l.any (fun x => decide (cmpL t x < 0)) = true
  · rw [if_pos ha]
    simp only [if_true, List.nil_append, List.mem_append, List.mem_filter, List.mem_singleton]
    constructor
    · rintro ((h1 | h1) | h1)
      · exact .inr h1.1
      · exact .inl h1
      · exact .inr h1.1
    · rintro (h1 | h1)
      · exact .inl (.inr h1)
      · by_cases h2 : cmpL t x < 0
        · exact .inr ⟨h1, by simp [h2]⟩
        · exact .inl (.inl ⟨h1, by simp [h2]⟩)
  · rw [if_neg ha]
    simp only [Bool.false_eq_true, if_false, List.nil_append, List.mem_append, List.mem_singleton]
    constructor
    · rintro (h1 | h1)
      · exact .inr h1
      · exact .inl h1
    · rintro (h1 | h1)
      · exact .inr h1
      · exact .inl h1
theorem insOne_rises {t : Tp} {l : List Tp} (h : Rises l) (hn : t ∉ l) : Rises (insOne t l) := by
  have hlt : ∀ x ∈ l, ¬ cmpL t x < 0 → cmpL x t < 0 := fun x hx h1 => by
    have h2 := cmp_neg t x
    rcases cmp_vals t x with e | e | e
    · omega
    · rw [cmp_eq] at e; subst e; exact absurd hx hn
    · omega
  unfold insOne insFold
  rw [insFold_spec t l [] h]
  by_cases ha : l.any (fun x => decide (cmpL t x < 0)) = true
  · rw [if_pos ha]
    simp only [if_true, List.nil_append]
    unfold Rises
    rw [List.pairwise_append, List.pairwise_append]
    refine ⟨⟨h.sublist List.filter_sublist, List.pairwise_singleton _ _, ?_⟩, h.sublist List.filter_sublist, ?_⟩
    · intro x hx y hy
      rw [List.mem_filter] at hx
      rw [List.mem_singleton] at hy; subst hy
      exact hlt x hx.1 (by simpa using hx.2)
    · intro x hx y hy
      rw [List.mem_filter] at hy
      have h1 : cmpL t y < 0 := by simpa using hy.2
      rcases List.mem_append.1 hx with hx | hx
      · rw [List.mem_filter] at hx
        exact cmp_lt (hlt x hx.1 (by simpa using hx.2)) h1
      · rw [List.mem_singleton] at hx; subst hx; exact h1
  · rw [if_neg ha]
    simp only [Bool.false_eq_true, if_false, List.nil_append]
    unfold Rises
    rw [List.pairwise_append]
    refine ⟨h, List.pairwise_singleton _ _, fun x hx y hy => ?_⟩
    rw [List.mem_singleton] at hy; subst hy
    refine hlt x hx fun h1 => ha (List.any_eq_true.2 ⟨x, hx, by simp [h1]⟩)
theorem setR_spec (l : List Tp) : Rises (setR l) ∧ ∀ x, x ∈ setR l ↔ x ∈ l := by
  have key : ∀ (l out : List Tp), Rises out → Rises (l.foldl setStep out) ∧ ∀ x, x ∈ l.foldl setStep out ↔ x ∈ out ∨ x ∈ l := by
    intro l
    induction l with
    | nil => intro out h; exact ⟨h, fun x => by simp⟩
    | cons t l ih =>
      intro out h
      rw [List.foldl_cons]
      by_cases hc : out.contains t = true
      · have hm : t ∈ out := by simpa using hc
        rw [show setStep out t = out from by rw [setStep, if_pos hc]]
        obtain ⟨h1, h2⟩ := ih out h
        refine ⟨h1, fun x => ?_⟩
        rw [h2 x, List.mem_cons]
        constructor
        · rintro (h3 | h3)
          · exact .inl h3
          · exact .inr (.inr h3)
        · rintro (h3 | h3 | h3)
          · exact .inl h3
          · subst h3; exact .inl hm
          · exact .inr h3
      · have hm : t ∉ out := by simpa using hc
        rw [show setStep out t = insOne t out from by rw [setStep, if_neg hc]]
        obtain ⟨h1, h2⟩ := ih (insOne t out) (insOne_rises h hm)
        refine ⟨h1, fun x => ?_⟩
        rw [h2 x, insOne_mem h, List.mem_cons]
        constructor
        · rintro ((h3 | h3) | h3)
          · exact .inr (.inl h3)
          · exact .inl h3
          · exact .inr (.inr h3)
        · rintro (h3 | h3 | h3)
          · exact .inl (.inr h3)
          · exact .inl (.inl h3)
          · exact .inr h3
  obtain ⟨h1, h2⟩ := key l [] List.Pairwise.nil
  exact ⟨h1, fun x => by rw [setR, h2 x]; simp⟩
theorem setR_unique {l s : List Tp} (h : Rises s) (hm : ∀ x, x ∈ s ↔ x ∈ l) : s = setR l := rises_unique h (setR_spec l).1 fun x => (hm x).trans ((setR_spec l).2 x).symm
theorem insStep_len (t : Tp) (s : List Tp × Bool) (x : Tp) : (insStep t s x).1.length + cond (insStep t s x).2 0 1 ≤ s.1.length + cond s.2 0 1 + 1 := by
  unfold insStep
  split
  · rename_i h; simp only [Bool.and_eq_true, Bool.not_eq_true'] at h; simp [h.1]
  · simp; omega
theorem insFold_len (t : Tp) (l : List Tp) : (insFold t l).1.length + cond (insFold t l).2 0 1 ≤ l.length + 1 := by
  have key : ∀ (l : List Tp) (s : List Tp × Bool), (l.foldl (insStep t) s).1.length + cond (l.foldl (insStep t) s).2 0 1 ≤ s.1.length + cond s.2 0 1 + l.length := by
    intro l
    induction l with
    | nil => intro s; simp
    | cons x l ih =>
      intro s
      have h1 := ih (insStep t s x); have h2 := insStep_len t s x
      rw [List.foldl_cons, List.length_cons]; omega
  have := key l ([], false)
  simpa [insFold, Nat.add_comm] using this
theorem insOne_len (t : Tp) (l : List Tp) : (insOne t l).length ≤ l.length + 1 := by
  have h := insFold_len t l
  unfold insOne
  split
  · rename_i h1; rw [h1] at h; simpa using h
  · rename_i h1; rw [Bool.not_eq_true] at h1; rw [h1] at h; simpa using h
theorem setR_len (l : List Tp) : (setR l).length ≤ l.length := by
  have key : ∀ (l out : List Tp), (l.foldl setStep out).length ≤ out.length + l.length := by
    intro l
    induction l with
    | nil => intro out; simp
    | cons t l ih =>
      intro out
      have h1 := ih (setStep out t)
      have h2 : (setStep out t).length ≤ out.length + 1 := by
        unfold setStep; split
        · omega
        · exact insOne_len t out
      rw [List.foldl_cons, List.length_cons]; omega
  simpa [setR] using key l []
end Go.Tu
