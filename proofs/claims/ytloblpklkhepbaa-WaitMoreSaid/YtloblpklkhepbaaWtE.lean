/- Who waits for whom in a ring: what a search in breadth has found, and the ring it gives. -/
import Derived.Test.YtloblpklkhepbaaWtD
namespace Go.Wt
open Go Go.Gw
set_option linter.unusedVariables false
set_option linter.unusedSimpArgs false
theorem at'_setI {r : List Int} {i j : Int} {v : Int} (h0 : 0 ≤ i) (h1 : i < r.length) (hj : 0 ≤ j) : at' (r.set i.toNat v) j = if i = j then v else at' r j := by
  unfold at'
  rw [List.getD_eq_getElem?_getD, List.getD_eq_getElem?_getD, List.getElem?_set]
  by_cases h : i = j
  · subst h; simp [show i.toNat < r.length from by omega]
  · have : ¬ i.toNat = j.toNat := by omega
    simp [h, this]
theorem at'_zeros (n : Nat) (i : Int) : at' (List.replicate n (0 : Int)) i = 0 := by
  unfold at'
  rw [List.getD_eq_getElem?_getD, List.getElem?_replicate]
  split <;> rfl
/-- A bit that isn't set. -/
theorem test_bit0 {x : Nat} (hx : x < 2 ^ 32) {j : Int} (h0 : 0 ≤ j) (h : j ≤ 31) : decide (bitsV .and .u32 ((x : Int).fdiv (2 ^ min j.toNat IntKind.u32.bits)) 1 = 0) = !x.testBit j.toNat := by
  have h3 := bitsV_and_nat (x := x / 2 ^ j.toNat) (y := 1) (Nat.lt_of_le_of_lt (Nat.div_le_self _ _) hx) (by omega)
  rw [shr_nat h0 h]
  have h4 : ((1 : Nat) : Int) = 1 := rfl
  rw [h4] at h3
  rw [h3]
  have h5 : (x / 2 ^ j.toNat) &&& 1 = (x / 2 ^ j.toNat) % 2 := Nat.and_one_is_mod _
  rw [h5, Nat.testBit_eq_decide_div_mod_eq]
  by_cases hq : x / 2 ^ j.toNat % 2 = 1
  · simp [hq]
  · have : (((x / 2 ^ j.toNat % 2 : Nat) : Int) = 0) := by omega
    rw [decide_eq_true this, decide_eq_false hq]; rfl
/-- What is found, in its order, and from where. -/
inductive Disc (es : Es) (s : Int) : List Int → List Int → Prop
  | base : Disc es s [s] (List.replicate 17 0)
  | step {ord F : List Int} {v t : Int} : Disc es s ord F → v ∈ ord → t ∉ ord → 1 ≤ t → t ≤ 16 → (v, t) ∈ es → Disc es s (ord ++ [t]) (F.set t.toNat v)
section
variable {es : Es} {s : Int} {ord F : List Int}
theorem Disc.len (h : Disc es s ord F) : F.length = 17 := by
  induction h with
  | base => simp
  | step _ _ _ _ _ _ ih => simp [ih]
theorem Disc.has (h : Disc es s ord F) : s ∈ ord := by
  induction h with
  | base => simp
  | step _ _ _ _ _ _ ih => simp [ih]
theorem Disc.range (hs : 1 ≤ s ∧ s ≤ 16) (h : Disc es s ord F) : ∀ u ∈ ord, 1 ≤ u ∧ u ≤ 16 := by
  induction h with
  | base => intro u hu; rw [List.mem_singleton.1 hu]; exact hs
  | step _ _ _ h1 h2 _ ih =>
    intro u hu
    rcases List.mem_append.1 hu with hu | hu
    · exact ih u hu
    · rw [List.mem_singleton.1 hu]; exact ⟨h1, h2⟩
theorem Disc.from_ (hs : 1 ≤ s ∧ s ≤ 16) (h : Disc es s ord F) : ∀ u : Int, 1 ≤ u → u ≤ 16 → (0 < at' F u ↔ u ∈ ord ∧ u ≠ s) := by
  induction h with
  | base => intro u _ _; rw [at'_zeros]; simp
  | @step ord F v t hd hv ht h1 h2 he ih =>
    intro u hu1 hu2
    have hl := hd.len
    rw [at'_setI (by omega) (by omega) (by omega)]
    by_cases e : t = u
    · subst e
      rw [if_pos rfl]
      have := hd.range hs v hv
      refine ⟨fun _ => ⟨by simp, fun e => ht (e ▸ hd.has)⟩, fun _ => by omega⟩
    · rw [if_neg e, ih u hu1 hu2]
      have e2 : u ≠ t := fun e' => e e'.symm
      simp [e2]
theorem Disc.reach (h : Disc es s ord F) : ∀ u ∈ ord, u = s ∨ Reach es s u := by
  induction h with
  | base => intro u hu; exact .inl (List.mem_singleton.1 hu)
  | @step ord F v t hd hv ht h1 h2 he ih =>
    intro u hu
    rcases List.mem_append.1 hu with hu | hu
    · exact ih u hu
    · rw [List.mem_singleton.1 hu]
      rcases ih v hv with e | e
      · exact .inr (.one (e ▸ he))
      · exact .inr (.more e he)
def nz (F : List Int) : Nat := (F.filter fun x => decide (x ≤ 0)).length
theorem nz_set {F : List Int} {i : Nat} {x v : Int} (h : F[i]? = some x) (hx : x ≤ 0) (hv : 0 < v) : nz (F.set i v) + 1 = nz F := by
  unfold nz
  induction F generalizing i with
  | nil => simp at h
  | cons b l ih =>
    cases i with
    | zero => simp at h; subst h; simp [List.filter_cons, hx, show ¬ v ≤ 0 from by omega]
    | succ i =>
      have := ih (i := i) (by simpa using h)
      rw [List.set_cons_succ, List.filter_cons, List.filter_cons]
      split <;> simp [this] <;> omega
theorem Disc.count (hs : 1 ≤ s ∧ s ≤ 16) (h : Disc es s ord F) : ord.length + nz F = 18 := by
  induction h with
  | base => rfl
  | @step ord F v t hd hv ht h1 h2 he ih =>
    have hl := hd.len
    have h3 := hd.from_ hs t h1 h2
    have h4 := at'_some (xs := F) (i := t) (by omega) (by omega)
    have h5 : at' F t ≤ 0 := by
      rcases Int.lt_or_le 0 (at' F t) with h | h
      · exact absurd (h3.1 h).1 ht
      · exact h
    have h6 := hd.range hs v hv
    have := nz_set h4 h5 (v := v) (by omega)
    simp only [List.length_append, List.length_singleton]
    omega

/-- The way back from u to s: u and what lies between. -/
inductive Chain (F : List Int) (s : Int) : Int → List Int → Prop
  | nil : Chain F s s []
  | cons {u : Int} {p : List Int} : u ≠ s → Chain F s (at' F u) p → Chain F s u (u :: p)
theorem Chain.nil_of {p : List Int} (h : Chain F s s p) : p = [] := by
  cases h with
  | nil => rfl
  | cons h _ => exact absurd rfl h
theorem Chain.cons_of {u : Int} {p : List Int} (h : Chain F s u p) (hu : u ≠ s) : ∃ q, p = u :: q ∧ Chain F s (at' F u) q := by
  cases h with
  | nil => exact absurd rfl hu
  | cons h h' => exact ⟨_, rfl, h'⟩
theorem Chain.set {u t v : Int} {p : List Int} (h : Chain F s u p) (hl : F.length = 17) (h0 : 0 ≤ t) (h1 : t ≤ 16) (hp : ∀ x ∈ p, 0 ≤ x ∧ x ≠ t) : Chain (F.set t.toNat v) s u p := by
  induction h with
  | nil => exact .nil
  | @cons u p hu h ih =>
    refine .cons hu ?_
    have h3 := hp u List.mem_cons_self
    rw [at'_setI (by omega) (by omega) (by omega), if_neg (fun e => h3.2 e.symm)]
    exact ih fun x hx => hp x (List.mem_cons_of_mem _ hx)
/-- Each waits for the one ahead of it. -/
def Links (es : Es) : List Int → Prop
  | [] => True
  | [_] => True
  | x :: y :: r => (y, x) ∈ es ∧ Links es (y :: r)
theorem Disc.chain (hs : 1 ≤ s ∧ s ≤ 16) (h : Disc es s ord F) : ∀ u ∈ ord, ∃ p, Chain F s u p ∧ Links es (p ++ [s]) ∧ (p ++ [s]).Nodup ∧ (∀ x ∈ p ++ [s], x ∈ ord) ∧ p.length + 1 ≤ ord.length ∧ (p ++ [s]).head? = some u := by
  induction h with
  | base =>
    intro u hu
    rw [List.mem_singleton.1 hu]
    exact ⟨[], .nil, trivial, by simp, by simp, by simp, rfl⟩
  | @step ord F v t hd hv ht h1 h2 he ih =>
    have hset : ∀ (u : Int) (p : List Int), Chain F s u p → (∀ x ∈ p ++ [s], x ∈ ord) → Chain (F.set t.toNat v) s u p := fun u p hc hp =>
      hc.set hd.len (by omega) h2 fun x hx => by
        have h3 := hp x (List.mem_append_left _ hx)
        exact ⟨by have := hd.range hs x h3; omega, fun e => ht (e ▸ h3)⟩
    intro u hu
    rcases List.mem_append.1 hu with hu | hu
    · obtain ⟨p, c1, c2, c3, c4, c5, c6⟩ := ih u hu
      exact ⟨p, hset _ _ c1 c4, c2, c3, fun x hx => List.mem_append_left _ (c4 x hx), by simp; omega, c6⟩
    · rw [List.mem_singleton.1 hu]
      obtain ⟨p, c1, c2, c3, c4, c5, c6⟩ := ih v hv
      have hts : t ≠ s := fun e => ht (e ▸ hd.has)
      have hl := hd.len
      refine ⟨t :: p, .cons hts ?_, ?_, ?_, ?_, by simp; omega, rfl⟩
      · rw [at'_setI (by omega) (by omega) (by omega), if_pos rfl]
        exact hset _ _ c1 c4
      · cases hq : p ++ [s] with
        | nil => simp at hq
        | cons y r =>
          rw [hq] at c2 c6
          have : y = v := by simpa using c6
          subst this
          rw [List.cons_append, hq]
          exact ⟨he, c2⟩
      · rw [List.cons_append, List.nodup_cons]
        exact ⟨fun h => ht (c4 t h), c3⟩
      · intro x hx
        rw [List.cons_append, List.mem_cons] at hx
        rcases hx with rfl | hx
        · simp
        · exact List.mem_append_left _ (c4 x hx)
/-- A ring of waiters, from s on. -/
def RingOk (es : Es) (s : Int) (l : List Int) : Prop := l.head? = some s ∧ l.Nodup ∧ ∀ k, k < l.length → (at' l (k : Int), at' l (((k + 1) % l.length : Nat) : Int)) ∈ es
theorem Links.at_ {q : List Int} (h : Links es q) : ∀ i (hi : i + 1 < q.length), (q[i + 1], q[i]) ∈ es := by
  induction q with
  | nil => intro i hi; simp at hi
  | cons x r ih =>
    cases r with
    | nil => intro i hi; simp at hi
    | cons y r =>
      intro i hi
      cases i with
      | zero => exact h.1
      | succ i => exact ih h.2 i (by simpa using hi)
theorem ring_of {u : Int} {p : List Int} (hl : Links es (p ++ [s])) (hn : (p ++ [s]).Nodup) (hh : (p ++ [s]).head? = some u) (he : (u, s) ∈ es) : RingOk es s (p ++ [s]).reverse := by
  refine ⟨by simp, by unfold List.Nodup at hn ⊢; rw [List.pairwise_reverse]; exact hn.imp fun h => h.symm, fun k hk => ?_⟩
  have hq : (p ++ [s]).length = p.length + 1 := by simp
  rw [List.length_reverse] at hk ⊢
  have hk2 : (k + 1) % (p ++ [s]).length < (p ++ [s]).length := Nat.mod_lt _ (by omega)
  rw [at'_nat (by simpa using hk), at'_nat (by simpa using hk2), List.getElem_reverse, List.getElem_reverse]
  rcases Nat.lt_or_ge (k + 1) (p ++ [s]).length with h1 | h1
  · have e1 : (k + 1) % (p ++ [s]).length = k + 1 := Nat.mod_eq_of_lt h1
    have := hl.at_ ((p ++ [s]).length - 1 - (k + 1)) (by omega)
    have e2 : (p ++ [s]).length - 1 - (k + 1) + 1 = (p ++ [s]).length - 1 - k := by omega
    simp only [e2] at this
    simp only [e1]
    exact this
  · have e0 : k + 1 = (p ++ [s]).length := by omega
    have e1 : (k + 1) % (p ++ [s]).length = 0 := by rw [e0, Nat.mod_self]
    simp only [e1, Nat.sub_zero]
    have e2 : (p ++ [s]).length - 1 - k = 0 := by omega
    simp only [e2]
    have e3 : (p ++ [s])[0]'(by omega) = u := by
      rw [List.head?_eq_getElem?, List.getElem?_eq_getElem (by omega)] at hh
      exact Option.some.inj hh
    have e4 : (p ++ [s])[(p ++ [s]).length - 1]'(by omega) = s := by
      rw [List.getElem_append_right (by simp)]; simp
    rw [e3, e4]; exact he
theorem reach_kept (hc : ∀ v ∈ ord, ∀ t, (v, t) ∈ es → t ∈ ord ∧ t ≠ s) (hs : s ∈ ord) : ∀ {t : Int}, Reach es s t → t ∈ ord ∧ t ≠ s := by
  intro t h
  induction h with
  | one h => exact hc _ hs _ h
  | more _ h ih => exact hc _ ih.1 _ h
theorem kept_next {P : Int → Prop} {k : Nat} {v : Int} (ho : okE es) (hv : ord[k]? = some v) (h : ∀ v ∈ ord.take k, ∀ t, (v, t) ∈ es → P t) (hn : ∀ t, t ≤ 16 → (v, t) ∈ es → P t) : ∀ v ∈ ord.take (k + 1), ∀ t, (v, t) ∈ es → P t := by
  intro u hu t he
  rw [List.take_add_one, hv] at hu
  rcases List.mem_append.1 hu with hu | hu
  · exact h u hu t he
  · have : u = v := by simpa using hu
    subst this
    exact hn t (ho _ he).2.2.2 he
theorem kept_cont {n : Nat} {v : Int} (ho : okE es) (hs : 1 ≤ s ∧ s ≤ 16) (hv : 1 ≤ v) (hd : Disc es s ord F) (hn : n + 1 ≤ 16) (c : (at' (rowsOf es) v).testBit ((n : Int) + 1).toNat = false ∨ 0 < at' F ((n : Int) + 1)) (h : ∀ t : Int, t ≤ (n : Int) → (v, t) ∈ es → t ∈ ord ∧ t ≠ s) : ∀ t : Int, t ≤ ((n + 1 : Nat) : Int) → (v, t) ∈ es → t ∈ ord ∧ t ≠ s := by
  intro t ht he
  rcases Int.lt_or_le (n : Int) t with h1 | h1
  · obtain rfl : t = (n : Int) + 1 := by omega
    rcases c with c | c
    · rw [(bit_rows ho (by omega) (by omega)).2 he] at c; cases c
    · exact (hd.from_ hs _ (by omega) (by omega)).1 c
  · exact h t h1 he
theorem found {n k : Nat} {v : Int} (ho : okE es) (hs : 1 ≤ s ∧ s ≤ 16) (hd : Disc es s ord F) (hn : n + 1 ≤ 16) (hk : k < ord.length) (hv : ord[k]? = some v) (hc : ∀ v ∈ ord.take k, ∀ t, (v, t) ∈ es → t ∈ ord ∧ t ≠ s) (h : ∀ t : Int, t ≤ (n : Int) → (v, t) ∈ es → t ∈ ord ∧ t ≠ s) (he : (v, (n : Int) + 1) ∈ es) (hno : ¬ (n : Int) + 1 ∈ ord) (hns : (n : Int) + 1 ≠ s) :
    n + 1 ≤ 16 ∧ Disc es s (ord ++ [(n : Int) + 1]) (F.set ((n : Int) + 1).toNat v) ∧ k < (ord ++ [(n : Int) + 1]).length ∧ (ord ++ [(n : Int) + 1])[k]? = some v ∧ (∀ v ∈ (ord ++ [(n : Int) + 1]).take k, ∀ t, (v, t) ∈ es → t ∈ ord ++ [(n : Int) + 1] ∧ t ≠ s) ∧ ∀ t : Int, t ≤ ((n + 1 : Nat) : Int) → (v, t) ∈ es → t ∈ ord ++ [(n : Int) + 1] ∧ t ≠ s := by
  refine ⟨hn, .step hd (List.mem_of_getElem? hv) hno (by omega) (by omega) he, by simp; omega, by rw [List.getElem?_append_left hk]; exact hv, ?_, ?_⟩
  · rw [List.take_append_of_le_length (by omega)]
    intro u hu t ht
    exact ⟨List.mem_append_left _ (hc u hu t ht).1, (hc u hu t ht).2⟩
  · intro t ht he'
    rcases Int.lt_or_le (n : Int) t with h1 | h1
    · obtain rfl : t = (n : Int) + 1 := by omega
      exact ⟨by simp, hns⟩
    · exact ⟨List.mem_append_left _ (h t h1 he').1, (h t h1 he').2⟩
def RingSays (es : Es) (s : Int) (l : List Int) : Prop := (Reach es s s ∧ RingOk es s l) ∨ (¬ Reach es s s ∧ l = [])
end
/-! ### Is it a ring? -/
def ringAt (es : Es) (l : List Int) (k : Nat) : Bool := (es.any fun e => decide (e = (at' l (k : Int), at' l (((k : Int) + 1) % (l.length : Int))))) && (l.take k).all fun x => decide (x ≠ at' l (k : Int))
def isRingB (es : Es) (l : List Int) : Bool := ((List.range l.length).all fun k => ringAt es l k) && decide ((l.length : Int) > 0)
theorem ringB_no {es : Es} {l : List Int} {k : Nat} (hk : k < l.length) (h : ringAt es l k = false) : isRingB es l = false := by
  have : ((List.range l.length).all fun k => ringAt es l k) = false := by
    rw [List.all_eq_false]; exact ⟨k, List.mem_range.2 hk, by rw [h]; simp⟩
  rw [isRingB, this]; rfl
theorem ringB_yes {es : Es} {l : List Int} (h : ∀ i, i < l.length → ringAt es l i = true) : isRingB es l = decide ((l.length : Int) > 0) := by
  have : ((List.range l.length).all fun k => ringAt es l k) = true := List.all_eq_true.2 fun i hi => h i (List.mem_range.1 hi)
  rw [isRingB, this, Bool.true_and]
theorem any_next {α : Type} [Inhabited α] {xs : List α} {j : Nat} (hj : j < xs.length) (p : α → Bool) : (xs.take (j + 1)).any p = ((xs.take j).any p || p (at' xs (j : Int))) := by
  rw [List.take_add_one, List.getElem?_eq_getElem hj, at'_nat hj, List.any_append]; simp only [Option.toList, List.any_cons, List.any_nil, Bool.or_false]
theorem all_next {α : Type} [Inhabited α] {xs : List α} {j : Nat} (hj : j < xs.length) (b : Bool) (p : α → Bool) : (b && (xs.take (j + 1)).all p) = ((b && (xs.take j).all p) && p (at' xs (j : Int))) := by
  rw [List.take_add_one, List.getElem?_eq_getElem hj, at'_nat hj, List.all_append]; simp only [Option.toList, List.all_cons, List.all_nil, Bool.and_true, Bool.and_assoc]
end Go.Wt
