/- Who waits for whom in a ring: what the rows say: a bit over several stands just where there is a way. -/
import Derived.Test.YtloblpklkhepbaaWtB
namespace Go.Wt
open Go Go.Gw
set_option linter.unusedVariables false
set_option linter.unusedSimpArgs false

inductive Reach (es : Es) : Int → Int → Prop
  | one {a b : Int} : (a, b) ∈ es → Reach es a b
  | more {a b c : Int} : Reach es a b → (b, c) ∈ es → Reach es a c

theorem at'_set {r : List Nat} {i j : Int} {v : Nat} (h0 : 0 ≤ i) (h1 : i < r.length) (hj : 0 ≤ j) : at' (r.set i.toNat v) j = if i = j then v else at' r j := by
  unfold at'
  rw [List.getD_eq_getElem?_getD, List.getD_eq_getElem?_getD, List.getElem?_set]
  by_cases h : i = j
  · subst h; simp [show i.toNat < r.length from by omega]
  · have : ¬ i.toNat = j.toNat := by omega
    simp [h, this]
theorem bit_step {r : List Nat} (hs : Small r) {e : Int × Int} (he : 1 ≤ e.1 ∧ e.1 ≤ 16 ∧ 1 ≤ e.2 ∧ e.2 ≤ 16) {s t : Int} (h0 : 0 ≤ s) (ht : 0 ≤ t) :
    (at' (rowsStep r e) s).testBit t.toNat = ((at' r s).testBit t.toNat || (decide (e.1 = s) && decide (e.2 = t))) := by
  unfold rowsStep
  rw [at'_set (by omega) (by have := hs.1; omega) h0]
  by_cases h : e.1 = s
  · subst h
    rw [if_pos rfl, Nat.testBit_or, Nat.testBit_two_pow]
    have : (e.2.toNat = t.toNat) ↔ e.2 = t := by omega
    simp [this]
  · simp [h]
theorem bit_fold : ∀ (es : Es) (r : List Nat), Small r → okE es → ∀ {s t : Int}, 0 ≤ s → 0 ≤ t → ((at' (es.foldl rowsStep r) s).testBit t.toNat = true ↔ (at' r s).testBit t.toNat = true ∨ (s, t) ∈ es)
  | [], r, hs, ho, s, t, h0, ht => by simp
  | e :: es, r, hs, ho, s, t, h0, ht => by
    have he := ho e (by simp)
    rw [List.foldl_cons, bit_fold es _ (small_step hs ⟨he.2.2.1, he.2.2.2⟩) (fun x hx => ho x (by simp [hx])) h0 ht, bit_step hs he h0 ht]
    simp only [Bool.or_eq_true, Bool.and_eq_true, decide_eq_true_eq, List.mem_cons]
    constructor
    · rintro ((h | ⟨h1, h2⟩) | h)
      · exact .inl h
      · exact .inr (.inl (by rw [← h1, ← h2]))
      · exact .inr (.inr h)
    · rintro (h | h | h)
      · exact .inl (.inl h)
      · exact .inl (.inr ⟨by rw [← h], by rw [← h]⟩)
      · exact .inr h
theorem bit_rows {es : Es} (ho : okE es) {s t : Int} (h0 : 0 ≤ s) (ht : 0 ≤ t) : (at' (rowsOf es) s).testBit t.toNat = true ↔ (s, t) ∈ es := by
  unfold rowsOf
  rw [bit_fold es _ small_zero ho h0 ht]
  have : at' (List.replicate 17 0) s = 0 := by
    unfold at'
    rw [List.getD_eq_getElem?_getD, List.getElem?_replicate]
    split <;> rfl
  rw [this]; simp
/-- Row j, behind the first n rounds for k. -/
theorem at_closeI {k : Int} {R : List Nat} (hR : Small R) (hk : 1 ≤ k ∧ k ≤ 16) : ∀ (n : Nat), n ≤ 16 → ∀ {j : Int}, 0 ≤ j → j ≤ 16 →
    at' (closeI k R n) j = if 1 ≤ j ∧ j ≤ n ∧ (at' R j).testBit k.toNat = true then at' R j ||| at' R k else at' R j
  | 0, _, j, h0, h1 => by
    rw [if_neg (by rintro ⟨h2, h3, _⟩; simp at h3; omega)]; rfl
  | n + 1, hn, j, h0, h1 => by
    have ih := fun {j : Int} (h0 : 0 ≤ j) (h1 : j ≤ 16) => at_closeI hR hk n (by omega) h0 h1
    have hlen : (closeI k R n).length = 17 := (small_closeI hR n).1
    have hrow : at' (closeI k R n) ((n : Int) + 1) = at' R ((n : Int) + 1) := by
      rw [ih (by omega) (by omega), if_neg (by rintro ⟨_, h3, _⟩; omega)]
    have hrk : at' (closeI k R n) k = at' R k := by
      rw [ih (by omega) (by omega)]
      split
      · exact Nat.or_self _
      · rfl
    rw [closeI, closeStep, hrow, hrk]
    by_cases hb : (at' R ((n : Int) + 1)).testBit k.toNat = true
    · rw [if_pos hb, at'_set (by omega) (by omega) h0]
      by_cases hj : (n : Int) + 1 = j
      · subst hj
        rw [if_pos rfl, if_pos ⟨by omega, by omega, hb⟩]
      · rw [if_neg hj, ih h0 h1]
        by_cases hc : 1 ≤ j ∧ j ≤ (n : Int) ∧ (at' R j).testBit k.toNat = true
        · rw [if_pos hc, if_pos ⟨hc.1, by omega, hc.2.2⟩]
        · rw [if_neg hc, if_neg (by rintro ⟨h2, h3, h4⟩; exact hc ⟨h2, by omega, h4⟩)]
    · rw [if_neg hb, ih h0 h1]
      by_cases hc : 1 ≤ j ∧ j ≤ (n : Int) ∧ (at' R j).testBit k.toNat = true
      · rw [if_pos hc, if_pos ⟨hc.1, by omega, hc.2.2⟩]
      · rw [if_neg hc, if_neg (by
          rintro ⟨h2, h3, h4⟩
          by_cases hj : j = (n : Int) + 1
          · subst hj; exact hb h4
          · exact hc ⟨h2, by omega, h4⟩)]
/-- The bit t of row s, behind the first n rounds. -/
def B (r : List Nat) (n : Nat) (s t : Int) : Prop := (at' (closeK r n) s).testBit t.toNat = true
theorem B_succ {r : List Nat} (hr : Small r) {n : Nat} (hn : n < 16) {s t : Int} (h0 : 1 ≤ s) (h1 : s ≤ 16) : B r (n + 1) s t ↔ B r n s t ∨ (B r n s ((n : Int) + 1) ∧ B r n ((n : Int) + 1) t) := by
  unfold B
  rw [closeK, at_closeI (small_closeK hr n) (by omega) 16 (Nat.le_refl _) (by omega) h1]
  by_cases hb : (at' (closeK r n) s).testBit ((n : Int) + 1).toNat = true
  · rw [if_pos ⟨h0, by omega, hb⟩, Nat.testBit_or, Bool.or_eq_true]
    exact ⟨fun h => h.imp id fun h => ⟨hb, h⟩, fun h => h.imp id fun h => h.2⟩
  · rw [if_neg (by rintro ⟨_, _, h⟩; exact hb h)]
    exact ⟨.inl, fun h => h.elim id fun h => absurd h.1 hb⟩
theorem B_mono {r : List Nat} (hr : Small r) {s t : Int} (h0 : 1 ≤ s) (h1 : s ≤ 16) : ∀ (n : Nat), n ≤ 16 → B r 0 s t → B r n s t
  | 0, _, h => h
  | n + 1, hn, h => (B_succ hr (by omega) h0 h1).2 (.inl (B_mono hr h0 h1 n (by omega) h))
theorem B_trans {r : List Nat} (hr : Small r) : ∀ (n : Nat), n ≤ 16 → ∀ {s m t : Int}, 1 ≤ s → s ≤ 16 → 1 ≤ m → m ≤ n → B r n s m → B r n m t → B r n s t
  | 0, _, s, m, t, _, _, h1, h2, _, _ => by simp at h2; omega
  | n + 1, hn, s, m, t, hs0, hs1, h1, h2, ha, hb => by
    have ih := fun {s m t : Int} (a : 1 ≤ s) (b : s ≤ 16) (c : 1 ≤ m) (d : m ≤ n) => B_trans hr n (by omega) (s := s) (m := m) (t := t) a b c d
    rw [B_succ hr (by omega) hs0 hs1] at ha ⊢
    rw [B_succ hr (by omega) h1 (by omega)] at hb
    by_cases hm : m = (n : Int) + 1
    · subst hm
      have ha' : B r n s ((n : Int) + 1) := by rcases ha with ha | ha; exact ha; exact ha.1
      have hb' : B r n ((n : Int) + 1) t := by rcases hb with hb | hb; exact hb; exact hb.2
      exact .inr ⟨ha', hb'⟩
    · have hmn : m ≤ n := by omega
      have hn1 : (1 : Int) ≤ (n : Int) + 1 ∧ (n : Int) + 1 ≤ 16 := by omega
      rcases ha with ha | ⟨ha1, ha2⟩ <;> rcases hb with hb | ⟨hb1, hb2⟩
      · exact .inl (ih hs0 hs1 h1 hmn ha hb)
      · exact .inr ⟨ih hs0 hs1 h1 hmn ha hb1, hb2⟩
      · exact .inr ⟨ha1, ih hn1.1 hn1.2 h1 hmn ha2 hb⟩
      · exact .inr ⟨ha1, hb2⟩
theorem B_sound {es : Es} (ho : okE es) : ∀ (n : Nat), n ≤ 16 → ∀ {s t : Int}, 1 ≤ s → s ≤ 16 → 0 ≤ t → B (rowsOf es) n s t → Reach es s t
  | 0, _, s, t, h0, h1, ht, h => .one ((bit_rows ho (by omega) ht).1 h)
  | n + 1, hn, s, t, h0, h1, ht, h => by
    rw [B_succ (small_rows ho) (by omega) h0 h1] at h
    rcases h with h | ⟨ha, hb⟩
    · exact B_sound ho n (by omega) h0 h1 ht h
    · exact reach_trans (B_sound ho n (by omega) h0 h1 (by omega) ha) (B_sound ho n (by omega) (by omega) (by omega) ht hb)
where
  reach_trans {es : Es} {a b c : Int} (h : Reach es a b) (h' : Reach es b c) : Reach es a c := by
    induction h' with
    | one e => exact .more h e
    | more _ e ih => exact .more ih e
theorem reach_in {es : Es} (ho : okE es) {s t : Int} (h : Reach es s t) : 1 ≤ s ∧ s ≤ 16 ∧ 1 ≤ t ∧ t ≤ 16 := by
  induction h with
  | one e => exact ho _ e
  | more _ e ih => have := ho _ e; exact ⟨ih.1, ih.2.1, this.2.2.1, this.2.2.2⟩
theorem closed_reach {es : Es} (ho : okE es) {s t : Int} (h0 : 1 ≤ s) (h1 : s ≤ 16) (ht : 0 ≤ t) : (at' (closedOf (rowsOf es)) s).testBit t.toNat = true ↔ Reach es s t := by
  refine ⟨fun h => B_sound ho 16 (Nat.le_refl _) h0 h1 ht h, fun h => ?_⟩
  have hr := small_rows ho
  show B (rowsOf es) 16 s t
  induction h with
  | one e => exact B_mono hr h0 h1 16 (Nat.le_refl _) ((bit_rows ho (by omega) ht).2 e)
  | more hab e ih =>
    have hb := reach_in ho hab
    have he := ho _ e
    exact B_trans hr 16 (Nat.le_refl _) h0 h1 (by omega) (by omega) (ih (by omega)) (B_mono hr (by omega) (by omega) 16 (Nat.le_refl _) ((bit_rows ho (by omega) (by omega)).2 e))

/-! ### the document's search -/
/-- Whether there is a way from s, for each session. -/
def leadsOf (es : Es) (s : Int) : List Bool := (List.range 17).map fun t => (at' (closedOf (rowsOf es)) s).testBit t
theorem leads_at {es : Es} (ho : okE es) {s : Int} (h0 : 1 ≤ s) (h1 : s ≤ 16) {t : Nat} (ht : t < 17) : (leadsOf es s)[t]? = some true ↔ Reach es s t := by
  have := closed_reach ho h0 h1 (t := (t : Int)) (by omega)
  rw [Int.toNat_natCast] at this
  rw [← this]
  simp [leadsOf, ht]
def Sound (es : Es) (s : Int) (out : List Bool) : Prop := out.length = 17 ∧ ∀ t : Nat, out[t]? = some true → Reach es s t
def ClosedUnder (es : Es) (s : Int) (out : List Bool) : Prop := ∀ e ∈ es, (e.1 = s ∨ out[e.1.toNat]? = some true) → out[e.2.toNat]? = some true
theorem leads_eq {es : Es} (ho : okE es) {s : Int} (h0 : 1 ≤ s) (h1 : s ≤ 16) {out : List Bool} (hs : Sound es s out) (hc : ClosedUnder es s out) : out = leadsOf es s := by
  have hcomp : ∀ t : Int, Reach es s t → out[t.toNat]? = some true := by
    intro t h
    induction h with
    | one e => exact hc _ e (.inl rfl)
    | more _ e ih => exact hc _ e (.inr ih)
  apply List.ext_getElem?
  intro t
  by_cases ht : t < 17
  · have h2 : (leadsOf es s).length = 17 := by simp [leadsOf]
    have h3 : ∃ b, out[t]? = some b := ⟨_, List.getElem?_eq_getElem (by have := hs.1; omega)⟩
    have h4 : ∃ b, (leadsOf es s)[t]? = some b := ⟨_, List.getElem?_eq_getElem (by omega)⟩
    obtain ⟨b, hb⟩ := h3
    obtain ⟨c, hc'⟩ := h4
    rw [hb, hc']
    congr 1
    cases b with
    | true =>
      have := (leads_at ho h0 h1 ht).2 (hs.2 t hb)
      rw [hc'] at this; exact (Option.some.inj this).symm
    | false =>
      cases c with
      | false => rfl
      | true =>
        have := hcomp t ((leads_at ho h0 h1 ht).1 hc')
        rw [Int.toNat_natCast, hb] at this; cases this
  · rw [List.getElem?_eq_none (by have := hs.1; omega), List.getElem?_eq_none (by simp [leadsOf]; omega)]
/-- What one edge does. -/
def leadStep (s : Int) (st : List Bool × Bool) (e : Int × Int) : List Bool × Bool :=
  if (decide (e.1 = s) || at' st.1 e.1) && !at' st.1 e.2 then (st.1.set e.2.toNat true, true) else st
def leadTo (es : Es) (s : Int) (out : List Bool) (k : Nat) : List Bool × Bool := (es.take k).foldl (leadStep s) (out, false)
theorem leadTo_zero (es : Es) (s : Int) (out : List Bool) : leadTo es s out 0 = (out, false) := rfl
theorem leadTo_succ {es : Es} {s : Int} {out : List Bool} {k : Nat} (hk : k < es.length) : leadTo es s out (k + 1) = leadStep s (leadTo es s out k) (at' es (k : Int)) := by
  unfold leadTo
  rw [List.take_succ_eq_append_getElem hk, List.foldl_append, at'_nat hk]; rfl
theorem at'_bool {out : List Bool} {i : Int} (h0 : 0 ≤ i) (h1 : i < out.length) : at' out i = true ↔ out[i.toNat]? = some true := by
  have := at'_some h1 h0
  rw [this]; simp
theorem leadStep_sound {es : Es} (ho : okE es) {s : Int} {st : List Bool × Bool} (hs : Sound es s st.1) {e : Int × Int} (he : e ∈ es) : Sound es s (leadStep s st e).1 := by
  unfold leadStep
  have hb := ho e he
  split
  · rename_i hc
    simp only [Bool.and_eq_true, Bool.or_eq_true, decide_eq_true_eq] at hc
    refine ⟨by simp [hs.1], fun t ht => ?_⟩
    rw [List.getElem?_set] at ht
    by_cases h2 : e.2.toNat = t
    · have h3 : (t : Int) = e.2 := by omega
      rw [h3]
      rcases hc.1 with h | h
      · subst h; exact .one he
      · have := hs.2 _ ((at'_bool (by omega) (by have := hs.1; omega)).1 h)
        rw [show ((e.1.toNat : Nat) : Int) = e.1 from by omega] at this
        exact .more this he
    · rw [if_neg h2] at ht
      exact hs.2 t ht
  · exact hs
theorem leadTo_sound {es : Es} (ho : okE es) {s : Int} {out : List Bool} (hs : Sound es s out) : ∀ k, k ≤ es.length → Sound es s (leadTo es s out k).1
  | 0, _ => hs
  | k + 1, hk => by
    rw [leadTo_succ (by omega)]
    refine leadStep_sound ho (leadTo_sound ho hs k (by omega)) ?_
    rw [at'_nat (by omega)]; exact List.getElem_mem _
def falses (out : List Bool) : Nat := (out.filter fun b => !b).length
theorem falses_set {out : List Bool} {i : Nat} (h : out[i]? = some false) : falses (out.set i true) < falses out := by
  unfold falses
  induction out generalizing i with
  | nil => simp at h
  | cons b l ih =>
    cases i with
    | zero => simp at h; subst h; simp
    | succ i =>
      have := ih (i := i) (by simpa using h)
      rw [List.set_cons_succ]
      cases b <;> simp at this ⊢ <;> omega
/-- While nothing has changed, all edges up to here are closed under; else there are fewer that aren't reached. -/
theorem leadTo_state {es : Es} (ho : okE es) {s : Int} {out : List Bool} (hs : Sound es s out) : ∀ k, k ≤ es.length →
    ((leadTo es s out k).2 = false → (leadTo es s out k).1 = out ∧ ∀ e ∈ es.take k, (e.1 = s ∨ out[e.1.toNat]? = some true) → out[e.2.toNat]? = some true) ∧
    ((leadTo es s out k).2 = true → falses (leadTo es s out k).1 < falses out)
  | 0, _ => ⟨fun _ => ⟨rfl, fun e he => by simp at he⟩, fun h => by simp [leadTo_zero] at h⟩
  | k + 1, hk => by
    have ih := leadTo_state ho hs k (by omega)
    have hsk := leadTo_sound ho hs k (by omega)
    have hmem : at' es (k : Int) ∈ es := by rw [at'_nat (by omega)]; exact List.getElem_mem _
    have hb := ho _ hmem
    rw [leadTo_succ (by omega)]
    unfold leadStep
    by_cases hc : ((decide ((at' es (k : Int)).1 = s) || at' (leadTo es s out k).1 (at' es (k : Int)).1) && !at' (leadTo es s out k).1 (at' es (k : Int)).2) = true
    · rw [if_pos hc]
      refine ⟨fun h => by simp at h, fun _ => ?_⟩
      simp only [Bool.and_eq_true, Bool.not_eq_true'] at hc
      have hf : (leadTo es s out k).1[(at' es (k : Int)).2.toNat]? = some false := by
        have := at'_some (xs := (leadTo es s out k).1) (i := (at' es (k : Int)).2) (by have := hsk.1; omega) (by omega)
        rw [this, hc.2]
      have h1 := falses_set hf
      cases h2 : (leadTo es s out k).2 with
      | false => have := (ih.1 h2).1; rw [this] at h1 ⊢; exact h1
      | true => exact Nat.lt_trans h1 (ih.2 h2)
    · rw [if_neg hc]
      refine ⟨fun h => ⟨(ih.1 h).1, fun e he => ?_⟩, ih.2⟩
      rw [List.take_succ_eq_append_getElem (by omega), List.mem_append] at he
      rcases he with he | he
      · exact (ih.1 h).2 e he
      · rw [List.mem_singleton] at he
        rw [← at'_nat (by omega)] at he
        subst he
        intro hor
        have heq := (ih.1 h).1
        rw [heq] at hc hsk
        have hnc : ¬ ((decide ((at' es (k : Int)).1 = s) || at' out (at' es (k : Int)).1) && !at' out (at' es (k : Int)).2) = true := hc
        simp only [Bool.and_eq_true, Bool.or_eq_true, decide_eq_true_eq, Bool.not_eq_true', not_and, Bool.not_eq_false] at hnc
        rw [← at'_bool (by omega) (by have := hs.1; omega)]
        exact hnc (hor.imp id fun h => (at'_bool (by omega) (by have := hs.1; omega)).2 h)
end Go.Wt
namespace Go.Wt
open Go Go.Gw
def lookI (es : Es) : Int := if badB es then 1 else 0
theorem lookI_yes {es : Es} (h : badB es = true) : lookI es = 1 := by simp [lookI, h]
theorem lookI_no {es : Es} (h : badB es = false) : lookI es = 0 := by simp [lookI, h]
theorem badB_long {es : Es} (h : 256 < (es.length : Int)) : badB es = true := by simp [badB]; left; omega
theorem badB_at {es : Es} {k : Nat} (hk : k < es.length) (h : badE (at' es (k : Int)) = true) : badB es = true := by
  rw [at'_nat hk] at h
  simp only [badB, Bool.or_eq_true]
  exact .inr (List.any_eq_true.2 ⟨_, List.getElem_mem hk, h⟩)
theorem badB_none {es : Es} (hl : ¬ 256 < (es.length : Int)) (h : ∀ j (hj : j < es.length), badE es[j] = false) : badB es = false := by
  simp only [badB, Bool.or_eq_false_iff, decide_eq_false_iff_not]
  refine ⟨hl, List.any_eq_false.2 fun x hx => ?_⟩
  obtain ⟨i, hi, rfl⟩ := List.mem_iff_getElem.1 hx
  simp [h i hi]
theorem leads_at' {es : Es} {s : Int} {t : Int} (h0 : 0 ≤ t) (h1 : t < 17) : at' (leadsOf es s) t = (at' (closedOf (rowsOf es)) s).testBit t.toNat := by
  have h2 : (leadsOf es s).length = 17 := by simp [leadsOf]
  have h3 := at'_some (xs := leadsOf es s) (i := t) (by omega) h0
  have h4 : (leadsOf es s)[t.toNat]? = some ((at' (closedOf (rowsOf es)) s).testBit t.toNat) := by
    simp [leadsOf, show t.toNat < 17 from by omega]
  rw [h3] at h4; exact Option.some.inj h4
theorem caughtTo_succ (r : List Nat) (n : Nat) : caughtTo r (n + 1) = if (at' (closedOf r) (n : Int)).testBit n && decide (0 < (n : Int)) then caughtTo r n ++ [(n : Int)] else caughtTo r n := rfl
theorem caughtTo_one (r : List Nat) : caughtTo r 1 = [] := by rw [caughtTo_succ]; simp [caughtTo]
/-- The youngest so far, and when it was born. -/
def vicStep (born : List Int) (st : Int × Int) (s : Int) : Int × Int :=
  let b := if s < born.length then at' born s else 0
  if st.1 = 0 ∨ st.2 ≤ b then (s, b) else st
def vicTo (born : List Int) (l : List Int) (k : Nat) : Int × Int := (l.take k).foldl (vicStep born) (0, 0)
theorem vicTo_succ {born l : List Int} {k : Nat} (hk : k < l.length) : vicTo born l (k + 1) = vicStep born (vicTo born l k) (at' l (k : Int)) := by
  unfold vicTo
  rw [List.take_succ_eq_append_getElem hk, List.foldl_append, at'_nat hk]; rfl
def victimOf (r : List Nat) (born : List Int) : Int := (vicTo born (caughtOf r) (caughtOf r).length).1
theorem caughtTo_range (r : List Nat) : ∀ n, ∀ s ∈ caughtTo r n, 1 ≤ s ∧ s < n
  | 0, s, h => by simp [caughtTo] at h
  | n + 1, s, h => by
    rw [caughtTo_succ] at h
    split at h
    · rename_i hc
      simp only [Bool.and_eq_true, decide_eq_true_eq] at hc
      rcases List.mem_append.1 h with h | h
      · have := caughtTo_range r n s h; omega
      · rw [List.mem_singleton] at h; omega
    · have := caughtTo_range r n s h; omega
theorem caught_at {r : List Nat} {k : Nat} (hk : k < (caughtOf r).length) : 1 ≤ at' (caughtOf r) (k : Int) ∧ at' (caughtOf r) (k : Int) < 17 := by
  rw [at'_nat hk]; exact caughtTo_range r 17 _ (List.getElem_mem _)
end Go.Wt
