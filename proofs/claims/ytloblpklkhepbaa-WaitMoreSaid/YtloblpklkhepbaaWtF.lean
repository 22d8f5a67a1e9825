/- Who waits for whom in a ring: those caught depend on what is reached alone. -/
import Derived.Test.YtloblpklkhepbaaWtE
namespace Go.Wt
open Go Go.Gw
set_option linter.unusedVariables false
set_option linter.unusedSimpArgs false
def caughtL (es : Es) : List Int := if badB es then [] else caughtOf (rowsOf es)
theorem mem_caughtTo {es : Es} (ho : okE es) {x : Int} : ∀ n, n ≤ 17 → (x ∈ caughtTo (rowsOf es) n ↔ 1 ≤ x ∧ x < (n : Int) ∧ Reach es x x)
  | 0, _ => by simp [caughtTo]; omega
  | n + 1, hn => by
    have ih := mem_caughtTo ho (x := x) n (by omega)
    rw [caughtTo_succ]
    by_cases h0 : (n : Int) < 1
    · obtain rfl : n = 0 := by omega
      simp [caughtTo]; omega
    · have hb := closed_reach ho (s := (n : Int)) (t := (n : Int)) (by omega) (by omega) (by omega)
      simp only [Int.toNat_natCast] at hb
      by_cases hc : Reach es (n : Int) n
      · rw [if_pos (by rw [hb.2 hc]; simp; omega), List.mem_append, ih, List.mem_singleton]
        constructor
        · rintro (h | rfl)
          · exact ⟨h.1, by omega, h.2.2⟩
          · exact ⟨by omega, by omega, hc⟩
        · rintro ⟨h1, h2, h3⟩
          by_cases e : x = n
          · exact .inr e
          · exact .inl ⟨h1, by omega, h3⟩
      · rw [if_neg (by rw [Bool.and_eq_true]; rintro ⟨h, _⟩; exact hc (hb.1 h)), ih]
        constructor
        · rintro ⟨h1, h2, h3⟩; exact ⟨h1, by omega, h3⟩
        · rintro ⟨h1, h2, h3⟩
          have : x ≠ n := fun e => hc (e ▸ h3)
          exact ⟨h1, by omega, h3⟩
theorem mem_caught {es : Es} (ho : okE es) {x : Int} : x ∈ caughtOf (rowsOf es) ↔ Reach es x x := by
  rw [show caughtOf (rowsOf es) = caughtTo (rowsOf es) 17 from rfl, mem_caughtTo ho 17 (by omega)]
  constructor
  · exact fun h => h.2.2
  · intro h
    have := reach_in ho h
    exact ⟨by omega, by omega, h⟩
theorem Reach.mono {es es' : Es} (h : ∀ e ∈ es, e ∈ es') {a b : Int} (hr : Reach es a b) : Reach es' a b := by
  induction hr with
  | one h1 => exact .one (h _ h1)
  | more _ h1 ih => exact .more ih (h _ h1)
theorem caught_congr {es es' : Es} (ho : okE es) (ho' : okE es') (h : ∀ e, e ∈ es ↔ e ∈ es') : caughtOf (rowsOf es) = caughtOf (rowsOf es') := by
  have hr : ∀ a b, Reach es a b ↔ Reach es' a b := fun a b => ⟨Reach.mono fun e he => (h e).1 he, Reach.mono fun e he => (h e).2 he⟩
  have key : ∀ n, n ≤ 17 → caughtTo (rowsOf es) n = caughtTo (rowsOf es') n := by
    intro n
    induction n with
    | zero => intro _; rfl
    | succ n ih =>
      intro hn
      rw [caughtTo_succ, caughtTo_succ, ih (by omega)]
      by_cases h0 : (n : Int) < 1
      · obtain rfl : n = 0 := by omega
        simp
      · have e1 := closed_reach ho (s := (n : Int)) (t := (n : Int)) (by omega) (by omega) (by omega)
        have e2 := closed_reach ho' (s := (n : Int)) (t := (n : Int)) (by omega) (by omega) (by omega)
        simp only [Int.toNat_natCast] at e1 e2
        have : (at' (closedOf (rowsOf es)) (n : Int)).testBit n = (at' (closedOf (rowsOf es')) (n : Int)).testBit n := by
          rw [Bool.eq_iff_iff, e1, e2, hr]
        rw [this]
  exact key 17 (by omega)
theorem badB_any {es : Es} (hl : es.length ≤ 256) : badB es = es.any badE := by
  rw [badB, decide_eq_false (by omega), Bool.false_or]
theorem any_congr {es es' : Es} (h : ∀ e, e ∈ es ↔ e ∈ es') : es.any badE = es'.any badE := by
  rw [Bool.eq_iff_iff, List.any_eq_true, List.any_eq_true]
  exact ⟨fun ⟨x, h1, h2⟩ => ⟨x, (h x).1 h1, h2⟩, fun ⟨x, h1, h2⟩ => ⟨x, (h x).2 h1, h2⟩⟩
/-- Each edge twice, from the last one on. -/
def twiceTo (es : Es) : Nat → Es
  | 0 => []
  | k + 1 => twiceTo es k ++ [at' es ((es.length : Int) - 1 - k), at' es ((es.length : Int) - 1 - k)]
theorem twice_len (es : Es) : ∀ k, (twiceTo es k).length = 2 * k
  | 0 => rfl
  | k + 1 => by simp [twiceTo, twice_len es k]; omega
theorem mem_twice (es : Es) (e : Int × Int) : ∀ k, k ≤ es.length → (e ∈ twiceTo es k ↔ e ∈ es.drop (es.length - k))
  | 0, _ => by simp [twiceTo]
  | k + 1, hk => by
    have hlt : es.length - (k + 1) < es.length := by omega
    rw [twiceTo, List.mem_append, mem_twice es e k (by omega), List.drop_eq_getElem_cons hlt, List.mem_cons, show es.length - (k + 1) + 1 = es.length - k from by omega]
    rw [show (es.length : Int) - 1 - k = ((es.length - (k + 1) : Nat) : Int) from by omega, at'_nat hlt]
    simp [or_comm]
theorem mem_twice_all (es : Es) (e : Int × Int) : e ∈ es ↔ e ∈ twiceTo es es.length := by
  rw [mem_twice es e _ (Nat.le_refl _), Nat.sub_self, List.drop_zero]
theorem lookI_eq (es : Es) : lookI es = if badB es then 1 else 0 := rfl
theorem lookI_nz {es : Es} (h : ¬ lookI es = 0) : badB es = true := by
  cases hb : badB es with
  | true => rfl
  | false => exact absurd (lookI_no hb) h
theorem lookI_z {es : Es} (h : lookI es = 0) : badB es = false := by
  cases hb : badB es with
  | false => rfl
  | true => rw [lookI_yes hb] at h; cases h
theorem look_twice {es : Es} (hl : es.length ≤ 120) : lookI (twiceTo es es.length) = lookI es := by
  have h2 := twice_len es es.length
  rw [lookI_eq, lookI_eq, badB_any (by omega), badB_any (by omega), ← any_congr (mem_twice_all es)]
theorem caughtL_twice {es : Es} (hl : es.length ≤ 120) : caughtL (twiceTo es es.length) = caughtL es := by
  have h2 := twice_len es es.length
  have h1 : badB (twiceTo es es.length) = badB es := by rw [badB_any (by omega), badB_any (by omega), ← any_congr (mem_twice_all es)]
  unfold caughtL
  rw [h1]
  split
  · rfl
  · rename_i hb
    have hb' : badB es = false := by simpa using hb
    exact (caught_congr (okE_of hb') (okE_of (h1.trans hb')) (mem_twice_all es)).symm
theorem badB_more {es more : Es} (hl : es.length + more.length ≤ 120) (h : badB es = true) : badB (es ++ more) = true := by
  rw [badB_any (by simp; omega), List.any_append, ← badB_any (by omega), h]; rfl
theorem caught_more {es more : Es} (h : badB (es ++ more) = false) (h0 : badB es = false) {x : Int} (hx : x ∈ caughtL es) : x ∈ caughtL (es ++ more) := by
  rw [caughtL, h0] at hx; rw [caughtL, h]
  simp only [Bool.false_eq_true, if_false] at hx ⊢
  exact (mem_caught (okE_of h)).2 (((mem_caught (okE_of h0)).1 hx).mono fun e he => List.mem_append_left _ he)
theorem ring_isB {es : Es} {s : Int} {l : List Int} (h : RingOk es s l) : isRingB es l = true ∧ at' l 0 = s ∧ 0 < l.length := by
  obtain ⟨h1, h2, h3⟩ := h
  have hl : 0 < l.length := by
    cases l with
    | nil => cases h1
    | cons a l => simp
  refine ⟨?_, ?_, hl⟩
  · rw [ringB_yes ?_]
    · simp; omega
    · intro k hk
      rw [ringAt, Bool.and_eq_true, List.any_eq_true, List.all_eq_true]
      refine ⟨⟨_, h3 k hk, by simp⟩, ?_⟩
      intro x hx
      rw [decide_eq_true_eq]
      rintro rfl
      rw [List.mem_take_iff_getElem] at hx
      obtain ⟨i, hi, e⟩ := hx
      rw [at'_nat hk] at e
      exact List.pairwise_iff_getElem.1 h2 i k (by omega) hk (by omega) e
  · cases l with
    | nil => cases h1
    | cons a l =>
      have : a = s := by simpa using h1
      subst this; rfl
def RingCode (es : Es) (s : Int) : Int := if badB es || outB s then 1 else 0
def RingAll (es : Es) (s : Int) (l : List Int) : Prop := if badB es || outB s then l = [] else RingSays es s l
end Go.Wt
