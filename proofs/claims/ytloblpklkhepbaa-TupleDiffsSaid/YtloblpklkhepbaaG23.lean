/- Typed walks: memory that is written over, of which is known only that numbers stay numbers, and slices of numbers stay such. Over any program. -/
import Derived.Test.YtloblpklkhepbaaG19
namespace Go.Gw
open Go
set_option linter.unusedVariables false
set_option linter.unusedSimpArgs false
def SlC (w : World) (b k : Nat) (u : Value) : Prop := ∃ cur e, w.heap[b]? = some (.cells cur e (0, 0)) ∧ cur[k]? = some u
def IntC (w : World) (b k : Nat) : Prop := ∃ n, SlC w b k (.int .i64 n)
/-- A slice of at most m numbers, in a block of D. -/
def OkIn (D : Nat → Prop) (m : Nat) (w : World) (u : Value) : Prop := ∃ A len c, u = .slice A len c ∧ len ≤ c ∧ len ≤ m ∧ (0 < c → ∃ b o, A = some ⟨b, o, none⟩ ∧ D b ∧ ∀ k, k < c → IntC w b (o + k))
def Mon (D : Nat → Prop) (q : Nat) (w w' : World) : Prop := (∀ b k, IntC w b k → IntC w' b k) ∧ ∀ b k u m, SlC w b k u → OkIn D m w u → ∃ u', SlC w' b k u' ∧ OkIn D (m + q) w' u'
/-- What is not of D stays. -/
structure Fr (D : Nat → Prop) (w w' : World) : Prop where
  os : w'.os = w.os
  tape : w'.tape = w.tape
  output : w'.output = w.output
  size : w.heap.size ≤ w'.heap.size
  keep : ∀ k, k < w.heap.size → ¬ D k → w'.heap[k]? = w.heap[k]?
section
variable {D : Nat → Prop} {w w' w'' : World}
theorem Fr.refl : Fr D w w := ⟨rfl, rfl, rfl, Nat.le_refl _, fun _ _ _ => rfl⟩
theorem Fr.trans (h : Fr D w w') (h' : Fr D w' w'') : Fr D w w'' := ⟨h'.os.trans h.os, h'.tape.trans h.tape, h'.output.trans h.output, Nat.le_trans h.size h'.size, fun k hk hd => (h'.keep k (Nat.lt_of_lt_of_le hk h.size) hd).trans (h.keep k hk hd)⟩
theorem OkIn.mono {m m' : Nat} {u : Value} (h : OkIn D m w u) (hi : ∀ b k, IntC w b k → IntC w' b k) (hm : m ≤ m') : OkIn D m' w' u :=
  let ⟨A, l, c, e, h1, h2, h3⟩ := h
  ⟨A, l, c, e, h1, Nat.le_trans h2 hm, fun hc => let ⟨b, o, e1, d1, i1⟩ := h3 hc; ⟨b, o, e1, d1, fun k hk => hi _ _ (i1 k hk)⟩⟩
theorem Mon.refl : Mon D 0 w w := ⟨fun _ _ h => h, fun b k u m h1 h2 => ⟨u, h1, h2⟩⟩
theorem Mon.trans {q q' : Nat} (h : Mon D q w w') (h' : Mon D q' w' w'') : Mon D (q + q') w w'' := ⟨fun b k hi => h'.1 b k (h.1 b k hi), fun b k u m h1 h2 => by
  obtain ⟨u', h3, h4⟩ := h.2 b k u m h1 h2
  obtain ⟨u'', h5, h6⟩ := h'.2 b k u' _ h3 h4
  exact ⟨u'', h5, by rw [← Nat.add_assoc]; exact h6⟩⟩
theorem slc_uniq {b k : Nat} {u v : Value} (h : SlC w b k u) (h' : SlC w b k v) : u = v := by
  obtain ⟨cur, e, h1, h2⟩ := h
  obtain ⟨cur', e', h3, h4⟩ := h'
  rw [h1] at h3; injection h3 with h3; injection h3 with h3 _ _
  subst h3
  rw [h2] at h4; exact Option.some.inj h4
/-! ### one cell is written -/
theorem slc_at {b k : Nat} {cur : Array Value} {e : TypeId} {v : Value} (hb : w.heap[b]? = some (.cells cur e (0, 0))) (hk : k < cur.size) : SlC (w.setRow b (cur.setIfInBounds k v)) b k v :=
  ⟨_, e, setRow_heap w b cur _ e _ hb, by simp [hk]⟩
theorem slc_other {b k b' k' : Nat} {cur : Array Value} {e : TypeId} {u v : Value} (hb : w.heap[b]? = some (.cells cur e (0, 0))) (hne : ¬ (b' = b ∧ k' = k)) (h : SlC w b' k' u) : SlC (w.setRow b (cur.setIfInBounds k v)) b' k' u := by
  obtain ⟨cur', e', h1, h2⟩ := h
  by_cases hbb : b' = b
  · subst hbb
    rw [hb] at h1; injection h1 with h1; injection h1 with h1 _ _; subst h1
    refine ⟨_, e, setRow_heap w b' cur _ e _ hb, ?_⟩
    rw [Array.getElem?_setIfInBounds, if_neg (fun e => hne ⟨rfl, e.symm⟩)]; exact h2
  · exact ⟨cur', e', (setRow_other w b b' _ hbb).trans h1, h2⟩
theorem fr_set {b : Nat} {cs : Array Value} (hd : D b) : Fr D w (w.setRow b cs) := ⟨rfl, rfl, rfl, by simp [World.setRow], fun k _ hk => setRow_other w b k _ (fun e => hk (e ▸ hd))⟩
/-- A number is written over a number. -/
theorem mon_int {b k : Nat} {cur : Array Value} {e : TypeId} {n : Int} (hb : w.heap[b]? = some (.cells cur e (0, 0))) (hi : IntC w b k) :
    Mon D 0 w (w.setRow b (cur.setIfInBounds k (.int .i64 n))) ∧ ∀ b' k' A l c, SlC w b' k' (.slice A l c) → SlC (w.setRow b (cur.setIfInBounds k (.int .i64 n))) b' k' (.slice A l c) := by
  obtain ⟨n0, hi⟩ := hi
  have hk : k < cur.size := by
    obtain ⟨cur', e', h1, h2⟩ := hi
    rw [hb] at h1; injection h1 with h1; injection h1 with h1 _ _; subst h1
    exact (Array.getElem?_eq_some_iff.1 h2).1
  have hsl : ∀ b' k' A l c, SlC w b' k' (.slice A l c) → SlC (w.setRow b (cur.setIfInBounds k (.int .i64 n))) b' k' (.slice A l c) := fun b' k' A l c h =>
    slc_other hb (fun e => by obtain ⟨rfl, rfl⟩ := e; have := slc_uniq h hi; cases this) h
  have hint : ∀ b' k', IntC w b' k' → IntC (w.setRow b (cur.setIfInBounds k (.int .i64 n))) b' k' := fun b' k' ⟨n', h⟩ => by
    by_cases hc : b' = b ∧ k' = k
    · obtain ⟨rfl, rfl⟩ := hc; exact ⟨n, slc_at hb hk⟩
    · exact ⟨n', slc_other hb hc h⟩
  refine ⟨⟨hint, fun b' k' u m h1 h2 => ?_⟩, hsl⟩
  have h3 := h2
  obtain ⟨A, l, c, rfl, _⟩ := h2
  exact ⟨_, hsl _ _ _ _ _ h1, h3.mono hint (Nat.le_refl _)⟩
/-- A slice is written over the slice that it grew from. -/
theorem mon_sl {b k : Nat} {cur : Array Value} {e : TypeId} {A A' : Option Addr} {l c l' c' : Nat} (hb : w.heap[b]? = some (.cells cur e (0, 0))) (hs : SlC w b k (.slice A l c)) (hg : ∀ m, OkIn D m w (.slice A l c) → OkIn D (m + 1) w (.slice A' l' c')) :
    Mon D 1 w (w.setRow b (cur.setIfInBounds k (.slice A' l' c'))) := by
  have hk : k < cur.size := by
    obtain ⟨cur', e', h1, h2⟩ := hs
    rw [hb] at h1; injection h1 with h1; injection h1 with h1 _ _; subst h1
    exact (Array.getElem?_eq_some_iff.1 h2).1
  have hint : ∀ b' k', IntC w b' k' → IntC (w.setRow b (cur.setIfInBounds k (.slice A' l' c'))) b' k' := fun b' k' ⟨n', h⟩ =>
    ⟨n', slc_other hb (fun e => by obtain ⟨rfl, rfl⟩ := e; have := slc_uniq h hs; cases this) h⟩
  refine ⟨hint, fun b' k' u m h1 h2 => ?_⟩
  by_cases hc : b' = b ∧ k' = k
  · obtain ⟨rfl, rfl⟩ := hc
    have := slc_uniq h1 hs
    subst this
    exact ⟨_, slc_at hb hk, (hg m h2).mono hint (Nat.le_refl _)⟩
  · exact ⟨u, slc_other hb hc h1, h2.mono hint (Nat.le_succ _)⟩
theorem slc_alloc {o : Obj} {b k : Nat} {u : Value} (h : SlC w b k u) (w2 : World) (h2 : w2.heap = w.heap) : SlC (w2.alloc o) b k u := by
  obtain ⟨cur, e, h1, h3⟩ := h
  have hlt : b < w.heap.size := (Array.getElem?_eq_some_iff.1 h1).1
  refine ⟨cur, e, ?_, h3⟩
  simp only [World.alloc, h2, Array.getElem?_push, Nat.ne_of_lt hlt, if_false]; exact h1
theorem mon_alloc {o : Obj} (w2 : World) (h2 : w2.heap = w.heap) : Mon D 0 w (w2.alloc o) := by
  have hint : ∀ b k, IntC w b k → IntC (w2.alloc o) b k := fun b k ⟨n, h⟩ => ⟨n, slc_alloc h w2 h2⟩
  exact ⟨hint, fun b k u m h1 h3 => ⟨u, slc_alloc h1 w2 h2, h3.mono hint (Nat.le_refl _)⟩⟩
theorem fr_alloc {o : Obj} (w2 : World) (h2 : w2.heap = w.heap) (h3 : w2.os = w.os) (h4 : w2.tape = w.tape) (h5 : w2.output = w.output) : Fr D w (w2.alloc o) :=
  ⟨h3, h4, h5, by simp [World.alloc, h2], fun k hk _ => by simp only [World.alloc, h2, Array.getElem?_push, Nat.ne_of_lt hk, if_false]⟩
/-! ### one number is appended -/
theorem arr_set {cur : Array Value} {k : Nat} {v : Value} (h : k < cur.size) : (cur.toList.take k ++ [v] ++ cur.toList.drop (k + 1)).toArray = cur.setIfInBounds k v := by
  apply Array.ext'
  rw [Array.toList_setIfInBounds, List.set_eq_take_append_cons_drop, if_pos (by simpa using h)]; simp
theorem run_append_one {P : Program} {t ty e : TypeId} {i : TypeInfo} {z : Value} (ht : P.underlying t = some (.slice e)) (hi : P.info? e = some i) (hz : i.zero = some z) (hsz : i.size = 1) (hby : i.bytes = 8) (hz0 : z.cells = #[.int .i64 0])
    {m g : Nat} {x : Int} {A : Option Addr} {len c : Nat} (hu : OkIn D m w (.slice A len c)) (hm : m ≤ 1000000) (hx : SlC w g 0 (.int .i64 x)) (hD : ∀ k, w.heap.size ≤ k → D k) :
    ∃ A' l' c' w', (Builtin.append_ #[t, t] ty #[.slice A len c, .slice (some ⟨g, 0, none⟩) 1 1]).run P w = .ok (.slice A' l' c') w' ∧ Fr D w w' ∧ Mon D 0 w w' ∧ (∀ m, OkIn D m w (.slice A len c) → OkIn D (m + 1) w' (.slice A' l' c')) ∧
      (∀ b' k' A l c, SlC w b' k' (.slice A l c) → SlC w' b' k' (.slice A l c)) := by
  obtain ⟨A0, len0, c0, e0, h1, h2, h3⟩ := hu
  cases e0
  have hnews : ∀ j u, [Value.int .i64 x][j]? = some u → w.cell? ((⟨g, 0, none⟩ : Addr).add j) = some u := fun j u hj => by
    cases j with
    | succ j => simp at hj
    | zero =>
      obtain ⟨cur, e', h4, h5⟩ := hx
      have : u = .int .i64 x := by simpa using hj.symm
      subst this
      rw [add_plain, cell_of_cells h4]; simpa using h5
  by_cases hc : len + 1 ≤ c
  · obtain ⟨b, o, rfl, hDb, hint⟩ := h3 (by omega)
    obtain ⟨n0, hs⟩ := hint len (by omega)
    have hs' := hs
    obtain ⟨cur, e', hb, hcur⟩ := hs
    have hlt : o + len < cur.size := (Array.getElem?_eq_some_iff.1 hcur).1
    have hf := run_firstCells_some (P := P) w 1 1 ⟨g, 0, none⟩ 1 1 [.int .i64 x] rfl hnews
    have hst := run_storeCells_at P b (o + len) e' [.int .i64 x] 0 cur w hb (by simp; omega) (by simp [Value.oneCell'])
    simp only [Nat.add_zero, List.length_singleton] at hst
    rw [arr_set hlt] at hst
    have hm2 := mon_int (D := D) (n := x) hb ⟨n0, hs'⟩
    refine ⟨some ⟨b, o, none⟩, len + 1, c, _, ?_, fr_set hDb, hm2.1, fun m' h => ?_, hm2.2⟩
    · simp [Builtin.append_, run_underlying ht, sizeOf, typeInfo, hi, hsz, Builtin.lenOf, hc, hf, add_plain, hst]
    · obtain ⟨A1, len1, c1, e1, h6, h7, h8⟩ := h
      cases e1
      exact ⟨_, _, _, rfl, hc, by omega, fun h0 => let ⟨b1, o1, e2, d2, i2⟩ := h8 h0; ⟨b1, o1, e2, d2, fun k hk => hm2.1.1 _ _ (i2 k hk)⟩⟩
  · have hcl : c = len := by omega
    subst hcl
    have hcells : ∃ olds : List Value, olds.length = c ∧ (∀ u ∈ olds, ∃ n, u = .int .i64 n) ∧ (Builtin.append_ #[t, t] ty #[.slice A c c, .slice (some ⟨g, 0, none⟩) 1 1]).run P w =
        .ok (.slice (some ⟨w.heap.size, 0, none⟩) (c + 1) (grownCap w (c + 1) c e)) (w.drew.alloc (.cells (olds.toArray ++ [Value.int .i64 x].toArray ++ Builtin.zeroCells z.cells (grownCap w (c + 1) c e - (c + 1))) e)) := by
      have hfit : Builtin.nextslicecap (c + 1) c * i.bytes ≤ 281474976710656 := growslice_fits (by omega) (by rw [hby]; omega)
      cases A with
      | none =>
        have h0 : c = 0 := by
          rcases Nat.eq_zero_or_pos c with h | h
          · exact h
          · obtain ⟨b, o, e1, _⟩ := h3 h; cases e1
        subst h0
        refine ⟨[], rfl, fun u hu => (by cases hu), ?_⟩
        have := run_append_nil (P := P) w t ty e i z ht hi hz ⟨g, 0, none⟩ 1 1 [.int .i64 x] (by simp [hsz]) hnews (by omega) (by omega) (by rw [hby]; omega)
        simpa using this
      | some p =>
        have hold : ∃ olds : List Value, olds.length = c ∧ (∀ u ∈ olds, ∃ n, u = .int .i64 n) ∧ ∀ j v, olds[j]? = some v → w.cell? (p.add j) = some v := by
          rcases Nat.eq_zero_or_pos c with h | h
          · subst h; exact ⟨[], rfl, fun u hu => (by cases hu), fun j v hj => by simp at hj⟩
          · obtain ⟨b, o, e1, _, hint⟩ := h3 h
            cases e1
            obtain ⟨n0, cur, e', hb, _⟩ := hint 0 h
            have hall : ∀ k, k < c → ∃ n, cur[o + k]? = some (.int .i64 n) := fun k hk => by
              obtain ⟨n, cur', e'', hb', hk'⟩ := hint k hk
              rw [hb] at hb'; injection hb' with hb'; injection hb' with hb' _ _; subst hb'
              exact ⟨n, hk'⟩
            refine ⟨(List.range c).map fun k => (cur[o + k]?).getD undef, by simp, fun u hu => ?_, fun j v hj => ?_⟩
            · obtain ⟨k, hk, rfl⟩ := List.mem_map.1 hu
              obtain ⟨n, hn⟩ := hall k (List.mem_range.1 hk)
              exact ⟨n, by rw [hn]; rfl⟩
            · have hjl : j < c := by
                have := (List.getElem?_eq_some_iff.1 hj).1; simpa using this
              obtain ⟨n, hn⟩ := hall j hjl
              rw [List.getElem?_map, List.getElem?_range hjl] at hj
              simp only [Option.map_some, hn, Option.getD_some] at hj
              rw [add_plain, cell_of_cells hb, hn]; exact hj
        obtain ⟨olds, ho1, ho2, ho3⟩ := hold
        exact ⟨olds, ho1, ho2, run_append_grow (P := P) w t ty e i z ht hi hz p c c olds (by rw [hsz]; omega) ho3 ⟨g, 0, none⟩ 1 1 [.int .i64 x] (by simp [hsz]) hnews (by omega) (by omega) hfit⟩
    obtain ⟨olds, ho1, ho2, hrun⟩ := hcells
    have hge := grownCap_ge w (c + 1) c e
    refine ⟨_, _, _, _, hrun, fr_alloc w.drew rfl rfl rfl rfl, mon_alloc w.drew rfl, fun m' h => ?_, fun b' k' A l c h => slc_alloc h w.drew rfl⟩
    obtain ⟨A1, len1, c1, e1, h6, h7, _⟩ := h
    cases e1
    refine ⟨_, _, _, rfl, hge, by omega, fun _ => ⟨w.heap.size, 0, rfl, hD _ (Nat.le_refl _), fun k hk => ?_⟩⟩
    have hzc : ∀ n k, k < n → (Builtin.zeroCells z.cells n)[k]? = some (.int .i64 0) := fun n k hk => by
      rw [hz0]; simp [Builtin.zeroCells, hk, Nat.mod_one]
    rw [Nat.zero_add]
    have hcell : ∃ n, (olds.toArray ++ [Value.int .i64 x].toArray ++ Builtin.zeroCells z.cells (grownCap w (c + 1) c e - (c + 1)))[k]? = some (.int .i64 n) := by
      rcases Nat.lt_or_ge k c with h | h
      · have hk2 : k < olds.length := by omega
        obtain ⟨n, hn⟩ := ho2 _ (List.getElem_mem hk2)
        exact ⟨n, by rw [Array.getElem?_append_left (by simp; omega), Array.getElem?_append_left (by simp; omega), ← hn]; simp [hk2]⟩
      · rcases Nat.lt_or_ge k (c + 1) with h' | h'
        · have : k = c := by omega
          subst this
          exact ⟨x, by rw [Array.getElem?_append_left (by simp; omega), Array.getElem?_append_right (by simp; omega)]; simp [ho1]⟩
        · exact ⟨0, by rw [Array.getElem?_append_right (by simp; omega)]; simp only [Array.size_append, List.size_toArray, List.length_singleton, ho1]; exact hzc _ _ (by omega)⟩
    obtain ⟨n, hn⟩ := hcell
    exact ⟨n, _, e, heap_alloc_new w.drew _, hn⟩
end
end Go.Gw
