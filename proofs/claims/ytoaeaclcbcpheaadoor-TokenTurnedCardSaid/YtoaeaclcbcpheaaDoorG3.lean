/- Typed walks: kinds of data in memory; slices that are read; rows, variables that are owned. Over any program. -/
import Derived.Test.YtoaeaclcbcpheaaDoorG2
namespace Go.Gw
open Go
set_option linter.unusedVariables false

/-! ### 1. Kinds -/
def mkV (agg : Bool) (cs : List Value) : Value := if agg then .agg cs.toArray else cs.headD undef
structure Kd (α : Type) where
  sz : Nat
  agg : Bool
  K : FH → α → List Value → Prop
  T : α → Ty
  len : ∀ {H x cs}, K H x cs → cs.length = sz
  one : ∀ {H x cs}, K H x cs → ∀ u ∈ cs, u.oneCell' = true
  mono : ∀ {H H' : FH} {x cs}, Sub H H' → K H x cs → K H' x cs
  toT : ∀ {H x cs}, K H x cs → (T x).p H (mkV agg cs)
  ofT : ∀ {H x v}, (T x).p H v → ∃ cs, K H x cs ∧ v = mkV agg cs
  szone : agg = false → sz = 1

def scalar {α : Type} (enc : α → Value) (h1 : ∀ x, (enc x).oneCell' = true) : Kd α where
  sz := 1
  agg := false
  K := fun _ x cs => cs = [enc x]
  T := fun x => IsV (enc x)
  len := fun h => by rw [h]; rfl
  one := fun h u hu => by rw [h] at hu; rw [List.mem_singleton.1 hu]; exact h1 _
  mono := fun _ h => h
  toT := fun h => by rw [h]; rfl
  ofT := fun {H x v} h => ⟨[enc x], rfl, h⟩
  szone := fun _ => rfl
def kint (k : IntKind) : Kd Int := scalar (Value.int k) fun _ => rfl
def kbool : Kd Bool := scalar Value.bool fun _ => rfl
def kstr : Kd ByteArray := scalar Value.string fun _ => rfl
def kptr : Kd (Option Addr) := scalar Value.pointer fun _ => rfl

/-- A row of data as cells. -/
def Reps {α : Type} (d : Kd α) (H : FH) (xs : List α) (cs : List Value) : Prop :=
  cs.length = xs.length * d.sz ∧ ∀ j x, xs[j]? = some x → d.K H x ((cs.drop (j * d.sz)).take d.sz)
section
variable {α : Type} {d : Kd α} {H H' : FH} {xs ys : List α} {cs ds : List Value}
theorem Reps.nil : Reps d H [] [] := ⟨by simp, fun j x h => by simp at h⟩
theorem Reps.mono (h : Reps d H xs cs) (hs : Sub H H') : Reps d H' xs cs := ⟨h.1, fun j x e => d.mono hs (h.2 j x e)⟩
theorem Reps.append (h : Reps d H xs cs) (h' : Reps d H ys ds) : Reps d H (xs ++ ys) (cs ++ ds) := by
  refine ⟨by rw [List.length_append, h.1, h'.1, List.length_append, Nat.add_mul], fun j x e => ?_⟩
  rcases Nat.lt_or_ge j xs.length with hj | hj
  · rw [List.getElem?_append_left hj] at e
    have h1 : j * d.sz + d.sz ≤ cs.length := by rw [h.1, ← Nat.succ_mul]; exact Nat.mul_le_mul_right _ hj
    rw [List.drop_append_of_le_length (by omega), List.take_append_of_le_length (by rw [List.length_drop]; omega)]
    exact h.2 j x e
  · rw [List.getElem?_append_right hj] at e
    have h1 : j * d.sz = cs.length + (j - xs.length) * d.sz := by rw [h.1, ← Nat.add_mul]; congr 1; omega
    rw [h1, List.drop_length_add_append]
    exact h'.2 _ x e
theorem Reps.one {x : α} (h : d.K H x cs) : Reps d H [x] cs := ⟨by rw [d.len h]; simp, fun j y e => by
  have hj : j = 0 := by
    have := (List.getElem?_eq_some_iff.1 e).1
    simp at this; exact this
  subst hj
  have : x = y := by simpa using e
  subst this
  have := d.len h
  simp only [Nat.zero_mul, List.drop_zero]
  rw [List.take_of_length_le (by omega)]
  exact h⟩
theorem Reps.drop (h : Reps d H xs cs) (k : Nat) (hk : k ≤ xs.length) : Reps d H (xs.drop k) (cs.drop (k * d.sz)) := by
  refine ⟨by rw [List.length_drop, h.1, List.length_drop, Nat.sub_mul], fun j x e => ?_⟩
  rw [List.getElem?_drop] at e
  rw [List.drop_drop, ← Nat.add_mul]
  exact h.2 _ x e
theorem Reps.take (h : Reps d H xs cs) (k : Nat) (hk : k ≤ xs.length) : Reps d H (xs.take k) (cs.take (k * d.sz)) := by
  have hle : k * d.sz ≤ cs.length := by rw [h.1]; exact Nat.mul_le_mul_right _ hk
  refine ⟨by rw [List.length_take, List.length_take]; rw [Nat.min_eq_left hle, Nat.min_eq_left hk], fun j x e => ?_⟩
  rw [List.getElem?_take] at e
  by_cases hj : j < k
  · rw [if_pos hj] at e
    have h1 : j * d.sz + d.sz ≤ k * d.sz := by rw [← Nat.succ_mul]; exact Nat.mul_le_mul_right _ hj
    rw [List.drop_take, List.take_take, Nat.min_eq_left (by omega)]
    exact h.2 j x e
  · rw [if_neg hj] at e; cases e
theorem Reps.set (h : Reps d H xs cs) (k : Nat) (hk : k < xs.length) {y : α} {es : List Value} (hy : d.K H y es) : Reps d H (xs.set k y) (cs.take (k * d.sz) ++ es ++ cs.drop (k * d.sz + d.sz)) := by
  have h1 := (h.take k (by omega)).append (Reps.one hy)
  have h2 := h1.append (h.drop (k + 1) hk)
  have e1 : xs.take k ++ [y] ++ xs.drop (k + 1) = xs.set k y := by rw [List.set_eq_take_append_cons_drop]; simp [hk]
  rw [e1, Nat.add_mul, Nat.one_mul] at h2
  exact h2
theorem Reps.cells {d : Kd α} (h : Reps d H xs cs) : ∀ u ∈ cs, u.oneCell' = true := by
  intro u hu
  obtain ⟨i, hi, rfl⟩ := List.mem_iff_getElem.1 hu
  rcases Nat.eq_zero_or_pos d.sz with h0 | h0
  · rw [h.1, h0] at hi; simp at hi
  · have hlt : i / d.sz < xs.length := by rw [h.1] at hi; exact (Nat.div_lt_iff_lt_mul h0).2 hi
    have hk := h.2 (i / d.sz) _ (List.getElem?_eq_getElem hlt)
    have hm : i = i / d.sz * d.sz + i % d.sz := by rw [Nat.mul_comm]; exact (Nat.div_add_mod i d.sz).symm
    have hlt2 := Nat.mod_lt i h0
    have hg : ((cs.drop (i / d.sz * d.sz)).take d.sz)[i % d.sz]? = some cs[i] := by
      rw [List.getElem?_take, if_pos hlt2, List.getElem?_drop, ← hm, List.getElem?_eq_getElem hi]
    exact d.one hk _ (List.mem_of_getElem? hg)
end

/-- Cells that stand from an offset on. -/
def Stand (cells : Array Value) (off : Nat) (cs : List Value) : Prop := ∀ i u, cs[i]? = some u → cells[off + i]? = some u
theorem Stand.drop {cells : Array Value} {off : Nat} {cs : List Value} (h : Stand cells off cs) (k n : Nat) : Stand cells (off + k) ((cs.drop k).take n) := fun i u e => by
  rw [List.getElem?_take] at e
  by_cases hi : i < n
  · rw [if_pos hi, List.getElem?_drop] at e
    rw [Nat.add_assoc]; exact h _ _ e
  · rw [if_neg hi] at e; cases e

/-- A row of the frozen heap. -/
def Row {α : Type} (d : Kd α) (H : FH) (A : Option Addr) (xs : List α) : Prop :=
  0 < xs.length → ∃ ad cells e fr cs, A = some ad ∧ ad.spot = none ∧ H ad.block = some (.cells cells e fr) ∧ Reps d H xs cs ∧ Stand cells ad.off cs
theorem Row.mono {α : Type} {d : Kd α} {H H' : FH} {A : Option Addr} {xs : List α} (h : Row d H A xs) (hs : Sub H H') : Row d H' A xs := fun hn =>
  let ⟨ad, cells, e, fr, cs, h1, h2, h3, h4, h5⟩ := h hn; ⟨ad, cells, e, fr, cs, h1, h2, hs _ _ h3, h4.mono hs, h5⟩
/-- A slice that is read. -/
def SlT {α : Type} (d : Kd α) (xs : List α) : Ty := ⟨fun H v => ∃ A c, v = .slice A xs.length c ∧ xs.length ≤ c ∧ xs.length ≤ maxLen ∧ Row d H A xs, fun hs ⟨A, c, h1, h2, h3, h4⟩ => ⟨A, c, h1, h2, h3, h4.mono hs⟩⟩
def ksl {α : Type} (d : Kd α) : Kd (List α) where
  sz := 1
  agg := false
  K := fun H xs cs => ∃ v, cs = [v] ∧ (SlT d xs).p H v
  T := fun xs => SlT d xs
  len := by rintro H x cs ⟨v, rfl, _⟩; rfl
  one := by rintro H x cs ⟨v, rfl, A, c, rfl, _⟩ u hu; rw [List.mem_singleton.1 hu]; rfl
  mono := by rintro H H' x cs hs ⟨v, rfl, h⟩; exact ⟨v, rfl, (SlT d x).mono hs h⟩
  toT := by rintro H x cs ⟨v, rfl, h⟩; exact h
  ofT := fun {H x v} h => ⟨[v], ⟨v, rfl, h⟩, rfl⟩
  szone := fun _ => rfl
/-- An aggregate's value. -/
def AggT (K : FH → List Value → Prop) (mono : ∀ {H H' : FH} {cs : List Value}, Sub H H' → K H cs → K H' cs) : Ty := ⟨fun H v => ∃ cs, K H cs ∧ v = .agg cs.toArray, fun hs ⟨cs, h, e⟩ => ⟨cs, mono hs h, e⟩⟩
def kpair {α β : Type} (a : Kd α) (b : Kd β) : Kd (α × β) where
  sz := a.sz + b.sz
  agg := true
  K := fun H x cs => ∃ c1 c2, a.K H x.1 c1 ∧ b.K H x.2 c2 ∧ cs = c1 ++ c2
  T := fun x => AggT (fun H cs => ∃ c1 c2, a.K H x.1 c1 ∧ b.K H x.2 c2 ∧ cs = c1 ++ c2) (fun hs ⟨c1, c2, h1, h2, e⟩ => ⟨c1, c2, a.mono hs h1, b.mono hs h2, e⟩)
  len := by rintro H x cs ⟨c1, c2, h1, h2, rfl⟩; rw [List.length_append, a.len h1, b.len h2]
  one := by rintro H x cs ⟨c1, c2, h1, h2, rfl⟩ u hu; exact (List.mem_append.1 hu).elim (a.one h1 u) (b.one h2 u)
  mono := by rintro H H' x cs hs ⟨c1, c2, h1, h2, e⟩; exact ⟨c1, c2, a.mono hs h1, b.mono hs h2, e⟩
  toT := fun {H x cs} h => ⟨cs, h, rfl⟩
  ofT := fun {H x v} ⟨cs, h, e⟩ => ⟨cs, h, e⟩
  szone := fun h => by cases h
def kunit : Kd Unit where
  sz := 0
  agg := true
  K := fun _ _ cs => cs = []
  T := fun _ => AggT (fun _ cs => cs = []) (fun _ h => h)
  len := by rintro H x cs rfl; rfl
  one := by rintro H x cs rfl u hu; cases hu
  mono := fun _ h => h
  toT := fun {H x cs} h => ⟨cs, h, rfl⟩
  ofT := fun {H x v} ⟨cs, h, e⟩ => ⟨cs, h, e⟩
  szone := fun h => by cases h
def kiso {α β : Type} (a : Kd α) (f : β → α) : Kd β where
  sz := a.sz
  agg := a.agg
  K := fun H x cs => a.K H (f x) cs
  T := fun x => a.T (f x)
  len := a.len
  one := a.one
  mono := a.mono
  toT := a.toT
  ofT := a.ofT
  szone := a.szone
def karr {α : Type} (n : Nat) (d : Kd α) : Kd (List α) where
  sz := n * d.sz
  agg := true
  K := fun H xs cs => xs.length = n ∧ Reps d H xs cs
  T := fun xs => AggT (fun H cs => xs.length = n ∧ Reps d H xs cs) (fun hs ⟨h1, h2⟩ => ⟨h1, h2.mono hs⟩)
  len := by rintro H x cs ⟨rfl, h⟩; exact h.1
  one := by rintro H x cs ⟨rfl, h⟩; exact h.cells
  mono := by rintro H H' x cs hs ⟨h1, h2⟩; exact ⟨h1, h2.mono hs⟩
  toT := fun {H x cs} h => ⟨cs, h, rfl⟩
  ofT := fun {H x v} ⟨cs, h, e⟩ => ⟨cs, h, e⟩
  szone := fun h => by cases h

/-! ### 2. A part of a datum -/
/-- Cells from off on hold the part (get x); with other cells there the whole is (set x y). -/
structure Lens {α β : Type} (d : Kd α) (e : Kd β) (off : Nat) (x : α) (g : β) (set : β → α) : Prop where
  get : ∀ {H cs}, d.K H x cs → e.K H g ((cs.drop off).take e.sz)
  put : ∀ {H cs y es}, d.K H x cs → e.K H y es → d.K H (set y) (cs.take off ++ es ++ cs.drop (off + e.sz))
  fit : off + e.sz ≤ d.sz
theorem Lens.self {α : Type} {d : Kd α} {x : α} : Lens d d 0 x x (fun y => y) where
  get := fun {H cs} h => by simpa [d.len h, List.take_of_length_le (Nat.le_of_eq (d.len h))] using h
  put := fun {H cs y es} h h' => by
    rw [List.drop_of_length_le (by rw [d.len h]; omega)]; simpa using h'
  fit := by omega
theorem Lens.fst {α β : Type} {a : Kd α} {b : Kd β} {x : α × β} : Lens (kpair a b) a 0 x x.1 (fun y => (y, x.2)) where
  get := by
    rintro H cs ⟨c1, c2, h1, h2, rfl⟩
    simp only [List.drop_zero]
    rw [List.take_append_of_le_length (by rw [a.len h1]; exact Nat.le_refl _), List.take_of_length_le (by rw [a.len h1]; exact Nat.le_refl _)]
    exact h1
  put := by
    rintro H cs y es ⟨c1, c2, h1, h2, rfl⟩ h'
    refine ⟨es, c2, h', h2, ?_⟩
    rw [Nat.zero_add, ← a.len h1, List.drop_left]; simp
  fit := by simp [kpair]
theorem Lens.snd {α β : Type} {a : Kd α} {b : Kd β} {x : α × β} : Lens (kpair a b) b a.sz x x.2 (fun y => (x.1, y)) where
  get := by
    rintro H cs ⟨c1, c2, h1, h2, rfl⟩
    rw [← a.len h1, List.drop_left, List.take_of_length_le (by rw [b.len h2]; exact Nat.le_refl _)]
    exact h2
  put := by
    rintro H cs y es ⟨c1, c2, h1, h2, rfl⟩ h'
    refine ⟨c1, es, h1, h', ?_⟩
    rw [← a.len h1, List.take_left, List.drop_of_length_le (by rw [List.length_append, b.len h2]; exact Nat.le_refl _)]; simp
  fit := by simp [kpair]
theorem Lens.comp {α β γ : Type} {d : Kd α} {e : Kd β} {k : Kd γ} {o1 o2 : Nat} {x : α} {g : β} {g' : γ} {s1 : β → α} {s2 : γ → β} (h : Lens d e o1 x g s1) (h' : Lens e k o2 g g' s2) : Lens d k (o1 + o2) x g' (fun y => s1 (s2 y)) where
  get := fun {H cs} hk => by
    have h1 := h'.get (h.get hk)
    have hf := h'.fit
    rw [List.drop_take, List.drop_drop, List.take_take, Nat.min_eq_left (by omega)] at h1
    exact h1
  put := fun {H cs y es} hk hy => by
    have h1 := h.get hk
    have h2 := h.put hk (h'.put h1 hy)
    have hf := h'.fit
    have hl := d.len hk
    have hf1 := h.fit
    have he := k.len hy
    have e1 : cs.take (o1 + o2) ++ es ++ cs.drop (o1 + o2 + k.sz) = cs.take o1 ++ (((cs.drop o1).take e.sz).take o2 ++ es ++ ((cs.drop o1).take e.sz).drop (o2 + k.sz)) ++ cs.drop (o1 + e.sz) := by
      rw [List.take_take, Nat.min_eq_left (by omega), List.drop_take, List.drop_drop, List.take_add]
      simp only [List.append_assoc]
      congr 3
      have e2 : cs.drop (o1 + o2 + k.sz) = (cs.drop (o1 + o2 + k.sz)).take (e.sz - (o2 + k.sz)) ++ (cs.drop (o1 + o2 + k.sz)).drop (e.sz - (o2 + k.sz)) := (List.take_append_drop _ _).symm
      rw [e2, List.drop_drop]
      congr 2
      · rw [show o1 + (o2 + k.sz) = o1 + o2 + k.sz from by omega]
      · omega
    rw [e1]; exact h2
  fit := by have := h.fit; have := h'.fit; omega
theorem Lens.iso {α β γ : Type} {d : Kd α} {e : Kd β} {o : Nat} {f : γ → α} {x : γ} {g : β} {s : β → α} {s' : β → γ} (h : Lens d e o (f x) g s) (hs : ∀ y, f (s' y) = s y) : Lens (kiso d f) e o x g s' where
  get := h.get
  put := fun {H cs y es} hk hy => by show d.K H (f (s' y)) _; rw [hs]; exact h.put hk hy
  fit := h.fit
theorem Lens.iso_r {α β γ : Type} {d : Kd α} {e : Kd β} {o : Nat} {x : α} {f : γ → β} {z : γ} {s : β → α} (h : Lens d e o x (f z) s) : Lens d (kiso e f) o x z (fun y => s (f y)) where
  get := h.get
  put := h.put
  fit := h.fit
theorem Lens.at_ {α : Type} {d : Kd α} {n : Nat} {xs : List α} (i : Nat) {x : α} (hi : xs[i]? = some x) (hn : i < n) : Lens (karr n d) d (i * d.sz) xs x (fun y => xs.set i y) where
  get := fun {H cs} h => h.2.2 i x hi
  put := fun {H cs y es} h hy => ⟨by rw [List.length_set]; exact h.1, h.2.set i (List.getElem?_eq_some_iff.1 hi).1 hy⟩
  fit := by
    show i * d.sz + d.sz ≤ n * d.sz
    rw [← Nat.succ_mul]; exact Nat.mul_le_mul_right _ hn
def at' {α : Type} [Inhabited α] (xs : List α) (i : Int) : α := xs.getD i.toNat default
theorem at'_some {α : Type} [Inhabited α] {xs : List α} {i : Int} (h1 : i < xs.length) (h0 : 0 ≤ i) : xs[i.toNat]? = some (at' xs i) := by
  have : i.toNat < xs.length := by omega
  simp [at', List.getD_eq_getElem?_getD, List.getElem?_eq_getElem this]
theorem at'_nat {α : Type} [Inhabited α] {xs : List α} {k : Nat} (h : k < xs.length) : at' xs (k : Int) = xs[k] := by
  simp [at', List.getD_eq_getElem?_getD, h]

/-! ### 3. Types of the program -/
def tyOk (P : Program) (t : TypeId) (agg : Bool) (sz : Nat) : Bool := match P.underlying t, P.info? t with
  | some d, some i => ((match d with | .struct _ | .array _ _ => true | _ => false) == agg) && Nat.beq i.size sz
  | _, _ => false
theorem run_sizeOf {P : Program} {t : TypeId} {agg : Bool} {sz : Nat} (h : tyOk P t agg sz = true) (w : World) : (sizeOf t).run P w = .ok sz w := by
  unfold tyOk at h
  cases hu : P.underlying t with
  | none => rw [hu] at h; cases h
  | some d =>
    cases hi : P.info? t with
    | none => rw [hu, hi] at h; cases h
    | some i =>
      rw [hu, hi] at h
      simp only [Bool.and_eq_true] at h
      simp [sizeOf, typeInfo, hi, Nat.eq_of_beq_eq_true h.2]
theorem run_isAgg {P : Program} {t : TypeId} {agg : Bool} {sz : Nat} (h : tyOk P t agg sz = true) (w : World) : (isAgg t).run P w = .ok agg w := by
  unfold tyOk at h
  cases hu : P.underlying t with
  | none => rw [hu] at h; cases h
  | some d =>
    cases hi : P.info? t with
    | none => rw [hu, hi] at h; cases h
    | some i =>
      rw [hu, hi] at h
      simp only [Bool.and_eq_true, beq_iff_eq] at h
      have h1 := h.1
      unfold isAgg
      cases d <;> simp [run_underlying hu] <;> simpa using h1
theorem add_plain (g off k : Nat) : (⟨g, off, none⟩ : Addr).add k = ⟨g, off + k, none⟩ := by unfold Addr.add; split <;> simp_all
theorem Addr.plain {a : Addr} (h : a.spot = none) : a = ⟨a.block, a.off, none⟩ := by cases a; simp_all
theorem cell_of_cells {w : World} {g : Nat} {cells : Array Value} {e : TypeId} {fr : Nat × Nat} (h : w.heap[g]? = some (.cells cells e fr)) (off : Nat) : w.cell? ⟨g, off, none⟩ = cells[off]? := cell_of_row w g off cells e fr h
theorem run_loadVar {P : Program} {w : World} {t : TypeId} {agg : Bool} {cs : List Value} {g off : Nat} {cells : Array Value} {e : TypeId} {fr : Nat × Nat} (ht : tyOk P t agg cs.length = true) (h1 : agg = false → cs.length = 1) (hb : w.heap[g]? = some (.cells cells e fr)) (hs : Stand cells off cs) :
    (loadVar t ⟨g, off, none⟩).run P w = .ok (mkV agg cs) w := by
  unfold loadVar
  cases agg with
  | true =>
    have hl := run_loadCells_list (P := P) w ⟨g, off, none⟩ cs (fun j v e => by rw [add_plain, cell_of_cells hb]; exact hs j v e)
    simp [run_isAgg ht, run_sizeOf ht, hl, mkV]
  | false =>
    obtain ⟨u, rfl⟩ : ∃ u, cs = [u] := by
      match cs, h1 rfl with
      | [u], _ => exact ⟨u, rfl⟩
    have hc : w.cell? ⟨g, off, none⟩ = some u := by rw [cell_of_cells hb]; simpa using hs 0 u rfl
    simp [run_isAgg ht, mkV, hc]

/-! ### 4. Reading what is frozen -/
section
variable {C : Cx} {Γ : Env} {L : List It} {Q : Exit → Act → World → Prop} {ops : Array Oper} {rest : List Oper}
variable {dst : Option Tmp} {ty : TypeId} {pos : String} {after : Array Edge} {guard : Option (Nat × Bool)} {x y z : Operand}
variable {α β : Type} {d : Kd α} {e : Kd β}
/-- A pointer to a datum of the frozen heap. -/
def AtT (d : Kd α) (x : α) : Ty := ⟨fun H v => ∃ g off cells t fr cs, v = .pointer (some ⟨g, off, none⟩) ∧ H g = some (.cells cells t fr) ∧ d.K H x cs ∧ Stand cells off cs, fun hs ⟨g, off, cells, t, fr, cs, h1, h2, h3, h4⟩ => ⟨g, off, cells, t, fr, cs, h1, hs _ _ h2, d.mono hs h3, h4⟩⟩

theorem pu_len_sl {t el : TypeId} {xs : List α} (hx : OT C.N Γ x (SlT d xs)) (ht : C.P.underlying t = some (.slice el)) : Pure C Γ L ⟨dst, .call ⟨.builtin .len, #[x], #[t]⟩, ty, pos, after, guard⟩ (I64 xs.length) := fun a w H f s ow => by
  obtain ⟨A, c, h1, _⟩ := hx a H f
  exact ⟨_, by simp [execOp, resolve, invoke, builtin, Builtin.len_, h1, run_underlying ht, goInt], rfl⟩
theorem pu_index [Inhabited α] {t el : TypeId} {k : IntKind} {xs : List α} {i : Int} (hx : OT C.N Γ x (SlT d xs)) (hy : OT C.N Γ y (IntT k i)) (ht : C.P.underlying t = some (.slice el)) (he : tyOk C.P el d.agg d.sz = true) (h0 : 0 ≤ i) (h1 : i < xs.length) :
    Pure C Γ L ⟨dst, .indexAddr t x y, ty, pos, after, guard⟩ (AtT d (at' xs i)) := fun a w H f s ow => by
  obtain ⟨A, c, hv, _, _, hr⟩ := hx a H f
  have hi : a.eval y = .int k i := hy a H f
  obtain ⟨ad, cells, e, fr, cs, rfl, hsp, hb, hR, hS⟩ := hr (by omega)
  have hk := hR.2 i.toNat _ (at'_some h1 h0)
  have hc : 0 ≤ i ∧ i < (xs.length : Int) := ⟨h0, h1⟩
  rw [Addr.plain hsp] at hv
  refine ⟨.pointer (some ⟨ad.block, ad.off + i.toNat * d.sz, none⟩), ?_, ad.block, _, cells, e, fr, _, rfl, hb, hk, hS.drop _ _⟩
  simp [execOp, Instr.indexAt, hi, asIntOf, run_underlying ht, hv, h1, h0, run_sizeOf he, add_plain]
theorem pu_load {t : TypeId} {v : α} (hx : OT C.N Γ x (AtT d v)) (ht : tyOk C.P t d.agg d.sz = true) : Pure C Γ L ⟨dst, .load t x, ty, pos, after, guard⟩ (d.T v) := fun a w H f s ow => by
  obtain ⟨g, off, cells, t', fr, cs, hv, hb, hk, hS⟩ := hx a H f
  have hl := d.len hk
  refine ⟨mkV d.agg cs, ?_, d.toT hk⟩
  have := run_loadVar (P := C.P) (w := w) (t := t) (agg := d.agg) (cs := cs) (by rw [hl]; exact ht) (fun e => by rw [hl]; exact d.szone e) (s.on _ _ hb) hS
  simp [execOp, Instr.loadAt, Instr.sureAddr, hv, this]
end
end Go.Gw
