/- Typed walks: values put together, slices made and cut, fields. Over any program. -/
import Derived.Test.YtoaeaclcbcpheaaDoorG5
namespace Go.Gw
open Go
set_option linter.unusedVariables false
set_option linter.unusedSimpArgs false

/-! ### 1. Filling places -/
theorem foldl_cells : ∀ (vs : List Value) (off k : Nat) (cells : Array Value), off + k + vs.length ≤ cells.size →
    ((vs.zipIdx k).foldl (fun cs (p : Value × Nat) => cs.setIfInBounds (off + p.2) p.1) cells).toList = cells.toList.take (off + k) ++ vs ++ cells.toList.drop (off + k + vs.length)
  | [], off, k, cells, h => by simp
  | v :: vs, off, k, cells, h => by
    simp only [List.length_cons] at h
    rw [List.zipIdx_cons, List.foldl_cons, foldl_cells vs off (k + 1) _ (by simp; omega)]
    simp only [Array.toList_setIfInBounds, List.length_cons]
    apply List.ext_getElem?
    intro j
    have hcl : cells.toList.length = cells.size := by simp
    simp only [List.getElem?_append, List.getElem?_take, List.getElem?_drop, List.getElem?_set, List.length_append, List.length_take, List.length_set, List.length_cons, hcl]
    have m1 : min (off + (k + 1)) cells.size = off + k + 1 := by omega
    have m2 : min (off + k) cells.size = off + k := by omega
    simp only [m1, m2]
    by_cases c1 : j < off + k
    · simp [c1, show j < off + (k + 1) from by omega, show j < off + k + 1 from by omega, show ¬ off + k = j from by omega, show j < off + k + 1 + vs.length from by omega, show j < off + k + (vs.length + 1) from by omega]
    · by_cases c2 : j = off + k
      · subst c2
        simp [show off + k < off + (k + 1) from by omega, show off + k < cells.size from by omega, show off + k < off + k + 1 + vs.length from by omega, show off + k < off + k + (vs.length + 1) from by omega]
      · by_cases c3 : j < off + k + 1 + vs.length
        · have e1 : j - (off + k) = (j - (off + k + 1)) + 1 := by omega
          simp [c1, c3, show ¬ j < off + k + 1 from by omega, show j < off + k + (vs.length + 1) from by omega, e1]
        · simp [c1, c3, show ¬ j < off + k + 1 from by omega, show ¬ j < off + k + (vs.length + 1) from by omega]
          by_cases c4 : off + (k + 1) + vs.length + (j - (off + k + 1 + vs.length)) < cells.size
          · simp [show ¬ off + k = off + (k + 1) + vs.length + (j - (off + k + 1 + vs.length)) from by omega, show off + k + (vs.length + 1) + (j - (off + k + (vs.length + 1))) = off + (k + 1) + vs.length + (j - (off + k + 1 + vs.length)) from by omega]
          · simp [show ¬ off + k = off + (k + 1) + vs.length + (j - (off + k + 1 + vs.length)) from by omega, show off + k + (vs.length + 1) + (j - (off + k + (vs.length + 1))) = off + (k + 1) + vs.length + (j - (off + k + 1 + vs.length)) from by omega]

theorem zipIdx_toArr (es : List Value) : es.toArray.zipIdx = es.zipIdx.toArray := by
  apply Array.ext_getElem?
  intro i
  simp
section
variable {C : Cx} {Γ : Env} {L R : List It} {Q : Exit → Act → World → Prop} {ops : Array Oper} {rest : List Oper}
variable {dst : Option Tmp} {ty : TypeId} {pos : String} {after : Array Edge} {guard : Option (Nat × Bool)} {x y z : Operand}
variable {α β : Type} {d : Kd α} {e : Kd β}

/-- The parts, one behind the other, make y of x. -/
def Fills (N : Nat) (Γ : Env) (d : Kd α) (place : Nat → Option (Nat × Nat)) : α → List (Nat × Operand) → α → Prop
  | x, [], y => x = y
  | x, (i, p) :: parts, y => ∃ (β : Type) (e : Kd β) (off : Nat) (g : β) (set : β → α) (u : β), place i = some (off, e.sz) ∧ Lens d e off x g set ∧ OT N Γ p (e.T u) ∧ Fills N Γ d place (set u) parts y
theorem fills_nil {N : Nat} {place : Nat → Option (Nat × Nat)} {v : α} : Fills N Γ d place v [] v := rfl
theorem fills_cons {N : Nat} {place : Nat → Option (Nat × Nat)} {v w : α} {i off : Nat} {p : Operand} {parts : List (Nat × Operand)} {g u : β} {set : β → α} (hp : place i = some (off, e.sz)) (hl : Lens d e off v g set) (ho : OT N Γ p (e.T u)) (h : Fills N Γ d place (set u) parts w) : Fills N Γ d place v ((i, p) :: parts) w := ⟨β, e, off, g, set, u, hp, hl, ho, h⟩
theorem fills_run {N : Nat} {place : Nat → Option (Nat × Nat)} {H : FH} {a : Act} (f : Fits N Γ H a) : ∀ {parts : List (Nat × Operand)} {v w : α} {cells : Array Value}, Fills N Γ d place v parts w → d.K H v cells.toList → ∃ cells', Instr.fill place cells (parts.map fun p => (p.1, a.eval p.2)) = some cells' ∧ d.K H w cells'.toList
  | [], v, w, cells, h, hk => by cases h; exact ⟨cells, rfl, hk⟩
  | (i, p) :: parts, v, w, cells, ⟨β, e, off, g, set, u, hp, hl, ho, h⟩, hk => by
    obtain ⟨es, h1, h2, h3⟩ := cells_of_T (ho a H f)
    have hle := e.len h1
    have hfit := hl.fit
    have hdl := d.len hk
    have hput := hl.put hk h1
    have hcs : cells.size = d.sz := by simpa using hdl
    have hfold : ((a.eval p).cells.zipIdx.foldl (fun cs (q : Value × Nat) => cs.setIfInBounds (off + q.2) q.1) cells).toList = cells.toList.take off ++ es ++ cells.toList.drop (off + e.sz) := by
      have := foldl_cells es off 0 cells (by omega)
      simp only [Nat.add_zero] at this
      rw [h3, ← hle, ← this, zipIdx_toArr, ← Array.foldl_toList]
    obtain ⟨cells', h4, h5⟩ := fills_run f (cells := (a.eval p).cells.zipIdx.foldl (fun cs (q : Value × Nat) => cs.setIfInBounds (off + q.2) q.1) cells) h (by rw [hfold]; exact hput)
    refine ⟨cells', ?_, h5⟩
    have hc : (a.eval p).cells.size = e.sz := by rw [h3]; simpa using hle
    simp only [List.map_cons, Instr.fill, hp, hc]
    rw [if_neg (by simp; omega)]
    exact h4
/-- A struct's places. -/
def placesOf (P : Program) (t : TypeId) : Option (List (Nat × Nat)) := match P.underlying t with
  | some (.struct fs) => fs.toList.mapM fun f => (P.info? f.type).map fun i => (f.offset, i.size)
  | _ => none
theorem run_places {P : Program} {w : World} : ∀ (fs : List Field) (ps : List (Nat × Nat)), fs.mapM (fun f => (P.info? f.type).map fun i => (f.offset, i.size)) = some ps → (fs.mapM fun f => do pure (f.offset, ← sizeOf f.type) : Sem (List (Nat × Nat))).run P w = .ok ps w
  | [], ps, h => by simp at h; subst h; simp
  | f :: fs, ps, h => by
    simp only [List.mapM_cons, Option.bind_eq_bind, Option.pure_def] at h
    cases hi : P.info? f.type with
    | none => rw [hi] at h; simp at h
    | some i =>
      rw [hi] at h
      cases hm : fs.mapM (fun f => (P.info? f.type).map fun i => (f.offset, i.size)) with
      | none => rw [hm] at h; simp at h
      | some qs =>
        rw [hm] at h
        simp at h
        subst h
        have ih := run_places (w := w) fs qs hm
        simp [List.mapM_cons, sizeOf, typeInfo, hi] at ih ⊢
        simp [ih]
theorem pu_build {t : TypeId} {ps : List (Nat × Nat)} {v0 v : α} {parts : List (Nat × Operand)} (hz : ZeroOf C.P t d v0) (hp : placesOf C.P t = some ps) (hagg : d.agg = true) (hf : Fills C.N Γ d (ps.toArray[·]?) v0 parts v) :
    Pure C Γ L ⟨dst, .build t parts.toArray, ty, pos, after, guard⟩ (d.T v) := fun a w H f s ow => by
  obtain ⟨zv, h1, h2⟩ := run_zero (w := w) hz
  obtain ⟨cs, h3, _, h4⟩ := cells_of_T (h2 H)
  obtain ⟨cells', h5, h6⟩ := fills_run f (cells := cs.toArray) hf h3
  have h7 := d.toT h6
  rw [hagg] at h7
  refine ⟨.agg cells', ?_, by simpa [mkV] using h7⟩
  unfold placesOf at hp
  cases hu : C.P.underlying t with
  | none => rw [hu] at hp; cases hp
  | some D =>
    rw [hu] at hp
    cases D with
    | struct fs =>
      have hr := run_places (P := C.P) (w := w) fs.toList ps hp
      have hr' : (fs.mapM fun f => do pure (f.offset, ← sizeOf f.type) : Sem (Array (Nat × Nat))).run C.P w = .ok ps.toArray w := by
        rw [Array.mapM_eq_mapM_toList]
        simp only [Sem.run_map, hr, Result.andThen_ok]
      have h5' : Instr.fill (fun i => ps.toArray[i]?) cs.toArray ((parts.toArray.map fun p => (p.1, a.eval p.2)).toList) = some cells' := by simpa using h5
      simp only [execOp, Instr.build, Sem.run_bind, h1, Result.andThen_ok, run_underlying hu, hr', h4, h5']
      simp
    | _ => cases hp

/-! ### 2. Literal slices -/
/-- The literal's elements, as an array's. -/
theorem fills_arr {N n i : Nat} {place : Nat → Option (Nat × Nat)} {xs zs : List α} {p : Operand} {parts : List (Nat × Operand)} {el u : α} (hp : place i = some (i * d.sz, d.sz)) (hi : xs[i]? = some el) (hn : i < n) (ho : OT N Γ p (d.T u)) (h : Fills N Γ (karr n d) place (xs.set i u) parts zs) : Fills N Γ (karr n d) place xs ((i, p) :: parts) zs :=
  fills_cons hp (Lens.at_ i hi hn) ho h
theorem rep_zeros {P : Program} {t : TypeId} {v0 : α} (hz : ZeroOf P t d v0) (hs : tyOk P t d.agg d.sz = true) (hd : 0 < d.sz) (n : Nat) (w : World) (H : FH) : ∃ zv, (zeroValue t).run P w = .ok zv w ∧ Reps d H (List.replicate n v0) (((Array.range (n * d.sz)).map (zv.cells[· % zv.cells.size]!)).toList) := by
  obtain ⟨zv, h1, h2⟩ := run_zero (w := w) hz
  obtain ⟨cs, h3, _, h4⟩ := cells_of_T (h2 H)
  refine ⟨zv, h1, by simp, fun j x e => ?_⟩
  have hx : x = v0 := by
    rw [List.getElem?_replicate] at e
    split at e <;> simp_all
  have hj : j < n := by
    have := (List.getElem?_eq_some_iff.1 e).1
    simpa using this
  subst hx
  have hl := d.len h3
  have : ((((Array.range (n * d.sz)).map (zv.cells[· % zv.cells.size]!)).toList.drop (j * d.sz)).take d.sz) = cs := by
    apply List.ext_getElem?
    intro i
    rw [h4]
    by_cases hi : i < d.sz
    · have hlt : j * d.sz + i < n * d.sz := by
        have : j * d.sz + d.sz ≤ n * d.sz := by rw [← Nat.succ_mul]; exact Nat.mul_le_mul_right _ hj
        omega
      have hic : i < cs.length := by omega
      have hmod : (j * d.sz + i) % cs.length = i := by rw [hl, Nat.mul_comm, Nat.mul_add_mod]; exact Nat.mod_eq_of_lt hi
      simp [List.getElem?_take, hi, List.getElem?_drop, hlt, hmod, hic]
    · rw [List.getElem?_eq_none (by simp; omega), List.getElem?_eq_none (by omega)]
  rw [this]; exact h3
theorem run_buildSlice {P : Program} {w : World} {H : FH} {N : Nat} {a : Act} (f : Fits N Γ H a) {t el : TypeId} {n bytes : Nat} {v0 : α} {xs : List α} {parts : List (Nat × Operand)} (ht : slTy P t el d.sz bytes = true) (he : tyOk P el d.agg d.sz = true) (hz : ZeroOf P el d v0) (hn : n * d.sz ≤ 16777216)
    (hf : Fills N Γ (karr n d) (fun i => some (i * d.sz, d.sz)) (List.replicate n v0) parts xs) :
    ∃ cells, (Instr.buildSlice t n (parts.toArray.map fun p => (p.1, a.eval p.2))).run P w = .ok (.slice (some ⟨w.heap.size, 0, none⟩) n n) (w.alloc (.cells cells el (0, 0))) ∧ xs.length = n ∧ Reps d H xs cells.toList := by
  obtain ⟨hu, i, z, hi, hzz, hsz, hby, hzs, hpos⟩ := slTy_spec ht
  obtain ⟨zv, h1, h2⟩ := rep_zeros hz he hpos n w H
  obtain ⟨cells', h5, h6⟩ := fills_run f (cells := (Array.range (n * d.sz)).map (zv.cells[· % zv.cells.size]!)) hf ⟨by simp, h2⟩
  refine ⟨cells', ?_, h6.1, h6.2⟩
  have h5' : Instr.fill (fun i => some (i * d.sz, d.sz)) ((Array.range (n * d.sz)).map (zv.cells[· % zv.cells.size]!)) ((parts.toArray.map fun p => (p.1, a.eval p.2)).toList) = some cells' := by simpa using h5
  have hbig : ¬ n * d.sz > 2 ^ 24 := by omega
  by_cases h0 : n * d.sz = 0
  · have h5'' : Instr.fill (fun i => some (i * d.sz, d.sz)) ((Array.range (n * d.sz)).map ((#[] : Array Value)[· % (#[] : Array Value).size]!)) ((parts.toArray.map fun p => (p.1, a.eval p.2)).toList) = some cells' := by
      rw [h0] at h5' ⊢
      have e0 : Array.range 0 = (#[] : Array Nat) := rfl
      rw [e0] at h5' ⊢; simpa using h5'
    simp only [Instr.buildSlice, Sem.run_bind, run_underlying hu, Result.andThen_ok, run_sizeOf he, if_neg hbig, if_pos h0, Sem.run_pure, h5'']
    simp [newRow]
  · simp only [Instr.buildSlice, Sem.run_bind, run_underlying hu, Result.andThen_ok, run_sizeOf he, if_neg hbig, if_neg h0, h1, Sem.run_pure, h5']
    simp [newRow]
theorem acts_lit_own {t el : TypeId} {n bytes : Nat} {v0 : α} {xs : List α} {parts : List (Nat × Operand)} (ht : slTy C.P t el d.sz bytes = true) (he : tyOk C.P el d.agg d.sz = true) (hz : ZeroOf C.P el d v0) (hn : n * d.sz ≤ 16777216) (hnn : n ≤ 16777216)
    (hf : Fills C.N Γ (karr n d) (fun i => some (i * d.sz, d.sz)) (List.replicate n v0) parts xs) :
    Acts C Γ L ⟨dst, .buildSlice t n parts.toArray, ty, pos, after, guard⟩ [] Value (fun r => IsV r) (fun r => [OwnI el d r xs]) (fun _ => True) := by
  intro a w H f s ow Q K hK
  obtain ⟨cells, h1, h2, h3⟩ := run_buildSlice (w := w) f ht he hz hn hf
  have hrun : (execOp a.eval ⟨dst, .buildSlice t n parts.toArray, ty, pos, after, guard⟩).run C.P w = .ok (.value (.slice (some ⟨w.heap.size, 0, none⟩) n n)) (w.alloc (.cells cells el (0, 0))) := by
    simp only [execOp, Sem.run_bind, h1, Result.andThen_ok]; rfl
  simp only [Oper.wp, hrun, Oper.upon_value]
  refine hK (.slice (some ⟨w.heap.size, 0, none⟩) n n) _ _ H trivial (st_alloc s.on _) rfl (owns_new (J := OwnI el d (.slice (some ⟨w.heap.size, 0, none⟩) n n) xs) ⟨cells.toList, ⟨?_, .inr ⟨w.heap.size, n, cells, by rw [h2], Nat.zero_le _, heap_alloc_new w _, by omega, by unfold maxLen; omega, ?_, ?_⟩⟩, h3⟩ (.inr rfl) (by simp) s.on)
  · rw [h3.1]
  · have := h3.1; simpa [h2] using this
  · rw [h2, List.take_of_length_le (by have := h3.1; rw [h2] at this; omega)]
theorem acts_lit {t el : TypeId} {n bytes : Nat} {v0 : α} {xs : List α} {parts : List (Nat × Operand)} (ht : slTy C.P t el d.sz bytes = true) (he : tyOk C.P el d.agg d.sz = true) (hz : ZeroOf C.P el d v0) (hn : n * d.sz ≤ 16777216) (hnn : n ≤ 16777216)
    (hf : Fills C.N Γ (karr n d) (fun i => some (i * d.sz, d.sz)) (List.replicate n v0) parts xs) :
    Acts C Γ L ⟨dst, .buildSlice t n parts.toArray, ty, pos, after, guard⟩ [] Unit (fun _ => SlT d xs) (fun _ => []) (fun _ => True) := by
  intro a w H f s ow Q K hK
  obtain ⟨cells, h1, h2, h3⟩ := run_buildSlice (w := w) f ht he hz hn hf
  have hrun : (execOp a.eval ⟨dst, .buildSlice t n parts.toArray, ty, pos, after, guard⟩).run C.P w = .ok (.value (.slice (some ⟨w.heap.size, 0, none⟩) n n)) (w.alloc (.cells cells el (0, 0))) := by
    simp only [execOp, Sem.run_bind, h1, Result.andThen_ok]; rfl
  simp only [Oper.wp, hrun, Oper.upon_value]
  have hnew := fh_new s.on
  have hsub : Sub H (addH H w.heap.size (.cells cells el (0, 0))) := addH_sub hnew
  have s' := st_alloc (M := fun g => g ∈ blks []) s.on (.cells cells el (0, 0))
  refine hK () _ _ (addH H w.heap.size (.cells cells el (0, 0))) trivial ⟨hsub, addH_on s'.on (heap_alloc_new w _), s'.os, s'.tape, s'.output, s'.size, s'.keep, fun k o e => ?_⟩ ⟨some ⟨w.heap.size, 0, none⟩, n, by rw [h2], by omega, by rw [h2]; unfold maxLen; omega, fun _ => ⟨⟨w.heap.size, 0, none⟩, cells, el, (0, 0), cells.toList, rfl, rfl, by simp [addH], h3.mono hsub, fun i u e => by simpa using e⟩⟩ Owns.nil
  unfold addH at e
  by_cases hk : k = w.heap.size
  · exact .inr (.inl (by omega))
  · rw [if_neg hk] at e; exact .inl e
end
end Go.Gw
