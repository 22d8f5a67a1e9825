/- Typed walks: what makes memory and writes it. Over any program. -/
import Derived.Test.YtoaeaclcbcpheaaDoorG4
namespace Go.Gw
open Go
set_option linter.unusedVariables false
set_option linter.unusedSimpArgs false

section
variable {C : Cx} {Γ : Env} {L R : List It} {Q : Exit → Act → World → Prop} {ops : Array Oper} {rest : List Oper}
variable {dst : Option Tmp} {ty : TypeId} {pos : String} {after : Array Edge} {guard : Option (Nat × Bool)} {x y z : Operand}
variable {α β : Type} {d : Kd α} {e : Kd β}

/-! ### 1. append -/
def slTy (P : Program) (t e : TypeId) (sz bytes : Nat) : Bool := match P.underlying t, P.info? e with
  | some (.slice e'), some i => Nat.beq e' e && Nat.beq i.size sz && Nat.beq i.bytes bytes && (match i.zero with | some z => Nat.beq z.cells.size sz | none => false) && Nat.ble 1 sz
  | _, _ => false
theorem slTy_spec {P : Program} {t e : TypeId} {sz bytes : Nat} (h : slTy P t e sz bytes = true) : P.underlying t = some (.slice e) ∧ ∃ i z, P.info? e = some i ∧ i.zero = some z ∧ i.size = sz ∧ i.bytes = bytes ∧ z.cells.size = sz ∧ 0 < sz := by
  unfold slTy at h
  cases hu : P.underlying t with
  | none => rw [hu] at h; cases h
  | some D =>
    cases hi : P.info? e with
    | none => rw [hu, hi] at h; cases D <;> cases h
    | some i =>
      rw [hu, hi] at h
      cases D with
      | slice e' =>
        simp only [Bool.and_eq_true] at h
        obtain ⟨⟨⟨⟨h1, h2⟩, h3⟩, h4⟩, h5⟩ := h
        cases hz : i.zero with
        | none => rw [hz] at h4; cases h4
        | some z =>
          rw [hz] at h4
          refine ⟨by rw [Nat.eq_of_beq_eq_true h1], i, z, rfl, hz, Nat.eq_of_beq_eq_true h2, Nat.eq_of_beq_eq_true h3, Nat.eq_of_beq_eq_true h4, ?_⟩
          exact Nat.le_of_ble_eq_true h5
      | _ => cases h
theorem run_append_nothing {P : Program} (w : World) (t ty e : TypeId) (i : TypeInfo) (size : Nat) (ht : P.underlying t = some (.slice e)) (hi : P.info? e = some i)
    (v : Value) (n : Nat) (xs : List Value) (hown : w.ownsRow 0 e size v n xs) (c : Nat) : (Builtin.append_ #[t, t] ty #[v, .slice none 0 c]).run P w = .ok v w := by
  rcases hown.2 with ⟨rfl, rfl⟩ | ⟨g, cap, cur, rfl, _, _, hnc, _⟩
  · simp [Builtin.append_, run_underlying ht, sizeOf, typeInfo, hi, Builtin.lenOf, Builtin.firstCells]
  · simp [Builtin.append_, run_underlying ht, sizeOf, typeInfo, hi, Builtin.lenOf, Builtin.firstCells, hnc, storeCells]
theorem st_grown {M : Nat → Prop} {H : FH} {w w' : World} {row : Option Nat} (hon : On H w) (hg : w.grownBy w' row) (hr : ∀ g, row = some g → H g = none ∧ M g) : St M H w H w' where
  sub := Sub.refl _
  on := fun k o e => by
    have hk := hon.lt e
    rw [hg.block k hk (fun h => by rw [(hr k h.symm).1] at e; cases e)]
    exact hon k o e
  os := hg.os
  tape := hg.tape
  output := hg.output
  size := hg.size
  keep := fun k hk hM => hg.block k hk (fun h => hM (hr k h.symm).2)
  new := fun k o e => .inl e
theorem acts_append {t el : TypeId} {bytes : Nat} {v : Value} {xs ys : List α} (hx : OT C.N Γ x (IsV v)) (hp : List.Perm L (OwnI el d v xs :: R)) (hy : OT C.N Γ y (SlT d ys)) (ht : slTy C.P t el d.sz bytes = true) (hb : (xs.length + ys.length) * bytes ≤ 140737488355328) (hm : xs.length + ys.length ≤ maxLen) :
    Acts C Γ L ⟨dst, .call ⟨.builtin .append, #[x, y], #[t, t]⟩, ty, pos, after, guard⟩ [OwnI el d v xs] Value (fun r => IsV r) (fun r => [OwnI el d r (xs ++ ys)]) (fun _ => True) := by
  intro a w H f s ow Q K hK
  obtain ⟨hu, i, z, hi, hz, hsz, hby, hzs, hpos⟩ := slTy_spec ht
  have hv : a.eval x = v := hx a H f
  obtain ⟨A, c, hw, hlc, hlm, hr⟩ := hy a H f
  have o' := ow.perm hp
  obtain ⟨inner, hown, hR⟩ := o'.all _ List.mem_cons_self
  have hblk : ∀ g, v.ownBlock = some g → g < w.heap.size ∧ H g = none ∧ g ∈ blks [OwnI el d v xs] := fun g hg =>
    let h1 := o'.own g (blk_mem (i := OwnI el d v xs) List.mem_cons_self hg); ⟨h1.1, h1.2.1, blk_mem (i := OwnI el d v xs) List.mem_cons_self hg⟩
  have key : ∃ v' w', (Builtin.append_ #[t, t] ty #[v, .slice A ys.length c]).run C.P w = .ok v' w' ∧ (∃ inner', w'.ownsRow 0 el d.sz v' (xs.length + ys.length) inner' ∧ Reps d H (xs ++ ys) inner') ∧ w.grownBy w' v.ownBlock ∧ (v'.ownBlock = v.ownBlock ∨ v'.ownBlock = some w.heap.size) := by
    cases A with
    | none =>
      have h0 : ys.length = 0 := by
        rcases Nat.eq_zero_or_pos ys.length with h | h
        · exact h
        · obtain ⟨ad, _, _, _, _, h1, _⟩ := hr h; cases h1
      have hnil : ys = [] := List.eq_nil_of_length_eq_zero h0
      subst hnil
      exact ⟨v, w, run_append_nothing w t ty el i d.sz hu hi v _ _ hown c, ⟨inner, by simpa using hown, by simpa using hR⟩, World.grownBy.refl w _, .inl rfl⟩
    | some ad =>
      obtain ⟨cs, hcs, hcell⟩ : ∃ cs, Reps d H ys cs ∧ ∀ j u, cs[j]? = some u → w.cell? (ad.add j) = some u := by
        rcases Nat.eq_zero_or_pos ys.length with h | h
        · have hnil : ys = [] := List.eq_nil_of_length_eq_zero h
          subst hnil
          exact ⟨[], Reps.nil, fun j u e => by simp at e⟩
        · obtain ⟨ad', cells, e, fr, cs, h1, h2, h3, h4, h5⟩ := hr h
          cases h1
          refine ⟨cs, h4, fun j u e => ?_⟩
          rw [Addr.plain h2, add_plain, cell_of_cells (s.on _ _ h3)]
          exact h5 j u e
      obtain ⟨v', w', h1, h2, h3, _, h5⟩ := run_append_own_at w 0 t ty el i z d.sz bytes hu hi hz hsz hby hzs hpos v xs.length inner hown ad ys.length c cs hcs.1 hcell (Reps.cells hcs) hm hb (Nat.zero_le _)
      exact ⟨v', w', h1, ⟨_, h2, hR.append hcs⟩, h3, h5⟩
  obtain ⟨v', w', h1, ⟨inner', h2, h3⟩, h4, h5⟩ := key
  have hrun : (execOp a.eval ⟨dst, .call ⟨.builtin .append, #[x, y], #[t, t]⟩, ty, pos, after, guard⟩).run C.P w = .ok (.value v') w' := by
    simp [execOp, resolve, invoke, builtin, hv, hw, h1]
  simp only [Oper.wp, hrun, Oper.upon_value]
  refine hK v' v' w' H trivial (st_grown s.on h4 fun g hg => ⟨(hblk g hg).2.1, (hblk g hg).2.2⟩) rfl ⟨?_, ?_, ?_⟩
  · intro it hit
    rw [List.mem_singleton.1 hit]
    exact ⟨inner', by rw [List.length_append]; exact h2, h3⟩
  · unfold blks
    cases hq : v'.ownBlock with
    | none => rw [List.filterMap_cons_none (by exact hq)]; exact List.nodup_nil
    | some k => rw [List.filterMap_cons_some (by exact hq)]; simp
  · intro g hg
    have hg' : v'.ownBlock = some g := by
      obtain ⟨it, hit, hb⟩ := List.mem_filterMap.1 hg
      rw [List.mem_singleton.1 hit] at hb; exact hb
    have hlt : g < w'.heap.size := by
      rcases h2.2 with ⟨rfl, _⟩ | ⟨g', cap, cur, rfl, _, hh, _⟩
      · simp [Value.ownBlock] at hg'
      · have : g' = g := by simpa [Value.ownBlock] using hg'
        subst this; exact (Array.getElem?_eq_some_iff.1 hh).1
    refine ⟨hlt, ?_, ?_⟩
    · rcases h5 with h5 | h5
      · rw [h5] at hg'; exact (hblk g hg').2.1
      · rw [h5] at hg'; cases hg'
        cases e : H w.heap.size with
        | none => rfl
        | some o => have := s.on.lt e; omega
    · rcases h5 with h5 | h5
      · rw [h5] at hg'; exact .inl (hblk g hg').2.2
      · rw [h5] at hg'; cases hg'; exact .inr (Nat.le_refl _)

/-! ### 2. New variables -/
theorem st_alloc {M : Nat → Prop} {H : FH} {w : World} (hon : On H w) (o : Obj) : St M H w H (w.alloc o) :=
  st_grown (row := none) hon (World.grownBy_alloc w o none) fun g h => by cases h
theorem fh_new {H : FH} {w : World} (hon : On H w) : H w.heap.size = none := by
  cases e : H w.heap.size with
  | none => rfl
  | some o => have := hon.lt e; omega
theorem owns_new {J : It} {M : Nat → Prop} {H : FH} {w w' : World} (hp : J.p w' H) (hb : J.blk = none ∨ J.blk = some w.heap.size) (hs : w.heap.size < w'.heap.size) (hon : On H w) : Owns (fun g => M g ∨ w.heap.size ≤ g) w' H [J] where
  all := fun i hi => by rw [List.mem_singleton.1 hi]; exact hp
  nodup := by
    unfold blks
    rcases hb with hb | hb
    · rw [List.filterMap_cons_none hb]; exact List.nodup_nil
    · rw [List.filterMap_cons_some hb]; simp
  own := fun g hg => by
    obtain ⟨it, hit, h1⟩ := List.mem_filterMap.1 hg
    rw [List.mem_singleton.1 hit] at h1
    rcases hb with hb | hb
    · rw [hb] at h1; cases h1
    · rw [hb] at h1; cases h1; exact ⟨hs, fh_new hon, .inr (Nat.le_refl _)⟩
theorem blks_nil {g : Nat} : ¬ g ∈ blks [] := fun h => by simp [blks] at h
theorem acts_box {t : TypeId} {v : α} (hx : OT C.N Γ x (d.T v)) : Acts C Γ L ⟨dst, .box t x, ty, pos, after, guard⟩ [] Nat (fun g => IsV (pt g 0)) (fun g => [BlkI g t d v]) (fun _ => True) := by
  intro a w H f s ow Q K hK
  obtain ⟨cs, h1, h2⟩ := d.ofT (hx a H f)
  have hcells : (mkV d.agg cs).cells = cs.toArray := by
    unfold mkV
    cases hag : d.agg with
    | true => simp [Value.cells]
    | false =>
      have hl : cs.length = 1 := by rw [d.len h1, d.szone hag]
      match cs, hl with
      | [u], _ =>
        have := d.one h1 u (by simp)
        cases u <;> simp_all [Value.cells, Value.oneCell']
  have hrun : (execOp a.eval ⟨dst, .box t x, ty, pos, after, guard⟩).run C.P w = .ok (.value (pt w.heap.size 0)) (w.alloc (.cells cs.toArray t (0, 0))) := by
    simp [execOp, Instr.box, newVar, newRow, h2, hcells, pt]
  simp only [Oper.wp, hrun, Oper.upon_value]
  exact hK w.heap.size _ _ H trivial (st_alloc s.on _) rfl (owns_new (J := BlkI w.heap.size t d v) ⟨cs, h1, heap_alloc_new w _⟩ (.inr rfl) (by simp) s.on)
/-- A zero value of a type, of kind d. -/
def ZeroOf (P : Program) (t : TypeId) (d : Kd α) (v : α) : Prop := ∃ z, (P.info? t).bind (·.zero) = some z ∧ ∀ H, (d.T v).p H z
theorem run_zero {P : Program} {t : TypeId} {v : α} {w : World} (h : ZeroOf P t d v) : ∃ z, (zeroValue t).run P w = .ok z w ∧ ∀ H, (d.T v).p H z := by
  obtain ⟨z, h1, h2⟩ := h
  cases hi : P.info? t with
  | none => rw [hi] at h1; cases h1
  | some i =>
    rw [hi] at h1
    have h3 : i.zero = some z := h1
    exact ⟨z, by simp [zeroValue, typeInfo, hi, h3], h2⟩
theorem cells_of_T {H : FH} {v : α} {u : Value} (h : (d.T v).p H u) : ∃ cs, d.K H v cs ∧ u = mkV d.agg cs ∧ u.cells = cs.toArray := by
  obtain ⟨cs, h1, h2⟩ := d.ofT h
  refine ⟨cs, h1, h2, ?_⟩
  rw [h2]; unfold mkV
  cases hag : d.agg with
  | true => simp [Value.cells]
  | false =>
    have hl : cs.length = 1 := by rw [d.len h1, d.szone hag]
    match cs, hl with
    | [u], _ =>
      have := d.one h1 u (by simp)
      cases u <;> simp_all [Value.cells, Value.oneCell']
theorem acts_alloc {t : TypeId} {v : α} (hz : ZeroOf C.P t d v) : Acts C Γ L ⟨dst, .alloc t, ty, pos, after, guard⟩ [] Nat (fun g => IsV (pt g 0)) (fun g => [BlkI g t d v]) (fun _ => True) := by
  intro a w H f s ow Q K hK
  obtain ⟨z, h1, h2⟩ := run_zero (w := w) hz
  obtain ⟨cs, h3, _, h4⟩ := cells_of_T (h2 H)
  have hrun : (execOp a.eval ⟨dst, .alloc t, ty, pos, after, guard⟩).run C.P w = .ok (.value (pt w.heap.size 0)) (w.alloc (.cells cs.toArray t (0, 0))) := by
    simp [execOp, Instr.alloc, newVar, newRow, h1, h4, pt]
  simp only [Oper.wp, hrun, Oper.upon_value]
  exact hK w.heap.size _ _ H trivial (st_alloc s.on _) rfl (owns_new (J := BlkI w.heap.size t d v) ⟨cs, h3, heap_alloc_new w _⟩ (.inr rfl) (by simp) s.on)

/-! ### 3. Stores -/
theorem st_setRow {M : Nat → Prop} {H : FH} {w : World} {g : Nat} (hon : On H w) (hH : H g = none) (hM : M g) (cs : Array Value) : St M H w H (w.setRow g cs) := by
  refine st_grown (row := some g) hon ⟨rfl, rfl, rfl, by simp, fun k hk hne => ?_⟩ fun k hk => by cases hk; exact ⟨hH, hM⟩
  have : k ≠ g := fun e => hne (by rw [e])
  simp [World.setRow, Array.getElem?_modify, Ne.symm this]
theorem run_storeVar {P : Program} {w : World} {t : TypeId} {agg : Bool} {g off : Nat} {cur : Array Value} {el : TypeId} {v : Value} {cs : List Value} (ht : tyOk P t agg cs.length = true) (hc : v.cells = cs.toArray) (h1 : ∀ u ∈ cs, u.oneCell' = true) (hb : w.heap[g]? = some (.cells cur el (0, 0))) (hl : off + cs.length ≤ cur.size) :
    (storeVar t ⟨g, off, none⟩ v).run P w = .ok () (w.setRow g (cur.toList.take off ++ cs ++ cur.toList.drop (off + cs.length)).toArray) := by
  have := run_storeCells_at (P := P) g off el cs 0 cur w hb (by omega) h1
  simp only [Nat.add_zero] at this
  simp [storeVar, run_sizeOf ht, hc, this]
theorem acts_store_blk {t t' : TypeId} {b : Nat} {v : α} {off : Nat} {g u : β} {set : β → α} (hx : OT C.N Γ x (IsV (pt b off))) (hy : OT C.N Γ y (e.T u)) (hp : List.Perm L (BlkI b t' d v :: R)) (hl : Lens d e off v g set) (ht : tyOk C.P t e.agg e.sz = true) :
    Acts C Γ L ⟨dst, .store t x y, ty, pos, after, guard⟩ [BlkI b t' d v] Unit (fun _ => AnyT) (fun _ => [BlkI b t' d (set u)]) (fun _ => True) := by
  intro a w H f s ow Q K hK
  have hv : a.eval x = pt b off := hx a H f
  obtain ⟨es, h1, h2, h3⟩ := cells_of_T (hy a H f)
  have o' := ow.perm hp
  obtain ⟨cs, h4, hb⟩ := o'.all _ List.mem_cons_self
  have hown := o'.own b (blk_mem (i := BlkI b t' d v) List.mem_cons_self rfl)
  have hle := e.len h1
  have hfit := hl.fit
  have hdl := d.len h4
  have hst := run_storeVar (P := C.P) (w := w) (t := t) (agg := e.agg) (g := b) (off := off) (el := t') (cs := es) (by rw [hle]; exact ht) h3 (e.one h1) hb (by simp; omega)
  have hrun : (execOp a.eval ⟨dst, .store t x y, ty, pos, after, guard⟩).run C.P w = .ok .skip (w.setRow b (cs.take off ++ es ++ cs.drop (off + e.sz)).toArray) := by
    rw [hle] at hst
    simp only [execOp, Instr.storeAt, Instr.sureAddr, hv, pt, Sem.run_bind, Sem.run_pure, Result.andThen_ok, List.toList_toArray] at hst ⊢
    rw [hst]; rfl
  simp only [Oper.wp, hrun, Oper.upon_skip]
  have hput := hl.put h4 h1
  have hmem : b ∈ blks [BlkI b t' d v] := blk_mem (i := BlkI b t' d v) List.mem_cons_self rfl
  refine hK () _ _ H trivial (st_setRow s.on hown.2.1 hmem _) trivial ⟨?_, by simp [blks, BlkI], ?_⟩
  · intro it hit
    rw [List.mem_singleton.1 hit]
    exact ⟨_, hput, setRow_heap w b _ _ t' _ hb⟩
  · intro g' hg'
    have : g' = b := by simpa [blks, BlkI] using hg'
    subst this
    exact ⟨by simpa using hown.1, hown.2.1, .inl hmem⟩
theorem acts_store_var {t t' : TypeId} {b : Nat} {v u : α} (hx : OT C.N Γ x (IsV (pt b 0))) (hy : OT C.N Γ y (d.T u)) (hp : List.Perm L (BlkI b t' d v :: R)) (ht : tyOk C.P t d.agg d.sz = true) :
    Acts C Γ L ⟨dst, .store t x y, ty, pos, after, guard⟩ [BlkI b t' d v] Unit (fun _ => AnyT) (fun _ => [BlkI b t' d u]) (fun _ => True) := acts_store_blk hx hy hp Lens.self ht
theorem acts_store_own {t t' : TypeId} {v : Value} {xs : List α} {i off : Nat} {el : α} {g u : β} {set : β → α} (hx : OT C.N Γ x (IsV (ptrAt v (i * d.sz + off)))) (hy : OT C.N Γ y (e.T u)) (hp : List.Perm L (OwnI t' d v xs :: R)) (hi : xs[i]? = some el) (hl : Lens d e off el g set) (ht : tyOk C.P t e.agg e.sz = true) :
    Acts C Γ L ⟨dst, .store t x y, ty, pos, after, guard⟩ [OwnI t' d v xs] Unit (fun _ => AnyT) (fun _ => [OwnI t' d v (xs.set i (set u))]) (fun _ => True) := by
  intro a w H f s ow Q K hK
  obtain ⟨es, h1, h2, h3⟩ := cells_of_T (hy a H f)
  have o' := ow.perm hp
  have hlt : i < xs.length := (List.getElem?_eq_some_iff.1 hi).1
  obtain ⟨b, cap, cur, cs, rfl, hb, hR, hS, hcs, hcap, hcm, hcc⟩ := own_stand (o'.all _ List.mem_cons_self) (by omega)
  have hv := hx a H f
  simp only [IsV, ptrAt] at hv
  have hown := o'.own b (blk_mem (i := OwnI t' d (.slice (some ⟨b, 0, none⟩) xs.length cap) xs) List.mem_cons_self rfl)
  have hle := e.len h1
  have hfit := hl.fit
  have hle1 : i * d.sz + d.sz ≤ xs.length * d.sz := by rw [← Nat.succ_mul]; exact Nat.mul_le_mul_right _ hlt
  have hle2 : xs.length * d.sz ≤ cap * d.sz := Nat.mul_le_mul_right _ hcap
  have hst := run_storeVar (P := C.P) (w := w) (t := t) (agg := e.agg) (g := b) (off := i * d.sz + off) (el := t') (cs := es) (by rw [hle]; exact ht) h3 (e.one h1) hb (by omega)
  rw [hle] at hst
  have hrun : (execOp a.eval ⟨dst, .store t x y, ty, pos, after, guard⟩).run C.P w = .ok .skip (w.setRow b (cur.toList.take (i * d.sz + off) ++ es ++ cur.toList.drop (i * d.sz + off + e.sz)).toArray) := by
    simp only [execOp, Instr.storeAt, Instr.sureAddr, hv, Sem.run_bind, Sem.run_pure, Result.andThen_ok] at hst ⊢
    rw [hst]; rfl
  simp only [Oper.wp, hrun, Oper.upon_skip]
  have hk := hR.2 i el hi
  have hput := hR.set i hlt (hl.put hk h1)
  have hmem : b ∈ blks [OwnI t' d (.slice (some ⟨b, 0, none⟩) xs.length cap) xs] := blk_mem (i := OwnI t' d (.slice (some ⟨b, 0, none⟩) xs.length cap) xs) List.mem_cons_self rfl
  refine hK () _ _ H trivial (st_setRow s.on hown.2.1 hmem _) trivial ⟨?_, by simp [blks, OwnI, Value.ownBlock], ?_⟩
  · intro it hit
    rw [List.mem_singleton.1 hit]
    refine ⟨_, ⟨?_, .inr ⟨b, cap, _, ?_, Nat.zero_le _, setRow_heap w b _ _ t' _ hb, ?_, hcm, ?_, rfl⟩⟩, ?_⟩
    · simp only [List.length_set, List.length_take, List.toList_toArray]
      rw [Nat.min_eq_left]
      simp only [List.length_append, List.length_take, List.length_drop, Array.length_toList, hle]
      omega
    · rw [List.length_set]
    · rw [List.length_set]; exact hcap
    · simp only [List.size_toArray, List.length_append, List.length_take, List.length_drop, Array.length_toList, hle]
      omega
    · rw [List.length_set]
      have e1 : (cur.toList.take (i * d.sz + off) ++ es ++ cur.toList.drop (i * d.sz + off + e.sz)).toArray.toList.take (xs.length * d.sz) =
          cs.take (i * d.sz) ++ (((cs.drop (i * d.sz)).take d.sz).take off ++ es ++ ((cs.drop (i * d.sz)).take d.sz).drop (off + e.sz)) ++ cs.drop (i * d.sz + d.sz) := by
        rw [hcc]
        apply List.ext_getElem?
        intro j
        have hcl : cur.toList.length = cap * d.sz := by simpa using hcs
        simp only [List.toList_toArray, List.getElem?_take, List.getElem?_append, List.getElem?_drop, List.length_append, List.length_take, List.length_drop, hcl, hle]
        have m1 : min (i * d.sz + off) (cap * d.sz) = i * d.sz + off := by omega
        have m2 : min (xs.length * d.sz) (cap * d.sz) = xs.length * d.sz := by omega
        have m3 : min (i * d.sz) (xs.length * d.sz) = i * d.sz := by omega
        have m4 : min d.sz (xs.length * d.sz - i * d.sz) = d.sz := by omega
        have m5 : min off d.sz = off := by omega
        simp only [m1, m2, m3, m4, m5]
        by_cases c1 : j < i * d.sz
        · simp [c1, show j < xs.length * d.sz from by omega, show j < i * d.sz + off + e.sz from by omega, show j < i * d.sz + off from by omega, show j < i * d.sz + (off + e.sz + (d.sz - (off + e.sz))) from by omega]
        · by_cases c2 : j < i * d.sz + off
          · simp [c1, c2, show j < xs.length * d.sz from by omega, show j < i * d.sz + off + e.sz from by omega, show j < i * d.sz + (off + e.sz + (d.sz - (off + e.sz))) from by omega, show j - i * d.sz < off + e.sz from by omega, show j - i * d.sz < off from by omega, show j - i * d.sz < d.sz from by omega, show i * d.sz + (j - i * d.sz) = j from by omega]
          · by_cases c3 : j < i * d.sz + off + e.sz
            · simp [c1, c2, c3, show j < xs.length * d.sz from by omega, show j < i * d.sz + (off + e.sz + (d.sz - (off + e.sz))) from by omega, show j - i * d.sz < off + e.sz from by omega, show ¬ j - i * d.sz < off from by omega, show j - (i * d.sz + off) = j - i * d.sz - off from by omega]
            · by_cases c4 : j < i * d.sz + d.sz
              · simp [c1, c2, c3, show j < xs.length * d.sz from by omega, show j < i * d.sz + (off + e.sz + (d.sz - (off + e.sz))) from by omega, show ¬ j - i * d.sz < off + e.sz from by omega, show i * d.sz + off + e.sz + (j - (i * d.sz + off + e.sz)) = j from by omega, show off + e.sz + (j - i * d.sz - (off + e.sz)) < d.sz from by omega, show i * d.sz + (off + e.sz + (j - i * d.sz - (off + e.sz))) = j from by omega]
              · by_cases c5 : j < xs.length * d.sz
                · simp [c1, c2, c3, c5, show ¬ j < i * d.sz + (off + e.sz + (d.sz - (off + e.sz))) from by omega, show i * d.sz + off + e.sz + (j - (i * d.sz + off + e.sz)) = j from by omega, show i * d.sz + d.sz + (j - (i * d.sz + (off + e.sz + (d.sz - (off + e.sz))))) = j from by omega]
                · simp [c1, c2, c3, c5, show ¬ j < i * d.sz + (off + e.sz + (d.sz - (off + e.sz))) from by omega, show ¬ i * d.sz + d.sz + (j - (i * d.sz + (off + e.sz + (d.sz - (off + e.sz))))) < xs.length * d.sz from by omega]
      rw [e1]; exact hput
  · intro g' hg'
    have : g' = b := by simpa [blks, OwnI, Value.ownBlock] using hg'
    subst this
    exact ⟨by simpa using hown.1, hown.2.1, .inl hmem⟩
theorem acts_store_own0 {t t' : TypeId} {v : Value} {xs : List α} {i : Int} {u : α} (hx : OT C.N Γ x (IsV (ptrAt v (i.toNat * d.sz)))) (hy : OT C.N Γ y (d.T u)) (hp : List.Perm L (OwnI t' d v xs :: R)) (h0 : 0 ≤ i) (h1 : i < xs.length) (ht : tyOk C.P t d.agg d.sz = true) :
    Acts C Γ L ⟨dst, .store t x y, ty, pos, after, guard⟩ [OwnI t' d v xs] Unit (fun _ => AnyT) (fun _ => [OwnI t' d v (xs.set i.toNat u)]) (fun _ => True) :=
  acts_store_own (off := 0) hx hy hp (List.getElem?_eq_getElem (by omega)) Lens.self ht
end
end Go.Gw
