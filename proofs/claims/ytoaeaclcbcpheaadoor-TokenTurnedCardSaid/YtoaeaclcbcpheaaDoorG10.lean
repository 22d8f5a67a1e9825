/- Typed walks: slices of one's own that are cut (queues, stacks); scopes; arrays put together; '==' of arrays. Over any program. -/
import Derived.Test.YtoaeaclcbcpheaaDoorG9
import Derived.Scope
namespace Go.Gw
open Go
set_option linter.unusedVariables false
set_option linter.unusedSimpArgs false

/-! ### 1. Queues -/
/-- A slice of one's own, from any place of its block on. -/
def OwnQ {α : Type} (e : TypeId) (d : Kd α) (v : Value) (xs : List α) : It where
  blk := v.ownBlock
  p := fun w H => (v = nilS ∧ xs = []) ∨ ∃ g off cap cur inner, v = .slice (some ⟨g, off, none⟩) xs.length cap ∧ w.heap[g]? = some (.cells cur e (0, 0)) ∧ off + cap * d.sz ≤ cur.size ∧ xs.length ≤ cap ∧ cap ≤ maxLen ∧ Reps d H xs inner ∧ Stand cur off inner
  st := fun {w w' H H'} hk hs h => by
    rcases h with h | ⟨g, off, cap, cur, inner, rfl, h2, h3, h4, h5, h6, h7⟩
    · exact .inl h
    · exact .inr ⟨g, off, cap, cur, inner, rfl, (hk g rfl).trans h2, h3, h4, h5, h6.mono hs, h7⟩
section
variable {C : Cx} {Γ : Env} {L R : List It} {Q : Exit → Act → World → Prop} {ops : Array Oper} {rest : List Oper}
variable {dst : Option Tmp} {ty : TypeId} {pos : String} {after : Array Edge} {guard : Option (Nat × Bool)} {x y z : Operand}
variable {α β : Type} {d : Kd α} {e : Kd β}
theorem own_queue {w : World} {H : FH} {t : TypeId} {v : Value} {xs : List α} (h : (OwnI t d v xs).p w H) : (OwnQ t d v xs).p w H := by
  obtain ⟨inner, ⟨h1, h2⟩, h3⟩ := h
  rcases h2 with ⟨rfl, h0⟩ | ⟨g, cap, cur, rfl, _, hb, hc, hm, hs, hi⟩
  · exact .inl ⟨rfl, List.eq_nil_of_length_eq_zero h0⟩
  · refine .inr ⟨g, 0, cap, cur, inner, rfl, hb, by omega, hc, hm, h3, fun i u e => ?_⟩
    rw [← hi, List.getElem?_take] at e
    split at e
    · simpa using e
    · cases e
theorem Owns.swap1 {ok : Nat → Prop} {w : World} {H : FH} {I J : It} (h : Owns ok w H (I :: R)) (hb : J.blk = I.blk) (hp : J.p w H) : Owns ok w H (J :: R) where
  all := fun i hi => by
    rcases List.mem_cons.1 hi with rfl | hi
    · exact hp
    · exact h.all i (List.mem_cons_of_mem _ hi)
  nodup := by
    have := h.nodup
    unfold blks at this ⊢
    cases hI : I.blk with
    | none => rw [List.filterMap_cons_none (hb.trans hI)]; rwa [List.filterMap_cons_none hI] at this
    | some g => rw [List.filterMap_cons_some (hb.trans hI)]; rwa [List.filterMap_cons_some hI] at this
  own := fun g hg => h.own g (by
    unfold blks at hg ⊢
    cases hI : I.blk with
    | none => rw [List.filterMap_cons_none (hb.trans hI)] at hg; rwa [List.filterMap_cons_none hI]
    | some g => rw [List.filterMap_cons_some (hb.trans hI)] at hg; rwa [List.filterMap_cons_some hI])
/-- A row is taken for a queue. -/
theorem tr_queue {t : TypeId} {v : Value} {xs : List α} {φ : Act → World → Prop} (hp : List.Perm L (OwnI t d v xs :: R)) (h : Tr C Γ (OwnQ t d v xs :: R) φ) : Tr C Γ L φ :=
  fun a w H f s o => h a w H f s (((o.perm hp)).swap1 rfl (own_queue ((o.perm hp).all _ List.mem_cons_self)))
theorem q_form {w : World} {H : FH} {t : TypeId} {v : Value} {xs : List α} (h : (OwnQ t d v xs).p w H) : (∃ A c, v = .slice A xs.length c ∧ xs.length ≤ c) ∧ xs.length ≤ maxLen := by
  rcases h with ⟨rfl, rfl⟩ | ⟨g, off, cap, cur, inner, rfl, h2, h3, h4, h5, h6, h7⟩
  · exact ⟨⟨none, 0, rfl, by simp⟩, by simp⟩
  · exact ⟨⟨_, cap, rfl, h4⟩, Nat.le_trans h4 h5⟩
theorem pu_len_q {t el t' : TypeId} {v : Value} {xs : List α} (hx : OT C.N Γ x (IsV v)) (hm : OwnQ t' d v xs ∈ L) (ht : C.P.underlying t = some (.slice el)) : Pure C Γ L ⟨dst, .call ⟨.builtin .len, #[x], #[t]⟩, ty, pos, after, guard⟩ (I64 xs.length) := fun a w H f s ow => by
  have h0 : a.eval x = v := hx a H f
  obtain ⟨⟨A, c, rfl, _⟩, _⟩ := q_form (ow.all _ hm)
  exact ⟨_, by simp [execOp, resolve, invoke, builtin, Builtin.len_, h0, run_underlying ht, goInt], rfl⟩
def elemQ (v : Value) (k : Nat) : Value := match v with
  | .slice (some a) _ _ => .pointer (some ⟨a.block, a.off + k, none⟩)
  | _ => undef
theorem pu_index_q {t el t' : TypeId} {k : IntKind} {v : Value} {xs : List α} {i : Int} (hx : OT C.N Γ x (IsV v)) (hm : OwnQ t' d v xs ∈ L) (hy : OT C.N Γ y (IntT k i)) (ht : C.P.underlying t = some (.slice el)) (he : tyOk C.P el d.agg d.sz = true) (h0 : 0 ≤ i) (h1 : i < xs.length) :
    Pure C Γ L ⟨dst, .indexAddr t x y, ty, pos, after, guard⟩ (IsV (elemQ v (i.toNat * d.sz))) := fun a w H f s ow => by
  have hv : a.eval x = v := hx a H f
  have hi : a.eval y = .int k i := hy a H f
  rcases ow.all _ hm with ⟨rfl, rfl⟩ | ⟨g, off, cap, cur, inner, rfl, _⟩
  · simp at h1; omega
  · refine ⟨_, ?_, rfl⟩
    simp [execOp, Instr.indexAt, hi, asIntOf, run_underlying ht, hv, h1, h0, run_sizeOf he, add_plain, elemQ]
theorem pu_load_q [Inhabited α] {t t' : TypeId} {v : Value} {xs : List α} {i : Int} (hx : OT C.N Γ x (IsV (elemQ v (i.toNat * d.sz)))) (hm : OwnQ t' d v xs ∈ L) (h0 : 0 ≤ i) (h1 : i < xs.length) (ht : tyOk C.P t d.agg d.sz = true) :
    Pure C Γ L ⟨dst, .load t x, ty, pos, after, guard⟩ (d.T (at' xs i)) := fun a w H f s ow => by
  have hv : a.eval x = elemQ v (i.toNat * d.sz) := hx a H f
  rcases ow.all _ hm with ⟨rfl, rfl⟩ | ⟨g, off, cap, cur, inner, rfl, h2, h3, h4, h5, h6, h7⟩
  · simp at h1; omega
  · have hk := h6.2 i.toNat _ (at'_some h1 h0)
    have hle := d.len hk
    refine ⟨mkV d.agg _, ?_, d.toT hk⟩
    have := run_loadVar (P := C.P) (w := w) (t := t) (agg := d.agg) (by rw [hle]; exact ht) (fun h => by rw [hle]; exact d.szone h) h2 (h7.drop _ _)
    simp [execOp, Instr.loadAt, Instr.sureAddr, hv, elemQ, this]
theorem Reps.toDrop {H : FH} {xs : List α} {cs : List Value} (h : Reps d H xs cs) (k : Nat) (hk : k ≤ xs.length) : Reps d H (xs.drop k) (cs.drop (k * d.sz)) := h.drop k hk
theorem owns_same {M : Nat → Prop} {H : FH} {w : World} {I J : It} (h : Owns C.ok w H (I :: R)) (hb : J.blk = I.blk) (hp : J.p w H) : Owns (fun g => g ∈ blks [I] ∨ w.heap.size ≤ g) w H [J] where
  all := fun i hi => by rw [List.mem_singleton.1 hi]; exact hp
  nodup := by
    unfold blks
    cases hJ : J.blk with
    | none => rw [List.filterMap_cons_none hJ]; exact List.nodup_nil
    | some g => rw [List.filterMap_cons_some hJ]; simp
  own := fun g hg => by
    obtain ⟨it, hit, h1⟩ := List.mem_filterMap.1 hg
    rw [List.mem_singleton.1 hit, hb] at h1
    have h2 := h.own g (blk_mem (i := I) List.mem_cons_self h1)
    exact ⟨h2.1, h2.2.1, .inl (blk_mem (i := I) List.mem_cons_self h1)⟩
theorem acts_slice_q {t el t' : TypeId} {k1 : IntKind} {v : Value} {xs : List α} {i : Int} (hx : OT C.N Γ x (IsV v)) (hp : List.Perm L (OwnQ t' d v xs :: R)) (hy : OT C.N Γ y (IntT k1 i)) (ht : C.P.underlying t = some (.slice el)) (he : tyOk C.P el d.agg d.sz = true) (h0 : 0 ≤ i) (h1 : i ≤ xs.length) :
    Acts C Γ L ⟨dst, .slice t x (some y) none none, ty, pos, after, guard⟩ [OwnQ t' d v xs] Value (fun r => IsV r) (fun r => [OwnQ t' d r (xs.drop i.toNat)]) (fun _ => True) := by
  intro a w H f s ow Q K hK
  have hv : a.eval x = v := hx a H f
  have hi : a.eval y = .int k1 i := hy a H f
  have o' := ow.perm hp
  have key : ∃ r, (execOp a.eval ⟨dst, .slice t x (some y) none none, ty, pos, after, guard⟩).run C.P w = .ok (.value r) w ∧ r.ownBlock = v.ownBlock ∧ (OwnQ t' d r (xs.drop i.toNat)).p w H := by
    rcases o'.all _ List.mem_cons_self with ⟨rfl, rfl⟩ | ⟨g, off, cap, cur, inner, rfl, h2, h3, h4, h5, h6, h7⟩
    · have hi0 : i = 0 := by simp at h1; omega
      subst hi0
      exact ⟨nilS, by simp [execOp, Instr.sliceAt, Instr.slice, Instr.sliceBounds, Instr.sliceBound, run_underlying ht, hv, hi, asIntOf, run_sizeOf he], rfl, .inl ⟨rfl, by simp⟩⟩
    · refine ⟨.slice (if cap = i.toNat then some ⟨g, off, none⟩ else (some ⟨g, off, none⟩ : Option Addr).map (·.add (i.toNat * d.sz))) (xs.length - i.toNat) (cap - i.toNat), ?_, ?_, ?_⟩
      · simp [execOp, Instr.sliceAt, Instr.slice, Instr.sliceBounds, Instr.sliceBound, run_underlying ht, hv, hi, asIntOf, h0, run_sizeOf he, h1]
      · split <;> simp [Value.ownBlock, add_plain]
      · have hle : i.toNat ≤ xs.length := by omega
        by_cases hc : cap = i.toNat
        · rw [if_pos hc]
          refine .inr ⟨g, off, cap - i.toNat, cur, [], by rw [List.length_drop], h2, by rw [hc, Nat.sub_self]; omega, by rw [List.length_drop]; omega, by omega, ?_, fun j u e => by simp at e⟩
          rw [List.drop_of_length_le (by omega)]; exact Reps.nil
        · rw [if_neg hc]
          simp only [Option.map_some, add_plain]
          refine .inr ⟨g, off + i.toNat * d.sz, cap - i.toNat, cur, inner.drop (i.toNat * d.sz), by rw [List.length_drop], h2, ?_, by rw [List.length_drop]; omega, by omega, h6.drop _ hle, fun j u e => ?_⟩
          · rw [Nat.sub_mul]
            have : i.toNat * d.sz ≤ cap * d.sz := Nat.mul_le_mul_right _ (by omega)
            omega
          · rw [List.getElem?_drop] at e
            rw [Nat.add_assoc]; exact h7 _ u e
  obtain ⟨r, hr, hb, hq⟩ := key
  simp only [Oper.wp, hr, Oper.upon_value]
  exact hK r r w H trivial (St.refl s.on) rfl (owns_same (M := noM) o' hb hq)
theorem acts_slice_qhi {t el t' : TypeId} {k1 : IntKind} {v : Value} {xs : List α} {i : Int} (hx : OT C.N Γ x (IsV v)) (hp : List.Perm L (OwnQ t' d v xs :: R)) (hy : OT C.N Γ y (IntT k1 i)) (ht : C.P.underlying t = some (.slice el)) (he : tyOk C.P el d.agg d.sz = true) (h0 : 0 ≤ i) (h1 : i ≤ xs.length) :
    Acts C Γ L ⟨dst, .slice t x none (some y) none, ty, pos, after, guard⟩ [OwnQ t' d v xs] Value (fun r => IsV r) (fun r => [OwnQ t' d r (xs.take i.toNat)]) (fun _ => True) := by
  intro a w H f s ow Q K hK
  have hv : a.eval x = v := hx a H f
  have hi : a.eval y = .int k1 i := hy a H f
  have o' := ow.perm hp
  have key : ∃ r, (execOp a.eval ⟨dst, .slice t x none (some y) none, ty, pos, after, guard⟩).run C.P w = .ok (.value r) w ∧ r.ownBlock = v.ownBlock ∧ (OwnQ t' d r (xs.take i.toNat)).p w H := by
    rcases o'.all _ List.mem_cons_self with ⟨rfl, rfl⟩ | ⟨g, off, cap, cur, inner, rfl, h2, h3, h4, h5, h6, h7⟩
    · have hi0 : i = 0 := by simp at h1; omega
      subst hi0
      exact ⟨nilS, by simp [execOp, Instr.sliceAt, Instr.slice, Instr.sliceBounds, Instr.sliceBound, run_underlying ht, hv, hi, asIntOf, run_sizeOf he], rfl, .inl ⟨rfl, by simp⟩⟩
    · have hc : i ≤ (cap : Int) := by omega
      refine ⟨.slice (if cap = 0 then some ⟨g, off, none⟩ else (some ⟨g, off, none⟩ : Option Addr).map (·.add (0 * d.sz))) i.toNat cap, ?_, ?_, ?_⟩
      · simp [execOp, Instr.sliceAt, Instr.slice, Instr.sliceBounds, Instr.sliceBound, run_underlying ht, hv, hi, asIntOf, h0, run_sizeOf he, hc]
      · split <;> simp [Value.ownBlock, add_plain]
      · have hle : i.toNat ≤ xs.length := by omega
        have e0 : (if cap = 0 then some ⟨g, off, none⟩ else (some ⟨g, off, none⟩ : Option Addr).map (·.add (0 * d.sz))) = some ⟨g, off, none⟩ := by split <;> simp [add_plain]
        rw [e0]
        refine .inr ⟨g, off, cap, cur, inner.take (i.toNat * d.sz), by rw [List.length_take, Nat.min_eq_left hle], h2, h3, by rw [List.length_take]; omega, h5, h6.take _ hle, fun j u e => ?_⟩
        rw [List.getElem?_take] at e
        split at e
        · exact h7 _ u e
        · cases e
  obtain ⟨r, hr, hb, hq⟩ := key
  simp only [Oper.wp, hr, Oper.upon_value]
  exact hK r r w H trivial (St.refl s.on) rfl (owns_same (M := noM) o' hb hq)
theorem run_append_room_q {P : Program} (w : World) (t ty e : TypeId) (i : TypeInfo) (ht : P.underlying t = some (.slice e)) (hi : P.info? e = some i)
    (g off sLen sCap : Nat) (cur : Array Value) (hg : w.heap[g]? = some (.cells cur e (0, 0)))
    (a : Addr) (m c : Nat) (news : List Value) (hl : news.length = m * i.size) (hnews : ∀ j u, news[j]? = some u → w.cell? (a.add j) = some u) (h1 : ∀ u ∈ news, u.oneCell' = true)
    (hroom : sLen + m ≤ sCap) (hfit : off + sLen * i.size + news.length ≤ cur.size) :
    (Builtin.append_ #[t, t] ty #[.slice (some ⟨g, off, none⟩) sLen sCap, .slice (some a) m c]).run P w =
      .ok (.slice (some ⟨g, off, none⟩) (sLen + m) sCap) (w.setRow g (cur.toList.take (off + sLen * i.size) ++ news ++ cur.toList.drop (off + sLen * i.size + news.length)).toArray) := by
  have hf := run_firstCells_some (P := P) w i.size m a m c news hl hnews
  have hst := run_storeCells_at P g (off + sLen * i.size) e news 0 cur w hg (by simpa using hfit) h1
  simp only [Nat.add_zero] at hst
  simp [Builtin.append_, run_underlying ht, sizeOf, typeInfo, hi, Builtin.lenOf, hroom, hf, add_plain, hst]
theorem acts_append_q {t el : TypeId} {bytes : Nat} {v : Value} {xs ys : List α} (hx : OT C.N Γ x (IsV v)) (hp : List.Perm L (OwnQ el d v xs :: R)) (hy : OT C.N Γ y (SlT d ys)) (ht : slTy C.P t el d.sz bytes = true) (hb : (xs.length + ys.length) * bytes ≤ 140737488355328) (hm : xs.length + ys.length ≤ maxLen) :
    Acts C Γ L ⟨dst, .call ⟨.builtin .append, #[x, y], #[t, t]⟩, ty, pos, after, guard⟩ [OwnQ el d v xs] Value (fun r => IsV r) (fun r => [OwnQ el d r (xs ++ ys)]) (fun _ => True) := by
  intro a w H f s ow Q K hK
  obtain ⟨hu, i, zz, hi, hz, hsz, hby, hzs, hpos⟩ := slTy_spec ht
  have hv : a.eval x = v := hx a H f
  obtain ⟨A, c, hw, hlc, hlm, hr⟩ := hy a H f
  have o' := ow.perm hp
  have hblk : ∀ g, v.ownBlock = some g → g < w.heap.size ∧ H g = none ∧ g ∈ blks [OwnQ el d v xs] := fun g hg =>
    let h1 := o'.own g (blk_mem (i := OwnQ el d v xs) List.mem_cons_self hg); ⟨h1.1, h1.2.1, blk_mem (i := OwnQ el d v xs) List.mem_cons_self hg⟩
  have key : ∃ v' w', (Builtin.append_ #[t, t] ty #[v, .slice A ys.length c]).run C.P w = .ok v' w' ∧ (OwnQ el d v' (xs ++ ys)).p w' H ∧ w.grownBy w' v.ownBlock ∧ (v'.ownBlock = v.ownBlock ∨ v'.ownBlock = some w.heap.size) ∧ (∀ g, v'.ownBlock = some g → g < w'.heap.size) := by
    by_cases hnil : v = nilS
    · -- a nil slice: a row of one's own
      subst hnil
      have hx0 : xs = [] := by
        rcases o'.all _ List.mem_cons_self with ⟨_, h⟩ | ⟨g, off, cap, cur, inner, h, _⟩
        · exact h
        · cases h
      subst hx0
      have hown : (OwnI el d nilS ([] : List α)).p w H := own_nil_p
      cases A with
      | none =>
        have h0 : ys = [] := by
          apply List.eq_nil_of_length_eq_zero
          rcases Nat.eq_zero_or_pos ys.length with h | h
          · exact h
          · obtain ⟨ad, _, _, _, _, h1, _⟩ := hr h; cases h1
        subst h0
        exact ⟨nilS, w, run_append_nothing w t ty el i d.sz hu hi nilS 0 [] (World.ownsRow_nil w 0 el d.sz) c, .inl ⟨rfl, rfl⟩, World.grownBy.refl w _, .inl rfl, fun g h => by cases h⟩
      | some ad =>
        obtain ⟨cs, hcs, hcell⟩ : ∃ cs, Reps d H ys cs ∧ ∀ j u, cs[j]? = some u → w.cell? (ad.add j) = some u := by
          rcases Nat.eq_zero_or_pos ys.length with h | h
          · have hnil : ys = [] := List.eq_nil_of_length_eq_zero h
            subst hnil
            exact ⟨[], Reps.nil, fun j u e => by simp at e⟩
          · obtain ⟨ad', cells, e, fr, cs, h1, h2, h3, h4, h5⟩ := hr h
            cases h1
            refine ⟨cs, h4, fun j u e => ?_⟩
            rw [Addr.plain h2, add_plain, cell_of_cells (s.on _ _ h3)]
            exact h5 j u e
        obtain ⟨v', w', h1, h2, h3, _, h5⟩ := run_append_own_at w 0 t ty el i zz d.sz bytes hu hi hz hsz hby hzs hpos nilS 0 [] (World.ownsRow_nil w 0 el d.sz) ad ys.length c cs hcs.1 hcell (Reps.cells hcs) (by simpa using hm) (by simpa using hb) (Nat.zero_le _)
        have hI : (OwnI el d v' ys).p w' H := ⟨_, by simpa using h2, by simpa using hcs⟩
        refine ⟨v', w', h1, by simpa using own_queue hI, h3, h5, fun g hg => ?_⟩
        rcases h2.2 with ⟨rfl, _⟩ | ⟨g', cap, cur, rfl, _, hh, _⟩
        · cases hg
        · have : g' = g := by simpa [Value.ownBlock] using hg
          subst this; exact (Array.getElem?_eq_some_iff.1 hh).1
    · rcases o'.all _ List.mem_cons_self with ⟨h, _⟩ | ⟨g, off, cap, cur, inner, rfl, h2, h3, h4, h5, h6, h7⟩
      · exact absurd h hnil
      cases A with
      | none =>
        have h0 : ys = [] := by
          apply List.eq_nil_of_length_eq_zero
          rcases Nat.eq_zero_or_pos ys.length with h | h
          · exact h
          · obtain ⟨ad, _, _, _, _, h1, _⟩ := hr h; cases h1
        subst h0
        refine ⟨_, w, ?_, .inr ⟨g, off, cap, cur, inner, by simp, h2, h3, by simpa using h4, h5, by simpa using h6, h7⟩, World.grownBy.refl w _, .inl rfl, fun k hk => ?_⟩
        · simp [Builtin.append_, run_underlying hu, sizeOf, typeInfo, hi, Builtin.lenOf, Builtin.firstCells, h4, storeCells]
        · have : g = k := by simpa [Value.ownBlock] using hk
          subst this; exact (Array.getElem?_eq_some_iff.1 h2).1
      | some ad =>
        obtain ⟨cs, hcs, hcell⟩ : ∃ cs, Reps d H ys cs ∧ ∀ j u, cs[j]? = some u → w.cell? (ad.add j) = some u := by
          rcases Nat.eq_zero_or_pos ys.length with h | h
          · have hnil : ys = [] := List.eq_nil_of_length_eq_zero h
            subst hnil
            exact ⟨[], Reps.nil, fun j u e => by simp at e⟩
          · obtain ⟨ad', cells, e, fr, cs, h1, h2, h3, h4, h5⟩ := hr h
            cases h1
            refine ⟨cs, h4, fun j u e => ?_⟩
            rw [Addr.plain h2, add_plain, cell_of_cells (s.on _ _ h3)]
            exact h5 j u e
        have hil := h6.1
        have hcl := hcs.1
        by_cases hroom : xs.length + ys.length ≤ cap
        · have hfit : off + xs.length * i.size + cs.length ≤ cur.size := by
            rw [hsz, hcl, Nat.add_assoc, ← Nat.add_mul]
            have : (xs.length + ys.length) * d.sz ≤ cap * d.sz := Nat.mul_le_mul_right _ hroom
            omega
          have hrr := run_append_room_q (P := C.P) w t ty el i hu hi g off xs.length cap cur h2 ad ys.length c cs (by rw [hsz]; exact hcl) hcell (Reps.cells hcs) hroom hfit
          rw [hsz] at hrr hfit
          refine ⟨_, _, hrr, .inr ⟨g, off, cap, _, inner ++ cs, by rw [List.length_append], setRow_heap w g cur _ el _ h2, ?_, by rw [List.length_append]; exact hroom, h5, h6.append hcs, ?_⟩, ⟨rfl, rfl, rfl, by simp, fun k _ hk => setRow_other w g k _ (fun e => hk (by simp [Value.ownBlock, e]))⟩, .inl rfl, fun k hk => ?_⟩
          · simp only [List.size_toArray, List.length_append, List.length_take, List.length_drop, Array.length_toList]
            omega
          · intro j u e
            have hcur : cur.toList.length = cur.size := by simp
            simp only [List.getElem?_toArray, List.getElem?_append, List.length_append, List.length_take, hcur]
            rw [List.getElem?_append] at e
            have hmin : min (off + xs.length * d.sz) cur.size = off + xs.length * d.sz := by omega
            rw [hmin]
            by_cases hj : j < inner.length
            · rw [if_pos hj] at e
              rw [if_pos (by omega), if_pos (by omega), List.getElem?_take, if_pos (by omega)]
              simpa using h7 j u e
            · rw [if_neg hj] at e
              have hjl := (List.getElem?_eq_some_iff.1 e).1
              rw [if_pos (by omega), if_neg (by omega)]
              rw [show off + j - (off + xs.length * d.sz) = j - inner.length from by omega]
              exact e
          · have : g = k := by simpa [Value.ownBlock] using hk
            subst this
            have := (Array.getElem?_eq_some_iff.1 h2).1
            simpa using this
        · have holds : ∀ j u, inner[j]? = some u → w.cell? ((⟨g, off, none⟩ : Addr).add j) = some u := fun j u e => by
            rw [add_plain, cell_of_cells h2]; exact h7 j u e
          have h63 : xs.length + ys.length ≤ 9223372036854775807 := by simp only [maxLen] at hm; omega
          have hrr := run_append_grow (P := C.P) w t ty el i zz hu hi hz ⟨g, off, none⟩ xs.length cap inner (by rw [hsz]; exact hil) holds ad ys.length c cs (by rw [hsz]; exact hcl) hcell (by omega) (by omega) (growslice_fits (by omega) (by rw [hby]; exact hb))
          have hge := grownCap_ge w (xs.length + ys.length) cap el
          have hcm : grownCap w (xs.length + ys.length) cap el ≤ maxLen := grownCap_le_maxLen w (xs.length + ys.length) cap el hm
          refine ⟨_, _, hrr, .inr ⟨w.heap.size, 0, grownCap w (xs.length + ys.length) cap el, _, inner ++ cs, by rw [List.length_append], heap_alloc_new w.drew _, ?_, by rw [List.length_append]; exact hge, hcm, h6.append hcs, ?_⟩, ⟨rfl, rfl, rfl, by simp, fun k hk _ => (World.grownBy_alloc w.drew _ none).block k hk (fun h => by cases h)⟩, .inr rfl, fun k hk => ?_⟩
          · simp only [Array.size_append, List.size_toArray, size_zeroCells, hzs, hil, hcl, ← Nat.add_mul, Nat.zero_add]
            exact Nat.mul_le_mul_right _ (by omega)
          · intro j u e
            have hjl := (List.getElem?_eq_some_iff.1 e).1
            simp only [Nat.zero_add]
            rw [Array.getElem?_append_left (by simp at hjl ⊢; omega)]
            simpa [List.getElem?_append] using e
          · have : w.heap.size = k := by simpa [Value.ownBlock] using hk
            subst this; simp
  obtain ⟨v', w', h1, h2, h4, h5, h6⟩ := key
  have hrun : (execOp a.eval ⟨dst, .call ⟨.builtin .append, #[x, y], #[t, t]⟩, ty, pos, after, guard⟩).run C.P w = .ok (.value v') w' := by
    simp [execOp, resolve, invoke, builtin, hv, hw, h1]
  simp only [Oper.wp, hrun, Oper.upon_value]
  refine hK v' v' w' H trivial (st_grown s.on h4 fun g hg => ⟨(hblk g hg).2.1, (hblk g hg).2.2⟩) rfl ⟨?_, ?_, ?_⟩
  · intro it hit
    rw [List.mem_singleton.1 hit]; exact h2
  · unfold blks
    cases hq : v'.ownBlock with
    | none => rw [List.filterMap_cons_none (by exact hq)]; exact List.nodup_nil
    | some k => rw [List.filterMap_cons_some (by exact hq)]; simp
  · intro g hg
    have hg' : v'.ownBlock = some g := by
      obtain ⟨it, hit, hb⟩ := List.mem_filterMap.1 hg
      rw [List.mem_singleton.1 hit] at hb; exact hb
    refine ⟨h6 g hg', ?_, ?_⟩
    · rcases h5 with h5 | h5
      · rw [h5] at hg'; exact (hblk g hg').2.1
      · rw [h5] at hg'; cases hg'; exact fh_new s.on
    · rcases h5 with h5 | h5
      · rw [h5] at hg'; exact .inl (hblk g hg').2.2
      · rw [h5] at hg'; cases hg'; exact .inr (Nat.le_refl _)

/-! ### 2. Scopes -/
theorem tr_scope {c : Code} (h : Tr C Γ L (c.wp C.P (Exit.noGoto Q))) : Tr C Γ L ((Code.scope c).wp C.P Q) := h.imp fun _ _ => wp_scope_straight
theorem scope_normal (h : Tr C Γ L (Q .normal)) : Tr C Γ L (Exit.noGoto Q .normal) := h
theorem scope_exit {i : Nat} (h : Tr C Γ L (Q (.exit i))) : Tr C Γ L (Exit.noGoto Q (.exit i)) := h
theorem scope_ret (h : Tr C Γ L (Q .ret)) : Tr C Γ L (Exit.noGoto Q .ret) := h

/-! ### 3. Arrays put together; '==' -/
theorem pu_build_arr {t el : TypeId} {n sz : Nat} {agg : Bool} {v0 v : α} {parts : List (Nat × Operand)} (ht : C.P.underlying t = some (.array n el)) (hs : tyOk C.P el agg sz = true) (hz : ZeroOf C.P t d v0) (hagg : d.agg = true) (hf : Fills C.N Γ d (fun i => some (i * sz, sz)) v0 parts v) :
    Pure C Γ L ⟨dst, .build t parts.toArray, ty, pos, after, guard⟩ (d.T v) := fun a w H f s ow => by
  obtain ⟨zv, h1, h2⟩ := run_zero (w := w) hz
  obtain ⟨cs, h3, _, h4⟩ := cells_of_T (h2 H)
  obtain ⟨cells', h5, h6⟩ := fills_run f (cells := cs.toArray) hf h3
  have h7 := d.toT h6
  rw [hagg] at h7
  refine ⟨.agg cells', ?_, by simpa [mkV] using h7⟩
  have h5' : Instr.fill (fun i => some (i * sz, sz)) cs.toArray ((parts.toArray.map fun p => (p.1, a.eval p.2)).toList) = some cells' := by simpa using h5
  simp only [execOp, Instr.build, Sem.run_bind, h1, Result.andThen_ok, run_underlying ht, run_sizeOf hs, h4, h5']
  simp
/-- '==' of a type's values is that of its data. -/
def EqOk [DecidableEq α] (P : Program) (t : TypeId) (d : Kd α) : Prop := ∀ (H : FH) (w : World) (u v : α) (a b : Value) (x y : Operand), (d.T u).p H a → (d.T v).p H b →
  (eqGuard .eql t x y a b).run P w = .ok () w ∧ (eqGuard .neq t x y a b).run P w = .ok () w ∧ (binOp .eql t a b).run P w = .ok (.bool (decide (u = v))) w ∧ (binOp .neq t a b).run P w = .ok (.bool (!decide (u = v))) w
theorem pu_eq_of [DecidableEq α] {t t2 : TypeId} {u v : α} (he : EqOk C.P t d) (hx : OT C.N Γ x (d.T u)) (hy : OT C.N Γ y (d.T v)) : Pure C Γ L ⟨dst, .binOp .eql t x y t2, ty, pos, after, guard⟩ (BoolT (decide (u = v))) := fun a w H f s ow => by
  obtain ⟨h1, _, h2, _⟩ := he H w u v _ _ x y (hx a H f) (hy a H f)
  exact ⟨_, by simp [execOp, h1, h2], rfl⟩
theorem pu_ne_of [DecidableEq α] {t t2 : TypeId} {u v : α} (he : EqOk C.P t d) (hx : OT C.N Γ x (d.T u)) (hy : OT C.N Γ y (d.T v)) : Pure C Γ L ⟨dst, .binOp .neq t x y t2, ty, pos, after, guard⟩ (BoolT (!decide (u = v))) := fun a w H f s ow => by
  obtain ⟨_, h1, _, h2⟩ := he H w u v _ _ x y (hx a H f) (hy a H f)
  exact ⟨_, by simp [execOp, h1, h2], rfl⟩
end
end Go.Gw
