/- Typed walks: small lemmas for the written-out walks. Over any program. -/
import Derived.Test.YtoaeaclcbcpheaaDoorG7
namespace Go.Gw
open Go
set_option linter.unusedVariables false
set_option linter.unusedSimpArgs false

theorem perm_at : ∀ {L : List It} (i : Nat) {x : It}, L[i]? = some x → List.Perm L (x :: L.eraseIdx i)
  | [], i, x, h => by simp at h
  | y :: L, 0, x, h => by
    have : y = x := by simpa using h
    subst this; exact List.Perm.refl _
  | y :: L, i + 1, x, h => ((perm_at i (x := x) (by simpa using h)).cons y).trans (List.Perm.swap x y _)
theorem mem_at {L : List It} (i : Nat) {x : It} (h : L[i]? = some x) : x ∈ L := List.mem_of_getElem? h
theorem OT.eq {N : Nat} {Γ : Env} {x : Operand} {T T' : Ty} (h : OT N Γ x T) (e : T = T') : OT N Γ x T' := e ▸ h
theorem Pure.val {C : Cx} {Γ : Env} {L : List It} {o : Oper} {u v : Value} (h : Pure C Γ L o (IsV u)) (e : u = v) : Pure C Γ L o (IsV v) := e ▸ h
theorem OT.val {N : Nat} {Γ : Env} {x : Operand} {u v : Value} (h : OT N Γ x (IsV u)) (e : u = v) : OT N Γ x (IsV v) := e ▸ h
section
variable {C : Cx} {Γ : Env} {L R : List It} {Q : Exit → Act → World → Prop} {ops : Array Oper} {rest : List Oper}
variable {dst : Option Tmp} {ty : TypeId} {pos : String} {after : Array Edge} {guard : Option (Nat × Bool)} {x y z : Operand}
variable {α β : Type} {d : Kd α} {e : Kd β}

/-! ### fields -/
def fieldOk (P : Program) (t : TypeId) (i off : Nat) (agg : Bool) (sz : Nat) : Bool := match P.underlying t with
  | some (.struct fs) => match fs[i]? with
    | some f => Nat.beq f.offset off && tyOk P f.type agg sz && Nat.ble 1 sz
    | none => false
  | _ => false
theorem fieldOk_spec {P : Program} {t : TypeId} {i off : Nat} {agg : Bool} {sz : Nat} (h : fieldOk P t i off agg sz = true) : ∃ fs f, P.underlying t = some (.struct fs) ∧ fs[i]? = some f ∧ f.offset = off ∧ tyOk P f.type agg sz = true ∧ 0 < sz := by
  unfold fieldOk at h
  cases hu : P.underlying t with
  | none => rw [hu] at h; cases h
  | some D =>
    rw [hu] at h
    cases D with
    | struct fs =>
      cases hf : fs[i]? with
      | none => simp only [hf] at h; cases h
      | some f =>
        simp only [hf, Bool.and_eq_true] at h
        exact ⟨fs, f, rfl, hf, Nat.eq_of_beq_eq_true h.1.1, h.1.2, Nat.le_of_ble_eq_true h.2⟩
    | _ => cases h
theorem run_part {P : Program} {w : World} {t : TypeId} {H : FH} {cs : List Value} {off : Nat} {g : β} (ht : tyOk P t e.agg e.sz = true) (hk : e.K H g ((cs.drop off).take e.sz)) (hle : off + e.sz ≤ cs.length) : (part t cs.toArray off).run P w = .ok (mkV e.agg ((cs.drop off).take e.sz)) w := by
  unfold part
  cases hag : e.agg with
  | true =>
    rw [hag] at ht
    simp [run_isAgg ht, run_sizeOf ht, mkV, List.take_drop]
  | false =>
    rw [hag] at ht
    have h1 : e.sz = 1 := e.szone hag
    have h2 : off < cs.length := by omega
    simp [run_isAgg ht, mkV, h1, h2, List.head?_take, List.head?_drop]
theorem pu_field {t : TypeId} {i off : Nat} {v : α} {g : β} {set : β → α} (hx : OT C.N Γ x (d.T v)) (hl : Lens d e off v g set) (hf : fieldOk C.P t i off e.agg e.sz = true) (hagg : d.agg = true) :
    Pure C Γ L ⟨dst, .field t x i, ty, pos, after, guard⟩ (e.T g) := fun a w H f s ow => by
  obtain ⟨cs, hK, hv⟩ := d.ofT (hx a H f)
  rw [hagg] at hv
  obtain ⟨fs, fd, hu, hfi, hoff, hty, _⟩ := fieldOk_spec hf
  have hk := hl.get hK
  have hfit := hl.fit
  have hdl := d.len hK
  refine ⟨mkV e.agg _, ?_, e.toT hk⟩
  have := run_part (w := w) hty hk (by omega)
  simp only [mkV, if_true] at hv
  simp [execOp, Instr.field, run_underlying hu, hfi, hv, asAgg, hoff, this]
theorem run_fieldPlace {P : Program} {w : World} {g off : Nat} {f : Field} {agg : Bool} {sz : Nat} (ht : tyOk P f.type agg sz = true) (hs : 0 < sz) : (fieldPlace ⟨g, off, none⟩ f).run P w = .ok ⟨g, off + f.offset, none⟩ w := by
  simp [fieldPlace, run_sizeOf ht, show ¬ sz = 0 from by omega, add_plain]
/-- A field's address in a variable. -/
theorem pu_faddr {t : TypeId} {i off b fo : Nat} {agg : Bool} {sz : Nat} (hx : OT C.N Γ x (IsV (pt b off))) (hf : fieldOk C.P t i fo agg sz = true) :
    Pure C Γ L ⟨dst, .fieldAddr t x i, ty, pos, after, guard⟩ (IsV (pt b (off + fo))) := fun a w H f s ow => by
  have hv : a.eval x = pt b off := hx a H f
  obtain ⟨fs, fd, hu, hfi, hoff, hty, hpos⟩ := fieldOk_spec hf
  refine ⟨_, ?_, rfl⟩
  have := run_fieldPlace (w := w) (g := b) (off := off) hty hpos
  simp [execOp, Instr.fieldAt, run_underlying hu, hfi, hv, pt, Instr.sureAddr, this, hoff]
/-- A field's address in what is frozen. -/
theorem pu_faddr_at {t : TypeId} {i off : Nat} {v : α} {g : β} {set : β → α} (hx : OT C.N Γ x (AtT d v)) (hl : Lens d e off v g set) (hf : fieldOk C.P t i off e.agg e.sz = true) :
    Pure C Γ L ⟨dst, .fieldAddr t x i, ty, pos, after, guard⟩ (AtT e g) := fun a w H f s ow => by
  obtain ⟨b, o, cells, t', fr, cs, hv, hb, hk, hS⟩ := hx a H f
  obtain ⟨fs, fd, hu, hfi, hoff, hty, hpos⟩ := fieldOk_spec hf
  have := run_fieldPlace (w := w) (g := b) (off := o) hty hpos
  rw [hoff] at this
  refine ⟨.pointer (some ⟨b, o + off, none⟩), ?_, b, o + off, cells, t', fr, _, rfl, hb, hl.get hk, hS.drop _ _⟩
  simp [execOp, Instr.fieldAt, run_underlying hu, hfi, hv, Instr.sureAddr, this]
/-- A field's address in an element of an owned row. -/
theorem pu_faddr_own {t t' : TypeId} {i off fo : Nat} {agg : Bool} {sz : Nat} {v : Value} {xs : List α} (hx : OT C.N Γ x (IsV (ptrAt v off))) (hm : OwnI t' d v xs ∈ L) (hn : 0 < xs.length) (hf : fieldOk C.P t i fo agg sz = true) :
    Pure C Γ L ⟨dst, .fieldAddr t x i, ty, pos, after, guard⟩ (IsV (ptrAt v (off + fo))) := fun a w H f s ow => by
  have hv : a.eval x = ptrAt v off := hx a H f
  obtain ⟨b, cap, cur, cs, rfl, _⟩ := own_stand (ow.all _ hm) hn
  obtain ⟨fs, fd, hu, hfi, hoff, hty, hpos⟩ := fieldOk_spec hf
  have := run_fieldPlace (w := w) (g := b) (off := off) hty hpos
  refine ⟨_, ?_, rfl⟩
  simp [execOp, Instr.fieldAt, run_underlying hu, hfi, hv, ptrAt, Instr.sureAddr, this, hoff]
/-- An element's address in an array that is frozen. -/
theorem pu_index_at [Inhabited α] {t el : TypeId} {k : IntKind} {n : Nat} {xs : List α} {i : Int} (hx : OT C.N Γ x (AtT (karr n d) xs)) (hy : OT C.N Γ y (IntT k i)) (ht : C.P.underlying t = some (.array n el)) (he : tyOk C.P el d.agg d.sz = true) (h0 : 0 ≤ i) (h1 : i < n) :
    Pure C Γ L ⟨dst, .indexAddr t x y, ty, pos, after, guard⟩ (AtT d (at' xs i)) := fun a w H f s ow => by
  obtain ⟨b, o, cells, t', fr, cs, hv, hb, hk, hS⟩ := hx a H f
  have hi : a.eval y = .int k i := hy a H f
  have hlen := hk.1
  have hk2 := hk.2.2 i.toNat _ (at'_some (xs := xs) (by omega) h0)
  refine ⟨.pointer (some ⟨b, o + i.toNat * d.sz, none⟩), ?_, b, _, cells, t', fr, _, rfl, hb, hk2, hS.drop _ _⟩
  simp [execOp, Instr.indexAt, hi, asIntOf, run_underlying ht, hv, h1, h0, run_sizeOf he, add_plain, Instr.sureAddr]

/-! ### pieces of slices and texts -/
theorem row_cut {H : FH} {A : Option Addr} {xs : List α} {lo hi c : Nat} (h : Row d H A xs) (hlo : lo ≤ hi) (hhi : hi ≤ xs.length) (hc : xs.length ≤ c) : Row d H (if c = lo then A else A.map (·.add (lo * d.sz))) ((xs.take hi).drop lo) := by
  intro hn
  rw [List.length_drop, List.length_take] at hn
  obtain ⟨ad, cells, e, fr, cs, rfl, h2, h3, h4, h5⟩ := h (by omega)
  have h6 := (h4.take hi hhi).drop lo (by rw [List.length_take]; omega)
  refine ⟨ad.add (lo * d.sz), cells, e, fr, _, by rw [if_neg (by omega)]; rfl, ?_, ?_, h6, ?_⟩
  · rw [Addr.plain h2, add_plain]
  · rw [Addr.plain h2, add_plain]; exact h3
  · rw [Addr.plain h2, add_plain]
    intro i u e
    rw [List.getElem?_drop, List.getElem?_take] at e
    split at e
    · rw [Nat.add_assoc]; exact h5 _ u e
    · cases e
theorem pu_slice {t el : TypeId} {xs : List α} {k1 k2 : IntKind} {i j : Int} (hx : OT C.N Γ x (SlT d xs)) (hy : OT C.N Γ y (IntT k1 i)) (hz : OT C.N Γ z (IntT k2 j)) (ht : C.P.underlying t = some (.slice el)) (he : tyOk C.P el d.agg d.sz = true) (h0 : 0 ≤ i) (h1 : i ≤ j) (h2 : j ≤ xs.length) :
    Pure C Γ L ⟨dst, .slice t x (some y) (some z) none, ty, pos, after, guard⟩ (SlT d ((xs.take j.toNat).drop i.toNat)) := fun a w H f s ow => by
  obtain ⟨A, c, hv, hc, hm, hr⟩ := hx a H f
  have hi : a.eval y = .int k1 i := hy a H f
  have hj : a.eval z = .int k2 j := hz a H f
  have hcut := row_cut (lo := i.toNat) (hi := j.toNat) hr (by omega) (by omega) hc
  have hjc : j ≤ (c : Int) := by omega
  refine ⟨.slice (if c = i.toNat then A else A.map (·.add (i.toNat * d.sz))) (j.toNat - i.toNat) (c - i.toNat), ?_, _, _, by rw [List.length_drop, List.length_take, Nat.min_eq_left (by omega)], by rw [List.length_drop, List.length_take]; omega, by rw [List.length_drop, List.length_take]; omega, hcut⟩
  have hij : i ≤ ((j.toNat : Nat) : Int) := by omega
  have h0j : 0 ≤ j := by omega
  have hmx : max j 0 = j := by omega
  simp [execOp, Instr.sliceAt, Instr.slice, Instr.sliceBounds, Instr.sliceBound, run_underlying ht, hv, hi, hj, asIntOf, h0, h0j, hjc, hij, run_sizeOf he, hmx, h1]
theorem pu_slice_lo {t el : TypeId} {xs : List α} {k1 : IntKind} {i : Int} (hx : OT C.N Γ x (SlT d xs)) (hy : OT C.N Γ y (IntT k1 i)) (ht : C.P.underlying t = some (.slice el)) (he : tyOk C.P el d.agg d.sz = true) (h0 : 0 ≤ i) (h1 : i ≤ xs.length) :
    Pure C Γ L ⟨dst, .slice t x (some y) none none, ty, pos, after, guard⟩ (SlT d (xs.drop i.toNat)) := fun a w H f s ow => by
  obtain ⟨A, c, hv, hc, hm, hr⟩ := hx a H f
  have hi : a.eval y = .int k1 i := hy a H f
  have hcut := row_cut (lo := i.toNat) (hi := xs.length) hr (by omega) (by omega) hc
  rw [List.take_length] at hcut
  refine ⟨.slice (if c = i.toNat then A else A.map (·.add (i.toNat * d.sz))) (xs.length - i.toNat) (c - i.toNat), ?_, _, _, by rw [List.length_drop], by rw [List.length_drop]; omega, by rw [List.length_drop]; omega, hcut⟩
  simp [execOp, Instr.sliceAt, Instr.slice, Instr.sliceBounds, Instr.sliceBound, run_underlying ht, hv, hi, asIntOf, h0, run_sizeOf he, h1]
theorem pu_slice_hi {t el : TypeId} {xs : List α} {k2 : IntKind} {j : Int} (hx : OT C.N Γ x (SlT d xs)) (hz : OT C.N Γ z (IntT k2 j)) (ht : C.P.underlying t = some (.slice el)) (he : tyOk C.P el d.agg d.sz = true) (h0 : 0 ≤ j) (h2 : j ≤ xs.length) :
    Pure C Γ L ⟨dst, .slice t x none (some z) none, ty, pos, after, guard⟩ (SlT d (xs.take j.toNat)) := fun a w H f s ow => by
  obtain ⟨A, c, hv, hc, hm, hr⟩ := hx a H f
  have hj : a.eval z = .int k2 j := hz a H f
  have hcut := row_cut (lo := 0) (hi := j.toNat) hr (by omega) (by omega) hc
  rw [List.drop_zero] at hcut
  have hjc : j ≤ (c : Int) := by omega
  refine ⟨.slice (if c = 0 then A else A.map (·.add (0 * d.sz))) j.toNat c, ?_, _, _, by rw [List.length_take, Nat.min_eq_left (by omega)], by rw [List.length_take]; omega, by rw [List.length_take]; omega, hcut⟩
  simp [execOp, Instr.sliceAt, Instr.slice, Instr.sliceBounds, Instr.sliceBound, run_underlying ht, hv, hj, asIntOf, h0, hjc, run_sizeOf he]
end
end Go.Gw
namespace Go.Gw
section
variable {C : Cx} {Γ : Env} {L : List It} {Q : Exit → Act → World → Prop}
theorem tr_env {Γ' : Env} {φ : Act → World → Prop} (h : EnvSub C.N Γ Γ') (k : Tr C Γ' L φ) : Tr C Γ L φ := fun a w H f s o => k a w H (h a H f) s o
theorem tr_loopK {σ : Type} {Γk : Env} (hk : EnvSub C.N Γ Γk) (Δ : σ → Env) (Ll : σ → List It) (I : σ → Prop) (μ : σ → Nat) {c : Code} (s0 : σ) (h0 : I s0) (hd : EnvSub C.N Γ (Δ s0)) (hL : ∀ w H, Owns C.ok w H L → Owns C.ok w H (Ll s0))
    (hround : ∀ s, I s → Tr C (Δ s ++ Γk) (Ll s) (c.wp C.P (Exit.then (Round C (fun s => Δ s ++ Γk) Ll I μ (μ s)) Q))) : Tr C Γ L ((Code.loop c).wp C.P Q) :=
  tr_loop (fun s => Δ s ++ Γk) Ll I μ s0 h0 (fun a w H f o => ⟨es_append hd hk a H f, hL w H o⟩) hround
theorem own_id {ok : Nat → Prop} : ∀ w H, Owns ok w H L → Owns ok w H L := fun _ _ h => h
theorem own_perm {ok : Nat → Prop} {L' : List It} (h : List.Perm L L') : ∀ w H, Owns ok w H L → Owns ok w H L' := fun _ _ o => o.perm h
theorem own_sub {ok : Nat → Prop} {L' : List It} (h : List.Sublist L' L) : ∀ w H, Owns ok w H L → Owns ok w H L' := fun _ _ o => o.sub h
/-- What is asked is picked by its places. -/
theorem own_pick {ok : Nat → Prop} {L' R : List It} (h : List.Perm L (L' ++ R)) : ∀ w H, Owns ok w H L → Owns ok w H L' := fun _ _ o => (o.perm h).left
end
end Go.Gw
namespace Go.Gw
/-- L' can be picked out of L. -/
def Picks (L L' : List It) : Prop := ∃ R, List.Perm L (L' ++ R)
theorem picks_nil {L : List It} : Picks L [] := ⟨L, List.Perm.refl _⟩
theorem picks_cons {L L' : List It} (i : Nat) {x : It} (h : L[i]? = some x) (hp : Picks (L.eraseIdx i) L') : Picks L (x :: L') :=
  let ⟨R, hR⟩ := hp; ⟨R, (perm_at i h).trans (hR.cons x)⟩
theorem own_picks {ok : Nat → Prop} {L L' : List It} (h : Picks L L') : ∀ w H, Owns ok w H L → Owns ok w H L' := fun _ _ o => let ⟨_, hR⟩ := h; (o.perm hR).left
end Go.Gw
