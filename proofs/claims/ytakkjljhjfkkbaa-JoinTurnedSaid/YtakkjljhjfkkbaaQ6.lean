/- The texts G31, G32, JnA of this claim, put together in their order. No condition of their own. -/
import Derived.Test.YtakkjljhjfkkbaaQ5
import Derived.Test.YtakkjljhjfkkbaaQ2
/- Typed walks: what is owned becomes readable, several items at once; pointers; facts out of items. Over any program. -/
namespace Go.Gw
open Go Go.MapKept
set_option linter.unusedVariables false
set_option linter.unusedSimpArgs false
set_option linter.unusedSectionVars false
/-! ### 1. Freezing, several items -/
def Frz (J : List It) (Q : FH → Prop) : Prop := ∀ (ok : Nat → Prop) (w : World) (H : FH) (R : List It), On H w → Owns ok w H (J ++ R) →
  ∃ H', Sub H H' ∧ On H' w ∧ (∀ k o, H' k = some o → H k = some o ∨ ok k) ∧ Owns ok w H' R ∧ Q H'
def Mono (Q : FH → Prop) : Prop := ∀ {H H' : FH}, Sub H H' → Q H → Q H'
theorem Mono.ty {T : Ty} {v : Value} : Mono fun H => T.p H v := fun hs h => T.mono hs h
theorem Mono.and {Q Q' : FH → Prop} (h : Mono Q) (h' : Mono Q') : Mono fun H => Q H ∧ Q' H := fun hs x => ⟨h hs x.1, h' hs x.2⟩
theorem Mono.all {α : Type} {l : List α} {Q : α → FH → Prop} (h : ∀ x, Mono (Q x)) : Mono fun H => ∀ x ∈ l, Q x H := fun hs x y hy => h y hs (x y hy)
theorem Frz.nil : Frz [] fun _ => True := fun ok w H R hon ho => ⟨H, Sub.refl _, hon, fun k o e => .inl e, ho, trivial⟩
theorem Frz.imp {J : List It} {Q Q' : FH → Prop} (h : Frz J Q) (hi : ∀ H, Q H → Q' H) : Frz J Q' := fun ok w H R hon ho => let ⟨H', a, b, c, d, e⟩ := h ok w H R hon ho; ⟨H', a, b, c, d, hi H' e⟩
theorem Frz.app {J J' : List It} {Q Q' : FH → Prop} (h : Frz J Q) (hm : Mono Q) (h' : Frz J' Q') : Frz (J ++ J') fun H => Q H ∧ Q' H := by
  intro ok w H R hon ho
  rw [List.append_assoc] at ho
  obtain ⟨H1, a1, b1, c1, d1, e1⟩ := h ok w H (J' ++ R) hon ho
  obtain ⟨H2, a2, b2, c2, d2, e2⟩ := h' ok w H1 R b1 d1
  exact ⟨H2, a1.trans a2, b2, fun k o e => (c2 k o e).elim (fun e => c1 k o e) .inr, d2, hm a2 e1, e2⟩
theorem Frz.cons {I : It} {J' : List It} {Q Q' : FH → Prop} (h : Frz [I] Q) (hm : Mono Q) (h' : Frz J' Q') : Frz (I :: J') fun H => Q H ∧ Q' H := h.app hm h'
theorem Frz.flat {α : Type} {f : α → List It} {Q : α → FH → Prop} (hm : ∀ x, Mono (Q x)) : ∀ (l : List α), (∀ x ∈ l, Frz (f x) (Q x)) → Frz (l.flatMap f) fun H => ∀ x ∈ l, Q x H
  | [], _ => Frz.nil.imp fun H _ x hx => by cases hx
  | x :: l, h => by
    rw [List.flatMap_cons]
    refine ((h x List.mem_cons_self).app (hm x) (Frz.flat hm l fun y hy => h y (List.mem_cons_of_mem _ hy))).imp ?_
    rintro H ⟨h1, h2⟩ y hy
    rcases List.mem_cons.1 hy with rfl | hy
    · exact h1
    · exact h2 y hy
theorem Frz.map_ {α : Type} {f : α → It} {Q : α → FH → Prop} (hm : ∀ x, Mono (Q x)) (l : List α) (h : ∀ x, Frz [f x] (Q x)) : Frz (l.map f) fun H => ∀ x ∈ l, Q x H := by
  rw [show l.map f = l.flatMap fun x => [f x] from by induction l <;> simp_all]
  exact Frz.flat hm l fun x _ => h x
section
variable {α κ : Type} {d : Kd α}
theorem Frz.own {t : TypeId} {v : Value} {xs : List α} : Frz [OwnI t d v xs] fun H => (SlT d xs).p H v := by
  intro ok w H R hon ho
  have hb : ∀ g, v.ownBlock = some g → g < w.heap.size ∧ H g = none ∧ ok g := fun g hg => ho.own g (blk_mem (i := OwnI t d v xs) List.mem_cons_self hg)
  obtain ⟨H', h1, h2, h3, h4⟩ := own_frozen (ho.all _ List.mem_cons_self) (fun g hg => (hb g hg).2.1) hon
  exact ⟨H', h1, h2, fun k o e => (h3 k o e).imp id fun e => (hb k e).2.2, frozen_sub ho h1 h3, h4⟩
theorem Frz.obj {I : It} {g : Nat} {Q : FH → Prop} (hI : I.blk = some g) (h : ∀ w H, I.p w H → ∃ o, w.heap[g]? = some o ∧ ∀ H', Sub H H' → H' g = some o → Q H') : Frz [I] Q := by
  intro ok w H R hon ho
  have hb := ho.own g (blk_mem (i := I) List.mem_cons_self hI)
  obtain ⟨o, h1, h2⟩ := h w H (ho.all _ List.mem_cons_self)
  have hs := addH_sub (o := o) hb.2.1
  refine ⟨addH H g o, hs, addH_on hon h1, fun k u e => ?_, frozen_sub ho hs fun k u e => ?_, h2 _ hs (by simp [addH])⟩
  all_goals
    unfold addH at e
    by_cases hk : k = g
    · subst hk; first | exact .inr hb.2.2 | exact .inr hI
    · rw [if_neg hk] at e; exact .inl e
theorem Frz.blk {g : Nat} {t : TypeId} {x : α} : Frz [BlkI g t d x] fun H => (AtT d x).p H (pt g 0) :=
  Frz.obj (I := BlkI g t d x) rfl fun w H ⟨cs, h1, h2⟩ => ⟨_, h2, fun H' hs hg => ⟨g, 0, cs.toArray, t, (0, 0), cs, rfl, hg, d.mono hs h1, fun i u e => by simpa using e⟩⟩
theorem Frz.mapI {g : Nat} {enc : κ → Value} {V : α → Ty} {m : List (κ × α)} : Frz [MapI g enc V m] fun H => (MapT enc V m).p H (mp g) :=
  Frz.obj (I := MapI g enc V m) rfl fun w H ⟨es, clock, h1, h2⟩ => ⟨_, h1, fun H' hs hg => .inr ⟨g, es, clock, rfl, hg, h2.mono hs⟩⟩
theorem AtT.conv {β : Type} {e : Kd β} {H : FH} {v : Value} {x : α} {y : β} (h : (AtT d x).p H v) (hc : ∀ cs, d.K H x cs → e.K H y cs) : (AtT e y).p H v := by
  obtain ⟨g, off, cells, t, fr, cs, h1, h2, h3, h4⟩ := h
  exact ⟨g, off, cells, t, fr, cs, h1, h2, hc cs h3, h4⟩
theorem MapT.conv {β : Type} {enc : κ → Value} {V : α → Ty} {V' : β → Ty} {m : List (κ × α)} {H : FH} {v : Value} (f : κ × α → β) (h : (MapT enc V m).p H v) (hc : ∀ p ∈ m, ∀ u, (V p.2).p H u → (V' (f p)).p H u) : (MapT enc V' (m.map fun p => (p.1, f p))).p H v := by
  rcases h with ⟨h1, rfl⟩ | ⟨g, es, clock, h1, h2, h3⟩
  · exact .inl ⟨h1, rfl⟩
  · refine .inr ⟨g, es, clock, h1, h2, ?_, fun i e p hi hp => ?_, by simpa [keys, Function.comp_def] using h3.nd, h3.bn, h3.lt⟩
    · rw [h3.key, List.map_map]; rfl
    · rw [List.getElem?_map] at hp
      cases hm : m[i]? with
      | none => rw [hm] at hp; cases hp
      | some q =>
        rw [hm] at hp
        cases hp
        exact hc q (List.mem_of_getElem? hm) _ (h3.val i e q hi hm)
end
section
variable {C : Cx} {Γ : Env} {L R J : List It} {dst : Option Tmp} {ty : TypeId} {pos : String} {after : Array Edge} {guard : Option (Nat × Bool)} {x y : Operand}
theorem tr_frz {Q : FH → Prop} {v : Value} {T : Ty} {φ : Act → World → Prop} (hf : Frz J Q) (hp : List.Perm L (J ++ R)) (sl : Nat) (hv : OT C.N Γ (.tmp sl) (IsV v)) (hT : ∀ H, Q H → T.p H v) (h : Tr C ((sl, T) :: Γ) R φ) : Tr C Γ L φ := by
  intro a w H f s o
  obtain ⟨H', h1, h2, h3, h4, h5⟩ := hf _ w H R s.on (o.perm hp)
  refine h a w H' (fits_cons ?_ (f.mono h1)) ⟨s.sub.trans h1, h2, s.os, s.tape, s.output, s.size, s.keep, fun k o e => ?_⟩ h4
  · have : a.eval (.tmp sl) = v := hv a H f
    simp only [Act.eval] at this
    rw [this]; exact hT H' h5
  · rcases h3 k o e with e | e
    · exact s.new k o e
    · rcases e with e | e
      · exact .inr (.inr e)
      · exact .inr (.inl e)
theorem tr_frz2 {Q : FH → Prop} {v v2 : Value} {T T2 : Ty} {φ : Act → World → Prop} (hf : Frz J Q) (hp : List.Perm L (J ++ R)) (sl sl2 : Nat) (hv : OT C.N Γ (.tmp sl) (IsV v)) (hv2 : OT C.N Γ (.tmp sl2) (IsV v2)) (hT : ∀ H, Q H → T.p H v ∧ T2.p H v2) (h : Tr C ((sl, T) :: (sl2, T2) :: Γ) R φ) : Tr C Γ L φ := by
  intro a w H f s o
  obtain ⟨H', h1, h2, h3, h4, h5⟩ := hf _ w H R s.on (o.perm hp)
  refine h a w H' (fits_cons ?_ (fits_cons ?_ (f.mono h1))) ⟨s.sub.trans h1, h2, s.os, s.tape, s.output, s.size, s.keep, fun k o e => ?_⟩ h4
  · have : a.eval (.tmp sl) = v := hv a H f
    simp only [Act.eval] at this
    rw [this]; exact (hT H' h5).1
  · have : a.eval (.tmp sl2) = v2 := hv2 a H f
    simp only [Act.eval] at this
    rw [this]; exact (hT H' h5).2
  · rcases h3 k o e with e | e
    · exact s.new k o e
    · rcases e with e | e
      · exact .inr (.inr e)
      · exact .inr (.inl e)
/-- A fact that an item bears. -/
theorem tr_fact {I : It} {p : Prop} {φ : Act → World → Prop} (hm : I ∈ L) (hp : ∀ w H, I.p w H → p) (h : p → Tr C Γ L φ) : Tr C Γ L φ := fun a w H f s o => h (hp w H (o.all _ hm)) a w H f s o
theorem own_cell {α : Type} {d : Kd α} {t : TypeId} {v : Value} {xs : List α} : ∀ w H, (OwnI t d v xs).p w H → v.oneCell' = true := fun w H h => by
  obtain ⟨⟨A, c, rfl, _⟩, _⟩ := own_form h
  rfl
theorem tr_mapnd {α κ : Type} {g : Nat} {enc : κ → Value} {V : α → Ty} {m : List (κ × α)} : ∀ w H, (MapI g enc V m).p w H → (keys m).Nodup := fun w H ⟨_, _, _, h⟩ => h.nd
/-! ### 2. Pointers -/
theorem pu_nilCheck_at {α : Type} {d : Kd α} {v : α} (hx : OT C.N Γ x (AtT d v)) : Pure C Γ L ⟨dst, .nilCheck x, ty, pos, after, guard⟩ (AtT d v) := fun a w H f s ow => by
  obtain ⟨g, off, cells, t, fr, cs, h1, h2⟩ := hx a H f
  exact ⟨_, by simp [execOp, h1], g, off, cells, t, fr, cs, rfl, h2⟩
theorem run_ptr_eq {P : Program} {w : World} {t : TypeId} {el : TypeId} (ht : P.underlying t = some (.pointer el)) (a : Option Addr) (d : Nat) : (Op.equalIn (d + 1) t (.pointer a) (.pointer none)).run P w = .ok a.isNone w := by
  rw [Op.equalIn]
  cases a <;> simp [run_underlying ht]
theorem pu_ptr_eql {t t2 el : TypeId} {a : Option Addr} {T : Ty} (hT : ∀ H v, T.p H v → ∃ a', v = .pointer a' ∧ a'.isNone = a.isNone) (hx : OT C.N Γ x T) (ht : C.P.underlying t = some (.pointer el)) : Pure C Γ L ⟨dst, .binOp .eql t x (.const (.pointer none)) t2, ty, pos, after, guard⟩ (BoolT a.isNone) := fun ac w H f s ow => by
  obtain ⟨a', hv, ha⟩ := hT _ _ (hx ac H f)
  have hc : ac.eval (.const (.pointer none)) = .pointer none := rfl
  have hg : (eqGuard .eql t x (.const (.pointer none)) (.pointer a') (.pointer none)).run C.P w = .ok () w := by simp [eqGuard]
  have hb : (binOp .eql t (.pointer a') (.pointer none)).run C.P w = .ok (.bool a'.isNone) w := by
    show ((Op.equal t (.pointer a') (.pointer none)) >>= fun r => pure (Value.bool r)).run C.P w = _
    rw [Sem.run_bind, show (Op.equal t (.pointer a') (.pointer none)).run C.P w = _ from run_ptr_eq ht a' 9999]; rfl
  exact ⟨.bool a'.isNone, by simp only [execOp, hv, hc, Sem.run_bind, hg, hb, Result.andThen_ok, Sem.run_pure], by rw [ha]; rfl⟩
theorem pu_ptr_neq {t t2 el : TypeId} {a : Option Addr} {T : Ty} (hT : ∀ H v, T.p H v → ∃ a', v = .pointer a' ∧ a'.isNone = a.isNone) (hx : OT C.N Γ x T) (ht : C.P.underlying t = some (.pointer el)) : Pure C Γ L ⟨dst, .binOp .neq t x (.const (.pointer none)) t2, ty, pos, after, guard⟩ (BoolT (!a.isNone)) := fun ac w H f s ow => by
  obtain ⟨a', hv, ha⟩ := hT _ _ (hx ac H f)
  have hc : ac.eval (.const (.pointer none)) = .pointer none := rfl
  have hg : (eqGuard .neq t x (.const (.pointer none)) (.pointer a') (.pointer none)).run C.P w = .ok () w := by simp [eqGuard]
  have hb : (binOp .neq t (.pointer a') (.pointer none)).run C.P w = .ok (.bool (!a'.isNone)) w := by
    show ((Op.equal t (.pointer a') (.pointer none)) >>= fun r => pure (Value.bool !r)).run C.P w = _
    rw [Sem.run_bind, show (Op.equal t (.pointer a') (.pointer none)).run C.P w = _ from run_ptr_eq ht a' 9999]; rfl
  exact ⟨.bool (!a'.isNone), by simp only [execOp, hv, hc, Sem.run_bind, hg, hb, Result.andThen_ok, Sem.run_pure], by rw [ha]; rfl⟩
theorem ptr_is {a : Option Addr} : ∀ H v, (IsV (.pointer a)).p H v → ∃ a', v = .pointer a' ∧ a'.isNone = a.isNone := fun H v h => ⟨a, h, rfl⟩
theorem ptr_opt {α : Type} {d : Kd α} {o : Option α} : ∀ H v, (PtrT d o).p H v → ∃ a', v = .pointer a' ∧ a'.isNone = (o.map fun _ => (⟨0, 0, none⟩ : Addr)).isNone := fun H v h => by
  cases o with
  | none => exact ⟨none, h, rfl⟩
  | some x => obtain ⟨g, off, cells, t, fr, cs, h1, _⟩ := h; exact ⟨_, h1, rfl⟩
/-- A pointer of a type. -/
theorem pu_opt_eql {α : Type} {d : Kd α} {o : Option α} {t t2 el : TypeId} (hx : OT C.N Γ x (PtrT d o)) (ht : C.P.underlying t = some (.pointer el)) : Pure C Γ L ⟨dst, .binOp .eql t x (.const (.pointer none)) t2, ty, pos, after, guard⟩ (BoolT o.isNone) := by
  have h := pu_ptr_eql (dst := dst) (ty := ty) (pos := pos) (after := after) (guard := guard) (t2 := t2) (L := L) ptr_opt hx ht
  cases o <;> exact h
theorem pu_opt_neq {α : Type} {d : Kd α} {o : Option α} {t t2 el : TypeId} (hx : OT C.N Γ x (PtrT d o)) (ht : C.P.underlying t = some (.pointer el)) : Pure C Γ L ⟨dst, .binOp .neq t x (.const (.pointer none)) t2, ty, pos, after, guard⟩ (BoolT (!o.isNone)) := by
  have h := pu_ptr_neq (dst := dst) (ty := ty) (pos := pos) (after := after) (guard := guard) (t2 := t2) (L := L) ptr_opt hx ht
  cases o <;> exact h
end
end Go.Gw
/- Typed walks: raw cells read and written; a guarded operation in two ways; a slot's type turned. Over any program. -/
namespace Go.Gw
open Go Go.MapKept
set_option linter.unusedVariables false
set_option linter.unusedSimpArgs false
set_option linter.unusedSectionVars false
section
variable {C : Cx} {Γ : Env} {L R : List It} {dst : Option Tmp} {ty : TypeId} {pos : String} {after : Array Edge} {guard : Option (Nat × Bool)} {x y z : Operand}
variable {Q : Exit → Act → World → Prop} {ops : Array Oper} {rest : List Oper}
theorem pu_load_rawv {t t' : TypeId} {b : Nat} {v : Value} (hx : OT C.N Γ x (IsV (pt b 0))) (hm : BlkI b t' kraw v ∈ L) (ht : tyOk C.P t false 1 = true) : Pure C Γ L ⟨dst, .load t x, ty, pos, after, guard⟩ (IsV v) :=
  (pu_load_var hx hm ht).conv fun _ _ h => h.1
theorem pu_load_rawf {α : Type} {d : Kd α} {t t' : TypeId} {b off : Nat} {v : α} {g : Value} {set : Value → α} (hx : OT C.N Γ x (IsV (pt b off))) (hm : BlkI b t' d v ∈ L) (hl : Lens d kraw off v g set) (ht : tyOk C.P t false 1 = true) : Pure C Γ L ⟨dst, .load t x, ty, pos, after, guard⟩ (IsV g) :=
  (pu_load_blk hx hm hl ht).conv fun _ _ h => h.1
theorem acts_store_rawv {t t' : TypeId} {b : Nat} {v u : Value} (hx : OT C.N Γ x (IsV (pt b 0))) (hy : OT C.N Γ y (IsV u)) (h1 : u.oneCell' = true) (hp : List.Perm L (BlkI b t' kraw v :: R)) (ht : tyOk C.P t false 1 = true) :
    Acts C Γ L ⟨dst, .store t x y, ty, pos, after, guard⟩ [BlkI b t' kraw v] Unit (fun _ => AnyT) (fun _ => [BlkI b t' kraw u]) (fun _ => True) := acts_store_var hx (hy.raw h1) hp ht
theorem acts_store_rawf {α : Type} {d : Kd α} {t t' : TypeId} {b off : Nat} {v : α} {g u : Value} {set : Value → α} (hx : OT C.N Γ x (IsV (pt b off))) (hy : OT C.N Γ y (IsV u)) (h1 : u.oneCell' = true) (hp : List.Perm L (BlkI b t' d v :: R)) (hl : Lens d kraw off v g set) (ht : tyOk C.P t false 1 = true) :
    Acts C Γ L ⟨dst, .store t x y, ty, pos, after, guard⟩ [BlkI b t' d v] Unit (fun _ => AnyT) (fun _ => [BlkI b t' d (set u)]) (fun _ => True) := acts_store_blk hx (hy.raw h1) hp hl ht
/-- A guarded operation, in both ways. -/
theorem op_gu_split {o : Oper} {j d : Nat} {want b : Bool} (hg : o.guard = some (j, want)) (hj : (ops[j]?).bind (·.dst) = some d) (hdN : decide (d < C.N) = true) (hd : dstOk C.N o.dst = true) (hb : OT C.N Γ (.tmp d) (BoolT b))
    (h1 : b = want → Tr C Γ L (wpList C.P ops Q ({ o with guard := none } :: rest))) (h2 : b = !want → Tr C (upd o.dst (IsV undef) Γ) L (wpList C.P ops Q rest)) : Tr C Γ L (wpList C.P ops Q (o :: rest)) := by
  by_cases e : b = want
  · subst e; exact op_gu_yes hg hj hdN hb (h1 rfl)
  · have e2 : b = !want := by cases b <;> cases want <;> simp_all
    exact op_gu_no hg hj hdN hb e2 hd (h2 e2)
theorem OT.gu_out {N : Nat} {p : Prop} {T : Ty} (h : OT N Γ x (IsV undef)) (hp : ¬ p) : OT N Γ x (GuT p T) := fun a H f => ⟨fun e => absurd e hp, fun _ => h a H f⟩
/-- What is first in a list of items, picked by what it is. -/
theorem mem_hd {I : It} {L : List It} : I ∈ I :: L := List.mem_cons_self
theorem perm_snd {I J : It} {L : List It} : (J :: I :: L).Perm (I :: J :: L) := List.Perm.swap _ _ _
end
end Go.Gw
/- Edges, an index of them, patterns, variables, rows: what the join package computes, and what that is true of. Plain Lean. -/
namespace Go.Jn
open Go Go.Gw Go.Tu
set_option linter.unusedVariables false
set_option linter.unusedSimpArgs false
abbrev Lab := List UInt8
abbrev Ed := Int × Lab × Int
abbrev Atm := Lab × Lab × Lab
abbrev Vw := Lab × Int × List Lab × List Atm × Lab
abbrev Pr := Int × Int
abbrev Ix := List (Int × List Int) × List Pr × List (Pr × Int)
/-! ### 1. Variables -/
def addV (out : List Lab) (x : Lab) : List Lab := if out.contains x then out else out ++ [x]
def addA (out : List Lab) (a : Atm) : List Lab := addV (addV out a.1) a.2.2
def varsL (al : List Atm) : List Lab := al.foldl addA []
theorem addV_mem {out : List Lab} {x y : Lab} : y ∈ addV out x ↔ y ∈ out ∨ y = x := by
  unfold addV
  split
  · rename_i h
    have h1 : x ∈ out := by simpa using h
    exact ⟨.inl, fun h => h.elim id fun e => e ▸ h1⟩
  · simp
theorem addV_nodup {out : List Lab} {x : Lab} (h : out.Nodup) : (addV out x).Nodup := by
  unfold addV
  split
  · exact h
  · rename_i hc
    refine List.nodup_append.2 ⟨h, by simp, fun a ha b hb e => ?_⟩
    have : b = x := by simpa using hb
    subst this; subst e
    exact hc (by simpa using ha)
theorem addV_pre {out : List Lab} {x : Lab} : out <+: addV out x := by
  unfold addV
  split
  · exact List.prefix_refl _
  · exact ⟨[x], rfl⟩
theorem addV_len {out : List Lab} {x : Lab} : (addV out x).length = if out.contains x then out.length else out.length + 1 := by
  unfold addV; split <;> simp
theorem addA_pre {out : List Lab} {a : Atm} : out <+: addA out a := List.IsPrefix.trans addV_pre addV_pre
theorem varsL_snoc (al : List Atm) (a : Atm) : varsL (al ++ [a]) = addA (varsL al) a := by unfold varsL; rw [List.foldl_append]; rfl
theorem varsL_nodup (al : List Atm) : (varsL al).Nodup := by
  have : ∀ (al : List Atm) (out : List Lab), out.Nodup → (al.foldl addA out).Nodup := by
    intro al
    induction al with
    | nil => exact fun out h => h
    | cons a al ih => exact fun out h => ih _ (addV_nodup (addV_nodup h))
  exact this al [] List.nodup_nil
theorem fold_pre : ∀ (al : List Atm) (out : List Lab), out <+: al.foldl addA out
  | [], out => List.prefix_refl _
  | a :: al, out => List.IsPrefix.trans addA_pre (fold_pre al (addA out a))
theorem varsL_pre (al bs : List Atm) : varsL al <+: varsL (al ++ bs) := by unfold varsL; rw [List.foldl_append]; exact fold_pre _ _
theorem varsL_take (al : List Atm) (k : Nat) : varsL (al.take k) <+: varsL al := by
  have := varsL_pre (al.take k) (al.drop k)
  rwa [List.take_append_drop] at this
theorem varsL_mem {al : List Atm} {x : Lab} : x ∈ varsL al ↔ ∃ a ∈ al, x = a.1 ∨ x = a.2.2 := by
  have : ∀ (al : List Atm) (out : List Lab), x ∈ al.foldl addA out ↔ x ∈ out ∨ ∃ a ∈ al, x = a.1 ∨ x = a.2.2 := by
    intro al
    induction al with
    | nil => intro out; simp
    | cons a al ih =>
      intro out
      rw [List.foldl_cons, ih]
      unfold addA
      rw [addV_mem, addV_mem]
      simp only [List.mem_cons, exists_eq_or_imp]
      constructor
      · rintro (((h | h) | h) | h)
        · exact .inl h
        · exact .inr (.inl (.inl h))
        · exact .inr (.inl (.inr h))
        · exact .inr (.inr h)
      · rintro (h | (h | h) | h)
        · exact .inl (.inl (.inl h))
        · exact .inl (.inl (.inr h))
        · exact .inl (.inr h)
        · exact .inr h
  unfold varsL
  rw [this]; simp
theorem varsL_len (al : List Atm) : (varsL al).length ≤ 2 * al.length := by
  have : ∀ (al : List Atm) (out : List Lab), (al.foldl addA out).length ≤ out.length + 2 * al.length := by
    intro al
    induction al with
    | nil => intro out; simp
    | cons a al ih =>
      intro out
      have h1 := ih (addA out a)
      have h2 : (addA out a).length ≤ out.length + 2 := by
        unfold addA
        rw [addV_len]
        have h3 : (addV out a.1).length ≤ out.length + 1 := by rw [addV_len]; split <;> omega
        split <;> omega
      rw [List.foldl_cons, List.length_cons]; omega
  exact Nat.le_trans (this al []) (by simp)
theorem pre_idx {V W : List Lab} (h : V <+: W) {x : Lab} (hx : x ∈ V) : W.idxOf x = V.idxOf x := by
  obtain ⟨t, rfl⟩ := h
  rw [List.idxOf_append, if_pos hx]
/-- Where an atom's variables lie: behind the variables of the atoms ahead of it. -/
structure Lies (n m f t : Nat) : Prop where
  f1 : f ≤ n
  t1 : t ≤ n + 1
  t2 : f < n → t ≤ n
  m1 : f < n → t < n → m = n
  m2 : f < n → t = n → m = n + 1
  m3 : f = n → t ≤ n → m = n + 1
  m4 : f = n → t = n + 1 → m = n + 2
theorem lies {V W U : List Lab} {a : Atm} (hV : V.Nodup) (hW : W = addA V a) (hU : W <+: U) : Lies V.length W.length (U.idxOf a.1) (U.idxOf a.2.2) := by
  have h1 : a.1 ∈ W := by rw [hW]; unfold addA; rw [addV_mem, addV_mem]; exact .inl (.inr rfl)
  have h2 : a.2.2 ∈ W := by rw [hW]; unfold addA; rw [addV_mem]; exact .inr rfl
  rw [pre_idx hU h1, pre_idx hU h2]
  have hp1 : V <+: addV V a.1 := addV_pre
  have hp2 : addV V a.1 <+: W := by rw [hW]; exact addV_pre
  have i1 : W.idxOf a.1 = (addV V a.1).idxOf a.1 := pre_idx hp2 (addV_mem.2 (.inr rfl))
  have l1 := addV_len (out := V) (x := a.1)
  have l2 : W.length = if (addV V a.1).contains a.2.2 then (addV V a.1).length else (addV V a.1).length + 1 := by rw [hW]; exact addV_len
  by_cases c1 : a.1 ∈ V
  · have e1 : addV V a.1 = V := by unfold addV; rw [if_pos (by simpa using c1)]
    rw [e1] at i1 l2
    have b1 : V.idxOf a.1 < V.length := List.idxOf_lt_length_of_mem c1
    by_cases c2 : a.2.2 ∈ V
    · have i2 : W.idxOf a.2.2 = V.idxOf a.2.2 := pre_idx (hp1.trans hp2) c2
      have b2 : V.idxOf a.2.2 < V.length := List.idxOf_lt_length_of_mem c2
      rw [if_pos (by simpa using c2)] at l2
      constructor <;> omega
    · rw [if_neg (by simpa using c2)] at l2
      have i2 : W.idxOf a.2.2 = V.length := by
        rw [hW, addA, e1, addV, if_neg (by simpa using c2), List.idxOf_append, if_neg c2]; simp
      constructor <;> omega
  · have e1 : addV V a.1 = V ++ [a.1] := by unfold addV; rw [if_neg (by simpa using c1)]
    rw [if_neg (by simpa using c1)] at l1
    have i1' : W.idxOf a.1 = V.length := by rw [i1, e1, List.idxOf_append, if_neg c1]; simp
    by_cases c2 : a.2.2 ∈ V
    · have i2 : W.idxOf a.2.2 = V.idxOf a.2.2 := pre_idx (hp1.trans hp2) c2
      have b2 : V.idxOf a.2.2 < V.length := List.idxOf_lt_length_of_mem c2
      rw [if_pos (by rw [e1]; simp [c2])] at l2
      constructor <;> omega
    · by_cases c3 : a.2.2 = a.1
      · rw [if_pos (by rw [e1, c3]; simp)] at l2
        rw [c3]
        constructor <;> omega
      · rw [if_neg (by rw [e1]; simp [c2, c3])] at l2
        have i2 : W.idxOf a.2.2 = V.length + 1 := by
          rw [hW, addA, addV, if_neg (by rw [e1]; simp [c2, c3]), List.idxOf_append, if_neg (by rw [e1]; simp [c2, c3]), e1]; simp
        constructor <;> omega
/-! ### 2. An index of edges -/
def stepI (x : Ix) (p : Pr) : Ix :=
  let c := (lkp p x.2.2).getD 0 + 1
  if c = 1 then (ptk p.1 ((lkp p.1 x.1).getD [] ++ [p.2]) x.1, x.2.1 ++ [p], ptk p c x.2.2) else (x.1, x.2.1, ptk p c x.2.2)
def stepE (m : List (Lab × Ix)) (e : Ed) : List (Lab × Ix) := ptk e.2.1 (stepI ((lkp e.2.1 m).getD ([], [], [])) (e.1, e.2.2)) m
def byLab (l : List Ed) : List (Lab × Ix) := l.foldl stepE []
def prs (l : List Ed) (lab : Lab) : List Pr := (l.filter fun e => decide (e.2.1 = lab)).map fun e => (e.1, e.2.2)
theorem mem_prs {l : List Ed} {lab : Lab} {p : Pr} : p ∈ prs l lab ↔ (p.1, lab, p.2) ∈ l := by
  unfold prs
  simp only [List.mem_map, List.mem_filter, decide_eq_true_eq]
  constructor
  · rintro ⟨⟨a, b, c⟩, ⟨h1, rfl⟩, rfl⟩; exact h1
  · intro h; exact ⟨_, ⟨h, rfl⟩, rfl⟩
structure IxOk (x : Ix) (ps : List Pr) : Prop where
  all : ∀ p, p ∈ x.2.1 ↔ p ∈ ps
  nd : x.2.1.Nodup
  from_ : ∀ n b, b ∈ (lkp n x.1).getD [] ↔ (n, b) ∈ ps
  fnd : ∀ n, ((lkp n x.1).getD []).Nodup
  has : ∀ p, (lkp p x.2.2).getD 0 = 0 ↔ p ∉ ps
  h0 : ∀ p, 0 ≤ (lkp p x.2.2).getD 0
  hl : ∀ p, (lkp p x.2.2).getD 0 ≤ ps.length
  fl : ∀ n, ((lkp n x.1).getD []).length ≤ ps.length
  al : x.2.1.length ≤ ps.length
theorem IxOk.nil : IxOk ([], [], []) [] := by constructor <;> simp [lkp]
theorem IxOk.step {x : Ix} {ps : List Pr} (h : IxOk x ps) (p : Pr) : IxOk (stepI x p) (ps ++ [p]) := by
  have hh := h.has p
  have hl := h.hl p
  have h0 := h.h0 p
  unfold stepI
  by_cases hc : (lkp p x.2.2).getD 0 + 1 = 1
  · have hn : p ∉ ps := hh.1 (by omega)
    simp only [if_pos hc]
    refine ⟨?_, ?_, ?_, ?_, ?_, ?_, ?_, ?_, ?_⟩
    · intro q; simp [h.all]
    · refine List.nodup_append.2 ⟨h.nd, by simp, fun a ha b hb e => ?_⟩
      have : b = p := by simpa using hb
      subst this; subst e
      exact hn ((h.all _).1 ha)
    · intro n b
      rw [lkp_put]
      by_cases e : p.1 = n
      · rw [if_pos e]
        simp only [Option.getD_some, List.mem_append, h.from_, List.mem_singleton]
        rw [e]
        constructor
        · rintro (h1 | h1)
          · exact .inl h1
          · exact .inr (Prod.ext e.symm h1)
        · rintro (h1 | h1)
          · exact .inl h1
          · exact .inr (congrArg Prod.snd h1)
      · rw [if_neg e, h.from_, List.mem_append, List.mem_singleton]
        exact ⟨.inl, fun h1 => h1.elim id fun h2 => absurd (congrArg Prod.fst h2).symm e⟩
    · intro n
      rw [lkp_put]
      by_cases e : p.1 = n
      · rw [if_pos e]
        simp only [Option.getD_some]
        refine List.nodup_append.2 ⟨h.fnd _, by simp, fun a ha b hb e2 => ?_⟩
        have : b = p.2 := by simpa using hb
        subst this; subst e2
        exact hn ((h.from_ _ _).1 ha)
      · rw [if_neg e]; exact h.fnd n
    · intro q
      rw [lkp_put]
      by_cases e : p = q
      · subst e; simp; omega
      · rw [if_neg e, h.has]; simp [Ne.symm e]
    · intro q
      rw [lkp_put]
      by_cases e : p = q
      · rw [if_pos e]; simp only [Option.getD_some]; omega
      · rw [if_neg e]; exact h.h0 q
    · intro q
      rw [lkp_put, List.length_append, List.length_singleton]
      by_cases e : p = q
      · rw [if_pos e]; simp only [Option.getD_some]; omega
      · rw [if_neg e]; have := h.hl q; omega
    · intro n
      rw [lkp_put, List.length_append, List.length_singleton]
      by_cases e : p.1 = n
      · rw [if_pos e]; have := h.fl p.1; simp only [Option.getD_some, List.length_append, List.length_singleton]; omega
      · rw [if_neg e]; have := h.fl n; omega
    · have := h.al; simp only [List.length_append, List.length_singleton]; omega
  · have hin : p ∈ ps := Classical.byContradiction fun e => hc (by rw [hh.2 e]; rfl)
    simp only [if_neg hc]
    have hm : ∀ q, q ∈ ps ++ [p] ↔ q ∈ ps := fun q => by
      simp only [List.mem_append, List.mem_singleton]
      exact ⟨fun h => h.elim id fun e => e ▸ hin, .inl⟩
    refine ⟨?_, h.nd, ?_, h.fnd, ?_, ?_, ?_, ?_, ?_⟩
    · intro q; rw [hm, h.all]
    · intro n b; rw [hm, h.from_]
    · intro q
      rw [lkp_put, hm]
      by_cases e : p = q
      · subst e; simp [hin]; omega
      · rw [if_neg e, h.has]
    · intro q
      rw [lkp_put]
      by_cases e : p = q
      · rw [if_pos e]; simp only [Option.getD_some]; omega
      · rw [if_neg e]; exact h.h0 q
    · intro q
      rw [lkp_put, List.length_append, List.length_singleton]
      by_cases e : p = q
      · rw [if_pos e]; simp only [Option.getD_some]; omega
      · rw [if_neg e]; have := h.hl q; omega
    · intro n; show ((lkp n x.1).getD []).length ≤ _; rw [List.length_append]; have := h.fl n; omega
    · show x.2.1.length ≤ _; rw [List.length_append]; have := h.al; omega
theorem byLab_ok (l : List Ed) (lab : Lab) : IxOk ((lkp lab (byLab l)).getD ([], [], [])) (prs l lab) ∧ (lkp lab (byLab l) = none → prs l lab = []) := by
  have : ∀ (l : List Ed) (m : List (Lab × Ix)) (done : List Ed), (∀ lab, IxOk ((lkp lab m).getD ([], [], [])) (prs done lab) ∧ (lkp lab m = none → prs done lab = [])) → ∀ lab, IxOk ((lkp lab (l.foldl stepE m)).getD ([], [], [])) (prs (done ++ l) lab) ∧ (lkp lab (l.foldl stepE m) = none → prs (done ++ l) lab = []) := by
    intro l
    induction l with
    | nil => intro m done h; simpa using h
    | cons e l ih =>
      intro m done h lab
      have h2 := ih (stepE m e) (done ++ [e]) ?_ lab
      · rw [List.append_assoc] at h2; exact h2
      · intro lab2
        unfold stepE
        rw [lkp_put]
        by_cases hl : e.2.1 = lab2
        · subst hl
          have hp : prs (done ++ [e]) e.2.1 = prs done e.2.1 ++ [(e.1, e.2.2)] := by unfold prs; simp
          rw [if_pos rfl, hp]
          exact ⟨(h e.2.1).1.step _, fun h => by cases h⟩
        · have hp : prs (done ++ [e]) lab2 = prs done lab2 := by unfold prs; simp [hl]
          rw [if_neg hl, hp]; exact h lab2
  have h9 := this l [] [] (fun lab => ⟨IxOk.nil, fun _ => rfl⟩) lab
  rw [List.nil_append] at h9
  exact h9
theorem prs_len (l : List Ed) (lab : Lab) : (prs l lab).length ≤ l.length := by unfold prs; rw [List.length_map]; exact List.length_filter_le _ _
/-! ### 3. Rows with an atom more -/
def extC (r : Tp) (t : Nat) (p : Pr) : Option Tp := if t = r.length + 1 then some (r ++ [p.1] ++ [p.2]) else if (r ++ [p.1]).getD t 0 = p.2 then some (r ++ [p.1]) else none
def ext (o : Option Ix) (r : Tp) (f t : Nat) : List Tp := match o with
  | none => []
  | some x =>
    if f < r.length ∧ t < r.length then (if (lkp (r.getD f 0, r.getD t 0) x.2.2).getD 0 = 0 then [] else [r])
    else if f < r.length then ((lkp (r.getD f 0) x.1).getD []).map fun b => r ++ [b]
    else x.2.1.filterMap (extC r t)
theorem getD_app {r : Tp} {i : Nat} {b : Int} (h : i < r.length) : (r ++ [b]).getD i 0 = r.getD i 0 := by
  rw [List.getD_eq_getElem?_getD, List.getD_eq_getElem?_getD, List.getElem?_append_left h]
theorem getD_last {r : Tp} {b : Int} : (r ++ [b]).getD r.length 0 = b := by
  rw [List.getD_eq_getElem?_getD, List.getElem?_append_right (Nat.le_refl _)]; simp
theorem take_app {r s : Tp} : (r ++ s).take r.length = r := by simp
theorem ext_some {x : Ix} {r : Tp} {f t : Nat} : ext (some x) r f t = if f < r.length ∧ t < r.length then (if (lkp (r.getD f 0, r.getD t 0) x.2.2).getD 0 = 0 then [] else [r]) else if f < r.length then ((lkp (r.getD f 0) x.1).getD []).map (fun b => r ++ [b]) else x.2.1.filterMap (extC r t) := rfl
theorem snoc1 {s r : Tp} (h : s.take r.length = r) (hl : s.length = r.length + 1) : s = r ++ [s.getD r.length 0] := by
  have h4 : r.length < s.length := by omega
  have h5 := List.take_append_drop r.length s
  rw [h, List.drop_eq_getElem_cons h4, List.drop_of_length_le (by omega)] at h5
  rw [List.getD_eq_getElem?_getD, List.getElem?_eq_getElem h4]; exact h5.symm
theorem snoc2 {s r : Tp} (h : s.take r.length = r) (hl : s.length = r.length + 2) : s = r ++ [s.getD r.length 0] ++ [s.getD (r.length + 1) 0] := by
  have h4 : r.length < s.length := by omega
  have h6 : r.length + 1 < s.length := by omega
  have h5 := List.take_append_drop r.length s
  rw [h, List.drop_eq_getElem_cons h4, List.drop_eq_getElem_cons h6, List.drop_of_length_le (by omega)] at h5
  rw [List.getD_eq_getElem?_getD, List.getElem?_eq_getElem h4, List.getD_eq_getElem?_getD, List.getElem?_eq_getElem h6, List.append_assoc]; exact h5.symm
theorem mem_ext {o : Option Ix} {ps : List Pr} (hx : IxOk (o.getD ([], [], [])) ps) (h0 : o = none → ps = []) {r : Tp} {f t m : Nat} (hl : Lies r.length m f t) (s : Tp) :
    s ∈ ext o r f t ↔ s.length = m ∧ s.take r.length = r ∧ (s.getD f 0, s.getD t 0) ∈ ps := by
  cases o with
  | none => simp [ext, h0 rfl]
  | some x =>
    simp only [Option.getD_some] at hx
    rw [ext_some]
    by_cases c1 : f < r.length
    · by_cases c2 : t < r.length
      · have hm := hl.m1 c1 c2
        rw [if_pos ⟨c1, c2⟩]
        have hh := hx.has (r.getD f 0, r.getD t 0)
        split
        · rename_i h
          have hn := hh.1 h
          simp only [List.not_mem_nil, false_iff]
          rintro ⟨h1, h2, h3⟩
          rw [List.take_of_length_le (by omega)] at h2
          subst h2; exact hn h3
        · rename_i h
          have hin : (r.getD f 0, r.getD t 0) ∈ ps := Classical.byContradiction fun e => h (hh.2 e)
          rw [List.mem_singleton]
          constructor
          · rintro rfl; exact ⟨hm.symm, by simp, hin⟩
          · rintro ⟨h1, h2, h3⟩; rwa [List.take_of_length_le (by omega)] at h2
      · rw [if_neg (fun e => c2 e.2), if_pos c1]
        have ht : t = r.length := by have := hl.t2 c1; omega
        subst ht
        have hm := hl.m2 c1 rfl
        rw [List.mem_map]
        constructor
        · rintro ⟨b, hb, rfl⟩
          refine ⟨by simp [hm], take_app, ?_⟩
          rw [getD_app c1, getD_last]
          exact (hx.from_ _ _).1 hb
        · rintro ⟨h1, h2, h3⟩
          refine ⟨s.getD r.length 0, ?_, ?_⟩
          · have e : s.getD f 0 = r.getD f 0 := by
              have h9 : (s.take r.length)[f]? = s[f]? := List.getElem?_take_of_lt c1
              rw [h2] at h9
              rw [List.getD_eq_getElem?_getD, List.getD_eq_getElem?_getD, h9]
            rw [← e]; exact (hx.from_ _ _).2 h3
          · exact (snoc1 h2 (by omega)).symm
    · rw [if_neg (fun e => c1 e.1), if_neg c1]
      have hf : f = r.length := by have := hl.f1; omega
      subst hf
      rw [List.mem_filterMap]
      by_cases c3 : t = r.length + 1
      · have hm := hl.m4 rfl c3
        constructor
        · rintro ⟨p, hp, he⟩
          unfold extC at he
          rw [if_pos c3] at he
          cases he
          have e1 : (r ++ [p.1] ++ [p.2]).getD r.length 0 = p.1 := by rw [getD_app (by simp), getD_last]
          have e2 : (r ++ [p.1] ++ [p.2]).getD t 0 = p.2 := by
            have := getD_last (r := r ++ [p.1]) (b := p.2)
            rwa [List.length_append, List.length_singleton, ← c3] at this
          refine ⟨by simp [hm], by rw [List.append_assoc]; exact take_app, ?_⟩
          rw [e1, e2]
          exact (hx.all p).1 hp
        · rintro ⟨h1, h2, h3⟩
          refine ⟨(s.getD r.length 0, s.getD t 0), (hx.all _).2 h3, ?_⟩
          unfold extC
          rw [if_pos c3]
          rw [c3]; exact congrArg some (snoc2 h2 (by omega)).symm
      · have ht : t ≤ r.length := by have := hl.t1; omega
        have hm := hl.m3 rfl ht
        have key : ∀ q : Int, (r ++ [q]).getD r.length 0 = q := fun q => getD_last
        constructor
        · rintro ⟨p, hp, he⟩
          unfold extC at he
          rw [if_neg c3] at he
          split at he
          · rename_i hq
            cases he
            refine ⟨by simp [hm], take_app, ?_⟩
            rw [key, hq]; exact (hx.all p).1 hp
          · cases he
        · rintro ⟨h1, h2, h3⟩
          refine ⟨(s.getD r.length 0, s.getD t 0), (hx.all _).2 h3, ?_⟩
          have hs := snoc1 h2 (by omega)
          unfold extC
          rw [if_neg c3]
          simp only
          rw [← hs, if_pos rfl]
theorem nodup_ext {o : Option Ix} {ps : List Pr} (hx : IxOk (o.getD ([], [], [])) ps) {r : Tp} {f t : Nat} : (ext o r f t).Nodup := by
  cases o with
  | none => exact List.nodup_nil
  | some x =>
    simp only [Option.getD_some] at hx
    rw [ext_some]
    split
    · split <;> simp
    · split
      · refine List.Pairwise.map _ (fun a b h e => h ?_) (hx.fnd _)
        simpa using e
      · refine List.Pairwise.filterMap _ (fun a b h u hu v hv e => h ?_) hx.nd
        subst e
        unfold extC at hu hv
        have hinj : ∀ {c d : Int}, r ++ [c] = r ++ [d] → c = d := fun e => by simpa using e
        split at hu
        · rename_i ht
          rw [if_pos ht] at hv
          have e : r ++ [a.1] ++ [a.2] = r ++ [b.1] ++ [b.2] := (Option.some.inj hu).trans (Option.some.inj hv).symm
          simp only [List.append_assoc, List.append_cancel_left_eq] at e
          have e2 : a.1 = b.1 ∧ a.2 = b.2 := by simpa using e
          exact Prod.ext e2.1 e2.2
        · rename_i ht
          rw [if_neg ht] at hv
          split at hu
          · rename_i h1
            split at hv
            · rename_i h2
              have e := hinj ((Option.some.inj hu).trans (Option.some.inj hv).symm)
              rw [e, h2] at h1
              exact Prod.ext e h1.symm
            · cases hv
          · cases hu
/-! ### 4. Rows -/
def ix (V : List Lab) (x : Lab) : Nat := V.idxOf x
def stepR (m : List (Lab × Ix)) (V : List Lab) (rows : List Tp) (a : Atm) : List Tp := rows.flatMap fun r => ext (lkp a.2.1 m) r (ix V a.1) (ix V a.2.2)
def rowsK (m : List (Lab × Ix)) (V : List Lab) (al : List Atm) : List Tp := al.foldl (stepR m V) [[]]
theorem rowsK_snoc (m : List (Lab × Ix)) (V : List Lab) (al : List Atm) (a : Atm) : rowsK m V (al ++ [a]) = stepR m V (rowsK m V al) a := by unfold rowsK; rw [List.foldl_append]; rfl
/-- What a variable is in a row. -/
def env (V : List Lab) (r : Tp) (x : Lab) : Int := r.getD (ix V x) 0
/-- The row has each atom's edge. -/
def Sat (l : List Ed) (V : List Lab) (al : List Atm) (r : Tp) : Prop := ∀ a ∈ al, (env V r a.1, a.2.1, env V r a.2.2) ∈ l
theorem getD_take {r : Tp} {i n : Nat} (h : i < n) : (r.take n).getD i 0 = r.getD i 0 := by
  rw [List.getD_eq_getElem?_getD, List.getD_eq_getElem?_getD, List.getElem?_take_of_lt h]
theorem nodup_flat {α β : Type} {f : α → List β} : ∀ {l : List α}, (∀ r ∈ l, (f r).Nodup) → l.Pairwise (fun a b => ∀ x ∈ f a, x ∉ f b) → (l.flatMap f).Nodup
  | [], _, _ => List.nodup_nil
  | a :: l, h1, h2 => by
    obtain ⟨h3, h4⟩ := List.pairwise_cons.1 h2
    rw [List.flatMap_cons]
    refine List.nodup_append.2 ⟨h1 a List.mem_cons_self, nodup_flat (fun r hr => h1 r (List.mem_cons_of_mem _ hr)) h4, fun x hx y hy e => ?_⟩
    obtain ⟨b, hb, hyb⟩ := List.mem_flatMap.1 hy
    exact h3 b hb x hx (e ▸ hyb)
theorem snoc_ind {α : Type} {P : List α → Prop} (h0 : P []) (h1 : ∀ l a, P l → P (l ++ [a])) (l : List α) : P l := by
  have : ∀ l : List α, P l.reverse := by
    intro l
    induction l with
    | nil => exact h0
    | cons a l ih => rw [List.reverse_cons]; exact h1 _ _ ih
  have h := this l.reverse
  rwa [List.reverse_reverse] at h
theorem rows_spec (l : List Ed) {V : List Lab} : ∀ (al : List Atm), varsL al <+: V →
    (rowsK (byLab l) V al).Nodup ∧ ∀ r, r ∈ rowsK (byLab l) V al ↔ r.length = (varsL al).length ∧ Sat l V al r := by
  refine snoc_ind ?_ ?_
  · intro _; refine ⟨by simp [rowsK], fun r => ?_⟩; simp [rowsK, varsL, Sat]
  · intro al a ih hV
    have hpre : varsL al <+: varsL (al ++ [a]) := varsL_pre _ _
    obtain ⟨ih1, ih2⟩ := ih (hpre.trans hV)
    obtain ⟨hx, h0⟩ := byLab_ok l a.2.1
    have hW : varsL (al ++ [a]) = addA (varsL al) a := varsL_snoc al a
    have hlies := lies (varsL_nodup al) hW hV
    rw [rowsK_snoc]
    unfold stepR
    constructor
    · refine nodup_flat (fun r hr => nodup_ext hx) (ih1.imp_of_mem ?_)
      intro r r' hr hr' hne s hs hs'
      have l1 := ((ih2 r).1 hr).1
      have l2 := ((ih2 r').1 hr').1
      have e1 := ((mem_ext hx h0 (by rw [l1]; exact hlies) s).1 hs).2.1
      have e2 := ((mem_ext hx h0 (by rw [l2]; exact hlies) s).1 hs').2.1
      exact hne (by rw [← e1, ← e2, l1, l2])
    · intro s
      rw [List.mem_flatMap]
      constructor
      · rintro ⟨r, hr, hs⟩
        have hr2 := (ih2 r).1 hr
        obtain ⟨h1, h2, h3⟩ := (mem_ext hx h0 (by rw [hr2.1]; exact hlies) s).1 hs
        refine ⟨h1, fun b hb => ?_⟩
        rcases List.mem_append.1 hb with hb | hb
        · have := hr2.2 b hb
          have hm1 : b.1 ∈ varsL al := varsL_mem.2 ⟨b, hb, .inl rfl⟩
          have hm2 : b.2.2 ∈ varsL al := varsL_mem.2 ⟨b, hb, .inr rfl⟩
          have i1 : ix V b.1 < r.length := by unfold ix; rw [pre_idx (hpre.trans hV) hm1, hr2.1]; exact List.idxOf_lt_length_of_mem hm1
          have i2 : ix V b.2.2 < r.length := by unfold ix; rw [pre_idx (hpre.trans hV) hm2, hr2.1]; exact List.idxOf_lt_length_of_mem hm2
          unfold env at this ⊢
          rw [← h2, getD_take i1, getD_take i2] at this
          exact this
        · have : b = a := by simpa using hb
          subst this
          exact mem_prs.1 h3
      · rintro ⟨h1, h2⟩
        have hle : (varsL al).length ≤ s.length := by rw [h1]; exact hpre.length_le
        have hrl : (s.take (varsL al).length).length = (varsL al).length := by rw [List.length_take]; omega
        refine ⟨s.take (varsL al).length, (ih2 _).2 ⟨hrl, fun b hb => ?_⟩, (mem_ext hx h0 (by rw [hrl]; exact hlies) s).2 ⟨h1, by rw [hrl], mem_prs.2 (h2 a (by simp))⟩⟩
        have := h2 b (by simp [hb])
        have hm1 : b.1 ∈ varsL al := varsL_mem.2 ⟨b, hb, .inl rfl⟩
        have hm2 : b.2.2 ∈ varsL al := varsL_mem.2 ⟨b, hb, .inr rfl⟩
        have i1 : ix V b.1 < (varsL al).length := by unfold ix; rw [pre_idx (hpre.trans hV) hm1]; exact List.idxOf_lt_length_of_mem hm1
        have i2 : ix V b.2.2 < (varsL al).length := by unfold ix; rw [pre_idx (hpre.trans hV) hm2]; exact List.idxOf_lt_length_of_mem hm2
        unfold env at this ⊢
        rw [getD_take i1, getD_take i2]; exact this
/-! ### 5. Definitions of views -/
def isLow (b : UInt8) : Bool := decide (97 ≤ b.toNat) && decide (b.toNat ≤ 122)
def nameB (v : List UInt8) : Bool := decide (0 < v.length) && decide (v.length ≤ 16) && v.all isLow
/-- A pattern that is one. -/
def patB (v : Vw) : Bool := nameB v.1 && decide (v.2.2.2.2 = []) && decide (1 ≤ v.2.2.1.length) && decide (v.2.2.1.length ≤ 6) && decide (1 ≤ v.2.2.2.1.length) && decide (v.2.2.2.1.length ≤ 8)
  && v.2.2.2.1.all (fun a => nameB a.1 && nameB a.2.1 && nameB a.2.2)
def outB (V out : List Lab) : Bool := out.all (fun o => V.contains o) && decide out.Nodup
def okV (v : Vw) : Bool := decide (v.2.1 = 1) && patB v && outB (varsL v.2.2.2.1) v.2.2.1
def tooMany (l : List Ed) (al : List Atm) : Prop := ∃ k, k ≤ al.length ∧ 3000 < (rowsK (byLab l) (varsL al) (al.take k)).length
/-- What Rows tells. -/
def RowsSay (v : Vw) (l : List Ed) (r : List Tp × Int) : Prop :=
  (okV v = false ∧ r = ([], 1)) ∨ (okV v = true ∧ tooMany l v.2.2.2.1 ∧ r = ([], 5)) ∨ (okV v = true ∧ ¬ tooMany l v.2.2.2.1 ∧ r = (setR (rowsK (byLab l) (varsL v.2.2.2.1) v.2.2.2.1), 0))
def proj (V out : List Lab) (r : Tp) : Tp := out.map fun o => env V r o
def allOf (v : Vw) (l : List Ed) : List Tp := (setR (rowsK (byLab l) (varsL v.2.2.2.1) v.2.2.2.1)).map (proj (varsL v.2.2.2.1) v.2.2.1)
/-- How often each. -/
def countsOf (all : List Tp) : List Int := (setR all).map fun t => (all.count t : Int)
def ResSay (v : Vw) (l : List Ed) (r : List Tp × List Int × Int) : Prop :=
  (okV v = false ∧ r = ([], [], 1)) ∨ (okV v = true ∧ tooMany l v.2.2.2.1 ∧ r = ([], [], 5)) ∨ (okV v = true ∧ ¬ tooMany l v.2.2.2.1 ∧ r = (setR (allOf v l), countsOf (allOf v l), 0))
end Go.Jn
