/- Typed walks: rows and variables of the call's own: made, read, written, handed over. Over any program. -/
import Derived.Test.YtoaeaclcbcpheaaDoorG3
import Derived.Maps.AppendAt
import Derived.Laws.MakeOwn
import Derived.Laws.OwnMore
namespace Go.Gw
open Go
set_option linter.unusedVariables false

/-! ### 1. Items -/
theorem ownsRow_moved {w w' : World} {base : Nat} {e : TypeId} {size n : Nat} {v : Value} {xs : List Value} (h : w.ownsRow base e size v n xs) (hm : ∀ g, v.ownBlock = some g → w'.heap[g]? = w.heap[g]?) : w'.ownsRow base e size v n xs := by
  obtain ⟨h1, h2⟩ := h
  refine ⟨h1, ?_⟩
  rcases h2 with h2 | ⟨g, cap, cur, rfl, hg, hh, r⟩
  · exact .inl h2
  · exact .inr ⟨g, cap, cur, rfl, hg, (hm g (by simp [Value.ownBlock])).trans hh, r⟩
/-- A row of the call's own: elements of type e, of kind d; the slice's value is v. -/
def OwnI {α : Type} (e : TypeId) (d : Kd α) (v : Value) (xs : List α) : It where
  blk := v.ownBlock
  p := fun w H => ∃ inner, w.ownsRow 0 e d.sz v xs.length inner ∧ Reps d H xs inner
  st := fun hk hs ⟨inner, h1, h2⟩ => ⟨inner, ownsRow_moved h1 hk, h2.mono hs⟩
/-- A variable in memory. -/
def BlkI {α : Type} (g : Nat) (t : TypeId) (d : Kd α) (x : α) : It where
  blk := some g
  p := fun w H => ∃ cs, d.K H x cs ∧ w.heap[g]? = some (.cells cs.toArray t (0, 0))
  st := fun hk hs ⟨cs, h1, h2⟩ => ⟨cs, d.mono hs h1, (hk g rfl).trans h2⟩
abbrev nilS : Value := .slice none 0 0
theorem own_nil_p {α : Type} {e : TypeId} {d : Kd α} {w : World} {H : FH} : (OwnI e d nilS ([] : List α)).p w H := ⟨[], World.ownsRow_nil w 0 e d.sz, Reps.nil⟩

section
variable {C : Cx} {Γ : Env} {L R : List It} {Q : Exit → Act → World → Prop} {ops : Array Oper} {rest : List Oper}
variable {dst : Option Tmp} {ty : TypeId} {pos : String} {after : Array Edge} {guard : Option (Nat × Bool)} {x y z : Operand}
variable {α β : Type} {d : Kd α} {e : Kd β}

theorem Owns.nilItem {ok : Nat → Prop} {w : World} {H : FH} (h : Owns ok w H L) (t : TypeId) (d : Kd α) : Owns ok w H (OwnI t d nilS [] :: L) where
  all := fun i hi => by
    rcases List.mem_cons.1 hi with rfl | hi
    · exact own_nil_p
    · exact h.all i hi
  nodup := h.nodup
  own := h.own
/-- A nil slice is a row of one's own. -/
theorem tr_nilItem (t : TypeId) (d : Kd α) {φ : Act → World → Prop} (h : Tr C Γ (OwnI t d nilS [] :: L) φ) : Tr C Γ L φ := fun a w H f s o => h a w H f s (o.nilItem t d)

theorem own_form {w : World} {H : FH} {t : TypeId} {v : Value} {xs : List α} (h : (OwnI t d v xs).p w H) : (∃ A c, v = .slice A xs.length c ∧ xs.length ≤ c) ∧ xs.length ≤ maxLen := by
  obtain ⟨inner, ⟨h1, h2⟩, _⟩ := h
  rcases h2 with ⟨rfl, h0⟩ | ⟨g, cap, cur, rfl, _, _, hc, hm, _⟩
  · exact ⟨⟨none, 0, by rw [h0], by omega⟩, by omega⟩
  · exact ⟨⟨_, cap, rfl, hc⟩, Nat.le_trans hc hm⟩

/-! ### 2. A slice is given up: it is read from here on -/
def addH (H : FH) (g : Nat) (o : Obj) : FH := fun k => if k = g then some o else H k
theorem addH_sub {H : FH} {g : Nat} {o : Obj} (h : H g = none) : Sub H (addH H g o) := fun k u e => by
  unfold addH
  by_cases hk : k = g
  · subst hk; rw [h] at e; cases e
  · rw [if_neg hk]; exact e
theorem addH_on {H : FH} {w : World} {g : Nat} {o : Obj} (h : On H w) (hg : w.heap[g]? = some o) : On (addH H g o) w := fun k u e => by
  unfold addH at e
  by_cases hk : k = g
  · subst hk; rw [if_pos rfl] at e; cases e; exact hg
  · rw [if_neg hk] at e; exact h k u e
theorem own_frozen {w : World} {H : FH} {t : TypeId} {v : Value} {xs : List α} (h : (OwnI t d v xs).p w H) (hn : ∀ g, v.ownBlock = some g → H g = none) (hon : On H w) :
    ∃ H', Sub H H' ∧ On H' w ∧ (∀ k o, H' k = some o → H k = some o ∨ v.ownBlock = some k) ∧ (SlT d xs).p H' v := by
  obtain ⟨inner, ⟨h1, h2⟩, h3⟩ := h
  rcases h2 with ⟨rfl, h0⟩ | ⟨g, cap, cur, rfl, _, hb, hc, hm, hs, hi⟩
  · exact ⟨H, Sub.refl _, hon, fun k o e => .inl e, none, 0, by rw [h0], by omega, by omega, fun hp => by omega⟩
  · have hg : H g = none := hn g rfl
    refine ⟨addH H g (.cells cur t (0, 0)), addH_sub hg, addH_on hon hb, fun k o e => ?_, some ⟨g, 0, none⟩, cap, rfl, hc, Nat.le_trans hc hm, fun _ => ⟨⟨g, 0, none⟩, cur, t, (0, 0), inner, rfl, rfl, by simp [addH], h3.mono (addH_sub hg), ?_⟩⟩
    · unfold addH at e
      by_cases hk : k = g
      · subst hk; exact .inr rfl
      · rw [if_neg hk] at e; exact .inl e
    · intro i u e
      have hlen : i < inner.length := (List.getElem?_eq_some_iff.1 e).1
      rw [← hi, List.getElem?_take] at e
      by_cases hk : i < xs.length * d.sz
      · rw [if_pos hk] at e; simpa using e
      · rw [if_neg hk] at e; cases e
theorem frozen_sub {ok : Nat → Prop} {w : World} {H H' : FH} {J : It} (ho : Owns ok w H (J :: R)) (hs : Sub H H') (hn : ∀ k o, H' k = some o → H k = some o ∨ J.blk = some k) : Owns ok w H' R where
  all := fun i hi => i.st (fun _ _ => rfl) hs (ho.all i (List.mem_cons_of_mem _ hi))
  nodup := by
    have := ho.nodup
    unfold blks at this
    cases hb : J.blk with
    | none => rwa [List.filterMap_cons_none hb] at this
    | some g => rw [List.filterMap_cons_some hb] at this; exact (List.nodup_cons.1 this).2
  own := fun g hg => by
    have hmem : g ∈ blks (J :: R) := by
      unfold blks at hg ⊢
      cases hb : J.blk with
      | none => rwa [List.filterMap_cons_none hb]
      | some k => rw [List.filterMap_cons_some hb]; exact List.mem_cons_of_mem _ hg
    obtain ⟨h1, h2, h3⟩ := ho.own g hmem
    refine ⟨h1, ?_, h3⟩
    cases e : H' g with
    | none => rfl
    | some o =>
      rcases hn g o e with e | e
      · rw [h2] at e; cases e
      · have hnd := ho.nodup
        unfold blks at hnd hg
        rw [List.filterMap_cons_some e] at hnd
        exact absurd hg (List.nodup_cons.1 hnd).1
theorem tr_freeze {t : TypeId} {v : Value} {xs : List α} {φ : Act → World → Prop} (hp : List.Perm L (OwnI t d v xs :: R)) (sl : Nat) (hv : OT C.N Γ (.tmp sl) (IsV v)) (h : Tr C ((sl, SlT d xs) :: Γ) R φ) : Tr C Γ L φ := by
  intro a w H f s o
  have o' := o.perm hp
  have hb : ∀ g, v.ownBlock = some g → g < w.heap.size ∧ H g = none ∧ C.ok g := fun g hg => o'.own g (blk_mem (i := OwnI t d v xs) List.mem_cons_self hg)
  obtain ⟨H', h1, h2, h3, h4⟩ := own_frozen (o'.all _ List.mem_cons_self) (fun g hg => (hb g hg).2.1) s.on
  refine h a w H' (fits_cons ?_ (f.mono h1)) ⟨s.sub.trans h1, h2, s.os, s.tape, s.output, s.size, s.keep, fun k o e => ?_⟩ (frozen_sub o' h1 h3)
  · have : a.eval (.tmp sl) = v := hv a H f
    simp only [Act.eval] at this
    rw [this]; exact h4
  · rcases h3 k o e with e | e
    · exact s.new k o e
    · rcases (hb k e).2.2 with h5 | h5
      · exact .inr (.inr h5)
      · exact .inr (.inl h5)

/-! ### 3. Reading what is owned -/
theorem pu_len_own {t el t' : TypeId} {v : Value} {xs : List α} (hx : OT C.N Γ x (IsV v)) (hm : OwnI t' d v xs ∈ L) (ht : C.P.underlying t = some (.slice el)) : Pure C Γ L ⟨dst, .call ⟨.builtin .len, #[x], #[t]⟩, ty, pos, after, guard⟩ (I64 xs.length) := fun a w H f s ow => by
  have h0 : a.eval x = v := hx a H f
  obtain ⟨⟨A, c, rfl, _⟩, _⟩ := own_form (ow.all _ hm)
  exact ⟨_, by simp [execOp, resolve, invoke, builtin, Builtin.len_, h0, run_underlying ht, goInt], rfl⟩
/-- The address of a row's cell. -/
def ptrAt (v : Value) (off : Nat) : Value := match v with
  | .slice (some a) _ _ => .pointer (some ⟨a.block, off, none⟩)
  | _ => undef
theorem pu_index_own {t el t' : TypeId} {k : IntKind} {v : Value} {xs : List α} {i : Int} (hx : OT C.N Γ x (IsV v)) (hm : OwnI t' d v xs ∈ L) (hy : OT C.N Γ y (IntT k i)) (ht : C.P.underlying t = some (.slice el)) (he : tyOk C.P el d.agg d.sz = true) (h0 : 0 ≤ i) (h1 : i < xs.length) :
    Pure C Γ L ⟨dst, .indexAddr t x y, ty, pos, after, guard⟩ (IsV (ptrAt v (i.toNat * d.sz))) := fun a w H f s ow => by
  have hv : a.eval x = v := hx a H f
  have hi : a.eval y = .int k i := hy a H f
  obtain ⟨inner, ⟨h2, h3⟩, _⟩ := ow.all _ hm
  rcases h3 with ⟨rfl, hl⟩ | ⟨g, cap, cur, rfl, _⟩
  · omega
  · refine ⟨_, ?_, rfl⟩
    simp [execOp, Instr.indexAt, hi, asIntOf, run_underlying ht, hv, h1, h0, run_sizeOf he, add_plain, ptrAt]
theorem own_stand {w : World} {H : FH} {t : TypeId} {v : Value} {xs : List α} (h : (OwnI t d v xs).p w H) (hn : 0 < xs.length) : ∃ g cap cur cs, v = .slice (some ⟨g, 0, none⟩) xs.length cap ∧ w.heap[g]? = some (.cells cur t (0, 0)) ∧ Reps d H xs cs ∧ Stand cur 0 cs ∧ cur.size = cap * d.sz ∧ xs.length ≤ cap ∧ cap ≤ maxLen ∧ cs = cur.toList.take (xs.length * d.sz) := by
  obtain ⟨inner, ⟨h2, h3⟩, h4⟩ := h
  rcases h3 with ⟨rfl, hl⟩ | ⟨g, cap, cur, rfl, _, hb, hc, hm, hsz, hin⟩
  · omega
  · refine ⟨g, cap, cur, inner, rfl, hb, h4, fun i u e => ?_, hsz, hc, hm, hin.symm⟩
    rw [← hin, List.getElem?_take] at e
    by_cases hk : i < xs.length * d.sz
    · rw [if_pos hk] at e; simpa using e
    · rw [if_neg hk] at e; cases e
/-- A part g of element i, off cells behind its beginning. -/
theorem pu_load_own {t t' : TypeId} {v : Value} {xs : List α} {i : Nat} {off : Nat} {el : α} {g : β} {set : β → α} (hx : OT C.N Γ x (IsV (ptrAt v (i * d.sz + off)))) (hm : OwnI t' d v xs ∈ L) (hi : xs[i]? = some el) (hl : Lens d e off el g set) (ht : tyOk C.P t e.agg e.sz = true) :
    Pure C Γ L ⟨dst, .load t x, ty, pos, after, guard⟩ (e.T g) := fun a w H f s ow => by
  have hv : a.eval x = ptrAt v (i * d.sz + off) := hx a H f
  obtain ⟨b, cap, cur, cs, rfl, hb, hR, hS, _⟩ := own_stand (ow.all _ hm) (by have := (List.getElem?_eq_some_iff.1 hi).1; omega)
  have hk := hl.get (hR.2 i el hi)
  have hle := e.len hk
  have hS2 : Stand cur (0 + (i * d.sz + off)) ((((cs.drop (i * d.sz)).take d.sz).drop off).take e.sz) := by
    have := (hS.drop (i * d.sz) d.sz).drop off e.sz
    rwa [Nat.add_assoc] at this
  rw [Nat.zero_add] at hS2
  refine ⟨mkV e.agg _, ?_, e.toT hk⟩
  have := run_loadVar (P := C.P) (w := w) (t := t) (agg := e.agg) (by rw [hle]; exact ht) (fun h => by rw [hle]; exact e.szone h) hb hS2
  simp [execOp, Instr.loadAt, Instr.sureAddr, hv, ptrAt, this]
theorem pu_load_own0 [Inhabited α] {t t' : TypeId} {v : Value} {xs : List α} {i : Int} (hx : OT C.N Γ x (IsV (ptrAt v (i.toNat * d.sz)))) (hm : OwnI t' d v xs ∈ L) (h0 : 0 ≤ i) (h1 : i < xs.length) (ht : tyOk C.P t d.agg d.sz = true) :
    Pure C Γ L ⟨dst, .load t x, ty, pos, after, guard⟩ (d.T (at' xs i)) := pu_load_own (off := 0) hx hm (at'_some h1 h0) Lens.self ht
/-- The address of a variable's cell. -/
abbrev pt (g off : Nat) : Value := .pointer (some ⟨g, off, none⟩)
theorem pu_load_blk {t t' : TypeId} {b : Nat} {v : α} {off : Nat} {g : β} {set : β → α} (hx : OT C.N Γ x (IsV (pt b off))) (hm : BlkI b t' d v ∈ L) (hl : Lens d e off v g set) (ht : tyOk C.P t e.agg e.sz = true) :
    Pure C Γ L ⟨dst, .load t x, ty, pos, after, guard⟩ (e.T g) := fun a w H f s ow => by
  have hv : a.eval x = pt b off := hx a H f
  obtain ⟨cs, hK, hb⟩ := ow.all _ hm
  have hk := hl.get hK
  have hle := e.len hk
  have hS : Stand cs.toArray off ((cs.drop off).take e.sz) := fun i u h => by
    rw [List.getElem?_take] at h
    by_cases hi : i < e.sz
    · rw [if_pos hi, List.getElem?_drop] at h; simpa using h
    · rw [if_neg hi] at h; cases h
  refine ⟨mkV e.agg _, ?_, e.toT hk⟩
  have := run_loadVar (P := C.P) (w := w) (t := t) (agg := e.agg) (by rw [hle]; exact ht) (fun h => by rw [hle]; exact e.szone h) hb hS
  simp [execOp, Instr.loadAt, Instr.sureAddr, hv, this]
theorem pu_load_var {t t' : TypeId} {b : Nat} {v : α} (hx : OT C.N Γ x (IsV (pt b 0))) (hm : BlkI b t' d v ∈ L) (ht : tyOk C.P t d.agg d.sz = true) :
    Pure C Γ L ⟨dst, .load t x, ty, pos, after, guard⟩ (d.T v) := pu_load_blk hx hm Lens.self ht
/-- An element's address in an array that is a variable (or a part of one). -/
theorem pu_index_blk {t el : TypeId} {k : IntKind} {b off n sz : Nat} {agg : Bool} {i : Int} (hx : OT C.N Γ x (IsV (pt b off))) (hy : OT C.N Γ y (IntT k i)) (ht : C.P.underlying t = some (.array n el)) (he : tyOk C.P el agg sz = true) (h0 : 0 ≤ i) (h1 : i < n) :
    Pure C Γ L ⟨dst, .indexAddr t x y, ty, pos, after, guard⟩ (IsV (pt b (off + i.toNat * sz))) := fun a w H f s ow => by
  have hv : a.eval x = pt b off := hx a H f
  have hi : a.eval y = .int k i := hy a H f
  refine ⟨_, ?_, rfl⟩
  simp [execOp, Instr.indexAt, hi, asIntOf, run_underlying ht, hv, h1, h0, run_sizeOf he, add_plain, Instr.sureAddr, pt]
/-- An element of an array that is a value. -/
theorem pu_index_agg [Inhabited α] {t el : TypeId} {k : IntKind} {n : Nat} {xs : List α} {i : Int} (hx : OT C.N Γ x ((karr n d).T xs)) (hy : OT C.N Γ y (IntT k i)) (ht : C.P.underlying t = some (.array n el)) (he : tyOk C.P el d.agg d.sz = true) (h0 : 0 ≤ i) (h1 : i < n) :
    Pure C Γ L ⟨dst, .index t x y, ty, pos, after, guard⟩ (d.T (at' xs i)) := fun a w H f s ow => by
  obtain ⟨cs, ⟨hn, hR⟩, hv⟩ := hx a H f
  have hi : a.eval y = .int k i := hy a H f
  have hk := hR.2 i.toNat _ (at'_some (by omega) h0)
  have hl := d.len hk
  refine ⟨mkV d.agg _, ?_, d.toT hk⟩
  have hle : i.toNat * d.sz + d.sz ≤ cs.length := by
    rw [hR.1, ← Nat.succ_mul]; exact Nat.mul_le_mul_right _ (by omega)
  have hpart : (part el cs.toArray (i.toNat * d.sz)).run C.P w = .ok (mkV d.agg ((cs.drop (i.toNat * d.sz)).take d.sz)) w := by
    unfold part
    cases hag : d.agg with
    | true =>
      rw [hag] at he
      simp [run_isAgg he, run_sizeOf he, mkV, List.take_drop]
    | false =>
      rw [hag] at he
      have h1 : d.sz = 1 := d.szone hag
      have h2 : i.toNat * d.sz < cs.length := by omega
      simp [run_isAgg he, mkV, h1] at h2 ⊢
      simp [h2, List.head?_take, List.head?_drop]
  simp [execOp, Instr.index, hi, asIntOf, run_underlying ht, hv, h1, h0, run_sizeOf he, hpart]
end
end Go.Gw
