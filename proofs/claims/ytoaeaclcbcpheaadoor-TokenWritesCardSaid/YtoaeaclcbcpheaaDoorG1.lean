/- The ground of typed walks: slots of a frame hold values of semantic types over a frozen part of the heap; what a call may write is told as items. Over any program. -/
import Derived.WalkKit
import Derived.KernelRfl
import Derived.Orders
namespace Go.Gw
open Go
set_option linter.unusedVariables false

/-! ### 1. The frozen heap -/
abbrev FH := Nat → Option Obj
def Sub (H H' : FH) : Prop := ∀ k o, H k = some o → H' k = some o
theorem Sub.refl (H : FH) : Sub H H := fun _ _ h => h
theorem Sub.trans {H H' H'' : FH} (h : Sub H H') (h' : Sub H' H'') : Sub H H'' := fun k o e => h' k o (h k o e)
def On (H : FH) (w : World) : Prop := ∀ k o, H k = some o → w.heap[k]? = some o
theorem On.lt {H : FH} {w : World} (h : On H w) {k : Nat} {o : Obj} (e : H k = some o) : k < w.heap.size := (Array.getElem?_eq_some_iff.1 (h k o e)).1

structure St (M : Nat → Prop) (H0 : FH) (w0 : World) (H : FH) (w : World) : Prop where
  sub : Sub H0 H
  on : On H w
  os : w.os = w0.os
  tape : w.tape = w0.tape
  output : w.output = w0.output
  size : w0.heap.size ≤ w.heap.size
  keep : ∀ k, k < w0.heap.size → ¬ M k → w.heap[k]? = w0.heap[k]?
  new : ∀ k o, H k = some o → H0 k = some o ∨ w0.heap.size ≤ k ∨ M k

def noM : Nat → Prop := fun _ => False
theorem St.refl {M : Nat → Prop} {H : FH} {w : World} (h : On H w) : St M H w H w := ⟨Sub.refl _, h, rfl, rfl, rfl, Nat.le_refl _, fun _ _ _ => rfl, fun _ _ h => .inl h⟩
theorem St.trans {M M' : Nat → Prop} {H0 H H' : FH} {w0 w w' : World} (h : St M H0 w0 H w) (h' : St M' H w H' w') (hm : ∀ k, M' k → M k ∨ w0.heap.size ≤ k) : St M H0 w0 H' w' where
  sub := h.sub.trans h'.sub
  on := h'.on
  os := h'.os.trans h.os
  tape := h'.tape.trans h.tape
  output := h'.output.trans h.output
  size := Nat.le_trans h.size h'.size
  keep := fun k hk hM => (h'.keep k (Nat.lt_of_lt_of_le hk h.size) (fun e => (hm k e).elim hM (fun h => by omega))).trans (h.keep k hk hM)
  new := fun k o e => by
    rcases h'.new k o e with e | e | e
    · exact h.new k o e
    · exact .inr (.inl (Nat.le_trans h.size e))
    · rcases hm k e with e | e
      · exact .inr (.inr e)
      · exact .inr (.inl e)
theorem St.weaken {M M' : Nat → Prop} {H0 H : FH} {w0 w : World} (h : St M H0 w0 H w) (hm : ∀ k, M k → M' k) : St M' H0 w0 H w :=
  ⟨h.sub, h.on, h.os, h.tape, h.output, h.size, fun k hk hM => h.keep k hk (fun e => hM (hm k e)), fun k o e => (h.new k o e).imp id (Or.imp id (hm k))⟩
theorem St.none {M : Nat → Prop} {H0 H : FH} {w0 w : World} (h : St noM H0 w0 H w) : St M H0 w0 H w := h.weaken fun _ e => e.elim
theorem St.trans0 {M : Nat → Prop} {H0 H H' : FH} {w0 w w' : World} (h : St M H0 w0 H w) (h' : St noM H w H' w') : St M H0 w0 H' w' := h.trans h' fun _ e => e.elim

/-! ### 2. Items: what is owned -/
structure It where
  blk : Option Nat
  p : World → FH → Prop
  st : ∀ {w w' : World} {H H' : FH}, (∀ g, blk = some g → w'.heap[g]? = w.heap[g]?) → Sub H H' → p w H → p w' H'

def blks (L : List It) : List Nat := L.filterMap It.blk
structure Owns (ok : Nat → Prop) (w : World) (H : FH) (L : List It) : Prop where
  all : ∀ i ∈ L, i.p w H
  nodup : (blks L).Nodup
  own : ∀ g ∈ blks L, g < w.heap.size ∧ H g = none ∧ ok g

theorem blk_mem {L : List It} {i : It} {g : Nat} (h : i ∈ L) (e : i.blk = some g) : g ∈ blks L := List.mem_filterMap.2 ⟨i, h, e⟩
theorem Owns.nil {ok : Nat → Prop} {w : World} {H : FH} : Owns ok w H [] := ⟨fun _ h => (by cases h), List.nodup_nil, fun _ h => (by cases h)⟩
theorem Owns.st {ok : Nat → Prop} {M : Nat → Prop} {H H' : FH} {w w' : World} {L : List It} (h : Owns ok w H L) (s : St M H w H' w') (hM : ∀ g ∈ blks L, ¬ M g) : Owns ok w' H' L where
  all := fun i hi => i.st (fun g e => s.keep g (h.own g (blk_mem hi e)).1 (hM g (blk_mem hi e))) s.sub (h.all i hi)
  nodup := h.nodup
  own := fun g hg => by
    obtain ⟨h1, h2, h3⟩ := h.own g hg
    refine ⟨Nat.lt_of_lt_of_le h1 s.size, ?_, h3⟩
    cases e : H' g with
    | none => rfl
    | some o =>
      rcases s.new g o e with e | e | e
      · rw [h2] at e; cases e
      · omega
      · exact absurd e (hM g hg)
theorem Owns.st0 {ok : Nat → Prop} {H H' : FH} {w w' : World} {L : List It} (h : Owns ok w H L) (s : St noM H w H' w') : Owns ok w' H' L := h.st s fun _ _ e => e
theorem Owns.mono {ok ok' : Nat → Prop} {w : World} {H : FH} {L : List It} (h : Owns ok w H L) (ho : ∀ g ∈ blks L, ok g → ok' g) : Owns ok' w H L := ⟨h.all, h.nodup, fun g hg => let ⟨a, b, c⟩ := h.own g hg; ⟨a, b, ho g hg c⟩⟩
theorem Owns.append {ok : Nat → Prop} {w : World} {H : FH} {L J : List It} (h : Owns ok w H L) (h' : Owns ok w H J) (hd : ∀ g ∈ blks L, g ∉ blks J) : Owns ok w H (L ++ J) where
  all := fun i hi => (List.mem_append.1 hi).elim (h.all i) (h'.all i)
  nodup := by
    unfold blks; rw [List.filterMap_append]
    exact List.nodup_append.2 ⟨h.nodup, h'.nodup, fun a ha b hb e => hd a ha (e ▸ hb)⟩
  own := fun g hg => by
    unfold blks at hg; rw [List.filterMap_append] at hg
    exact (List.mem_append.1 hg).elim (h.own g) (h'.own g)
theorem Owns.perm {ok : Nat → Prop} {w : World} {H : FH} {L J : List It} (h : Owns ok w H L) (hp : List.Perm L J) : Owns ok w H J where
  all := fun i hi => h.all i (hp.mem_iff.2 hi)
  nodup := (hp.filterMap It.blk).nodup_iff.1 h.nodup
  own := fun g hg => h.own g ((hp.filterMap It.blk).mem_iff.2 hg)
theorem Owns.left {ok : Nat → Prop} {w : World} {H : FH} {L J : List It} (h : Owns ok w H (L ++ J)) : Owns ok w H L := by
  have hn := h.nodup
  have ho := h.own
  unfold blks at hn ho; rw [List.filterMap_append] at hn ho
  exact ⟨fun i hi => h.all i (List.mem_append_left _ hi), (List.nodup_append.1 hn).1, fun g hg => ho g (List.mem_append_left _ hg)⟩
theorem Owns.right {ok : Nat → Prop} {w : World} {H : FH} {L J : List It} (h : Owns ok w H (L ++ J)) : Owns ok w H J := by
  have hn := h.nodup
  have ho := h.own
  unfold blks at hn ho; rw [List.filterMap_append] at hn ho
  exact ⟨fun i hi => h.all i (List.mem_append_right _ hi), (List.nodup_append.1 hn).2.1, fun g hg => ho g (List.mem_append_right _ hg)⟩
theorem Owns.apart {ok : Nat → Prop} {w : World} {H : FH} {L J : List It} (h : Owns ok w H (L ++ J)) : ∀ g ∈ blks L, g ∉ blks J := by
  have hn := h.nodup
  unfold blks at hn; rw [List.filterMap_append] at hn
  exact fun g hg hj => (List.nodup_append.1 hn).2.2 g hg g hj rfl
/-- Items are given up. -/
theorem Owns.sub {ok : Nat → Prop} {w : World} {H : FH} {L J : List It} (h : Owns ok w H L) (hs : List.Sublist J L) : Owns ok w H J where
  all := fun i hi => h.all i (hs.subset hi)
  nodup := h.nodup.sublist (hs.filterMap It.blk)
  own := fun g hg => h.own g ((hs.filterMap It.blk).subset hg)

/-! ### 3. Types of values, slots -/
structure Ty where
  p : FH → Value → Prop
  mono : ∀ {H H' : FH} {v : Value}, Sub H H' → p H v → p H' v

abbrev Env := List (Nat × Ty)
def find : Env → Nat → Option Ty
  | [], _ => none
  | (d, T) :: Γ, t => bif Nat.beq d t then some T else find Γ t
def upd (d : Option Nat) (T : Ty) (Γ : Env) : Env := match d with
  | some d => (d, T) :: Γ
  | none => Γ
/-- The slots that ds does not name. -/
def without (ds : List Nat) : Env → Env
  | [] => []
  | (d, T) :: Γ => bif ds.any (Nat.beq d) then without ds Γ else (d, T) :: without ds Γ
/-- These slots alone. -/
def only (ds : List Nat) : Env → Env
  | [] => []
  | (d, T) :: Γ => bif ds.any (Nat.beq d) then (d, T) :: only ds Γ else only ds Γ

structure Fits (N : Nat) (Γ : Env) (H : FH) (a : Act) : Prop where
  defers : a.defers = []
  size : a.tmps.size = N
  get : ∀ t T, find Γ t = some T → T.p H (a.tmps.getD t undef)

theorem Fits.mono {N : Nat} {Γ : Env} {H H' : FH} {a : Act} (h : Fits N Γ H a) (hs : Sub H H') : Fits N Γ H' a := ⟨h.defers, h.size, fun t T e => T.mono hs (h.get t T e)⟩
theorem find_without {ds : List Nat} : ∀ {Γ : Env} {t : Nat} {T : Ty}, find (without ds Γ) t = some T → find Γ t = some T
  | [], _, _, h => by cases h
  | (d, U) :: Γ, t, T, h => by
    unfold without at h
    unfold find
    cases hd : Nat.beq d t with
    | true =>
      have e : d = t := Nat.eq_of_beq_eq_true hd
      subst e
      cases hx : ds.any (Nat.beq d) with
      | true =>
        rw [hx] at h
        simp only [cond_true] at h
        exfalso
        have : ∀ Γ : Env, find (without ds Γ) d = none := by
          intro Γ
          induction Γ with
          | nil => rfl
          | cons p Γ ih =>
            obtain ⟨q, V⟩ := p
            unfold without
            cases hq : ds.any (Nat.beq q) with
            | true => simpa [hq] using ih
            | false =>
              have hne : Nat.beq q d = false := by
                cases hb : Nat.beq q d with
                | false => rfl
                | true => rw [Nat.eq_of_beq_eq_true hb, hx] at hq; cases hq
              simp [find, hne, ih]
        rw [this] at h; cases h
      | false => rw [hx] at h; simp only [cond_false, find, hd, cond_true] at h; exact h
    | false =>
      have hf : Nat.beq d t = false := hd
      cases hx : ds.any (Nat.beq d) with
      | true => rw [hx] at h; exact find_without (by simpa using h)
      | false => rw [hx] at h; simp only [cond_false, find, hf] at h; exact find_without h
theorem find_only {ds : List Nat} : ∀ {Γ : Env} {t : Nat} {T : Ty}, find (only ds Γ) t = some T → find Γ t = some T
  | [], _, _, h => by cases h
  | (d, U) :: Γ, t, T, h => by
    unfold only at h
    unfold find
    cases hd : Nat.beq d t with
    | true =>
      have e : d = t := Nat.eq_of_beq_eq_true hd
      subst e
      cases hx : ds.any (Nat.beq d) with
      | false =>
        rw [hx] at h
        exfalso
        have : ∀ Γ : Env, find (only ds Γ) d = none := by
          intro Γ
          induction Γ with
          | nil => rfl
          | cons p Γ ih =>
            obtain ⟨q, V⟩ := p
            unfold only
            cases hq : ds.any (Nat.beq q) with
            | false => simpa [hq] using ih
            | true =>
              have hne : Nat.beq q d = false := by
                cases hb : Nat.beq q d with
                | false => rfl
                | true => rw [Nat.eq_of_beq_eq_true hb, hx] at hq; cases hq
              simp [find, hne, ih]
        rw [cond_false, this] at h; cases h
      | true => rw [hx] at h; simpa [find, hd] using h
    | false =>
      have hf : Nat.beq d t = false := hd
      cases hx : ds.any (Nat.beq d) with
      | false => rw [hx] at h; exact find_only (by simpa using h)
      | true => rw [hx] at h; simp only [cond_true, find, hf, cond_false] at h; exact find_only h
theorem Fits.without {N : Nat} {Γ : Env} {H : FH} {a : Act} (h : Fits N Γ H a) (ds : List Nat) : Fits N (without ds Γ) H a := ⟨h.defers, h.size, fun t T e => h.get t T (find_without e)⟩
theorem Fits.only {N : Nat} {Γ : Env} {H : FH} {a : Act} (h : Fits N Γ H a) (ds : List Nat) : Fits N (only ds Γ) H a := ⟨h.defers, h.size, fun t T e => h.get t T (find_only e)⟩
theorem getD_put {a : Act} {d : Nat} {v : Value} {t : Nat} : (a.put (some d) v).tmps.getD t undef = if d = t ∧ d < a.tmps.size then v else a.tmps.getD t undef := by
  simp only [Act.put, Array.getD_eq_getD_getElem?, Array.getElem?_setIfInBounds]
  by_cases h : d = t
  · subst h
    by_cases h2 : d < a.tmps.size
    · simp [h2]
    · simp [h2]
  · simp [h]
theorem Fits.put {N : Nat} {Γ : Env} {H : FH} {a : Act} {T : Ty} {v : Value} (h : Fits N Γ H a) (d : Option Nat) (hd : (d.all fun d => decide (d < N)) = true) (hv : T.p H v) : Fits N (upd d T Γ) H (a.put d v) := by
  cases d with
  | none => exact h
  | some d =>
    have hdN : d < N := by simpa using hd
    refine ⟨h.defers, by simp [Act.put, h.size], fun t U e => ?_⟩
    rw [getD_put]
    simp only [upd, find] at e
    cases hb : Nat.beq d t with
    | true =>
      have : d = t := Nat.eq_of_beq_eq_true hb
      subst this
      rw [hb] at e
      cases e
      rw [if_pos ⟨rfl, by rw [h.size]; exact hdN⟩]
      exact hv
    | false =>
      rw [hb] at e
      rw [if_neg (fun x => by rw [x.1, Nat.beq_refl] at hb; cases hb)]
      exact h.get t U e
/-- A slot is forgotten. -/
theorem Fits.forget {N : Nat} {Γ : Env} {H : FH} {a : Act} (h : Fits N Γ H a) (d : Option Nat) (v : Value) : Fits N (Gw.without d.toList Γ) H (a.put d v) := by
  cases d with
  | none => exact h.without []
  | some d =>
    refine ⟨h.defers, by simp [Act.put, h.size], fun t U e => ?_⟩
    rw [getD_put]
    have hne : d ≠ t := by
      rintro rfl
      have : ∀ Γ : Env, find (Gw.without [d] Γ) d = none := by
        intro Γ
        induction Γ with
        | nil => rfl
        | cons p Γ ih =>
          obtain ⟨q, V⟩ := p
          unfold Gw.without
          cases hq : Nat.beq q d with
          | true => simpa [hq] using ih
          | false => simp [hq, find, ih]
      have h2 : find (Gw.without [d] Γ) d = some U := e
      rw [this] at h2; cases h2
    rw [if_neg (fun x => hne x.1)]
    exact h.get t U (find_without e)

/-! ### 4. The judgement -/
structure Cx where
  P : Program
  N : Nat
  M : Nat → Prop
  H0 : FH
  w0 : World
def Cx.ok (C : Cx) : Nat → Prop := fun g => C.M g ∨ C.w0.heap.size ≤ g
def Tr (C : Cx) (Γ : Env) (L : List It) (φ : Act → World → Prop) : Prop := ∀ a w H, Fits C.N Γ H a → St C.M C.H0 C.w0 H w → Owns C.ok w H L → φ a w

section
variable {C : Cx} {Γ : Env} {L : List It} {Q : Exit → Act → World → Prop}
theorem Tr.imp {φ ψ : Act → World → Prop} (h : Tr C Γ L φ) (hi : ∀ a w, φ a w → ψ a w) : Tr C Γ L ψ := fun a w H f s o => hi a w (h a w H f s o)
theorem tr_seq {x y : Code} (h : Tr C Γ L (x.wp C.P (Exit.then (y.wp C.P Q) Q))) : Tr C Γ L ((Code.seq x y).wp C.P Q) := h.imp fun _ _ => wp_seq
theorem tr_skip (h : Tr C Γ L (Q .normal)) : Tr C Γ L (Code.skip.wp C.P Q) := h.imp fun _ _ => wp_skip
theorem tr_label {l : Nat} (h : Tr C Γ L (Q .normal)) : Tr C Γ L ((Code.label l).wp C.P Q) := h.imp fun _ _ => wp_label
theorem tr_exit {i : Nat} (h : Tr C Γ L (Q (.exit i))) : Tr C Γ L ((Code.exit i).wp C.P Q) := h.imp fun _ _ => wp_exit
theorem tr_ret (h : Tr C Γ L (Q .ret)) : Tr C Γ L (Code.ret.wp C.P Q) := h.imp fun _ _ => wp_ret
theorem tr_block {i : Nat} {c : Code} (h : Tr C Γ L (c.wp C.P (Exit.inBlock i Q))) : Tr C Γ L ((Code.block i c).wp C.P Q) := h.imp fun _ _ => wp_block
theorem then_normal {K : Act → World → Prop} (h : Tr C Γ L K) : Tr C Γ L (Exit.then K Q .normal) := h
theorem then_exit {K : Act → World → Prop} {i : Nat} (h : Tr C Γ L (Q (.exit i))) : Tr C Γ L (Exit.then K Q (.exit i)) := h
theorem then_ret {K : Act → World → Prop} (h : Tr C Γ L (Q .ret)) : Tr C Γ L (Exit.then K Q .ret) := h
theorem block_normal {i : Nat} (h : Tr C Γ L (Q .normal)) : Tr C Γ L (Exit.inBlock i Q .normal) := h
theorem block_ret {i : Nat} (h : Tr C Γ L (Q .ret)) : Tr C Γ L (Exit.inBlock i Q .ret) := h
theorem block_hit {i : Nat} (h : Tr C Γ L (Q .normal)) : Tr C Γ L (Exit.inBlock i Q (.exit i)) := h.imp fun a w q => by simp [Exit.inBlock, q]
theorem block_pass {i j : Nat} (hij : Nat.beq j i = false) (h : Tr C Γ L (Q (.exit j))) : Tr C Γ L (Exit.inBlock i Q (.exit j)) := h.imp fun a w q => by
  have : j ≠ i := fun e => by rw [e, Nat.beq_refl] at hij; cases hij
  simp [Exit.inBlock, this, q]
theorem tr_sub {Γ' : Env} {L' : List It} {φ : Act → World → Prop} (h : Tr C Γ' L' φ) (hΓ : ∀ a H, Fits C.N Γ H a → Fits C.N Γ' H a) (hL : ∀ w H, Owns C.ok w H L → Owns C.ok w H L') : Tr C Γ L φ := fun a w H f s o => h a w H (hΓ a H f) s (hL w H o)
theorem tr_only (ds : List Nat) {φ : Act → World → Prop} (h : Tr C (only ds Γ) L φ) : Tr C Γ L φ := fun a w H f s o => h a w H (f.only ds) s o
theorem tr_without (ds : List Nat) {φ : Act → World → Prop} (h : Tr C (without ds Γ) L φ) : Tr C Γ L φ := fun a w H f s o => h a w H (f.without ds) s o
theorem tr_perm {L' : List It} {φ : Act → World → Prop} (hp : List.Perm L L') (h : Tr C Γ L' φ) : Tr C Γ L φ := fun a w H f s o => h a w H f s (o.perm hp)
theorem tr_give {L' : List It} {φ : Act → World → Prop} (hp : List.Sublist L' L) (h : Tr C Γ L' φ) : Tr C Γ L φ := fun a w H f s o => h a w H f s (o.sub hp)

/-! ### 5. Operands -/
def OT (N : Nat) (Γ : Env) (x : Operand) (T : Ty) : Prop := ∀ a H, Fits N Γ H a → T.p H (a.eval x)
theorem OT.tmp {N : Nat} {t : Nat} {T : Ty} (h : find Γ t = some T) : OT N Γ (.tmp t) T := fun _ _ f => f.get t T h
theorem OT.conv {N : Nat} {x : Operand} {T T' : Ty} (h : OT N Γ x T) (hc : ∀ H v, T.p H v → T'.p H v) : OT N Γ x T' := fun a H f => hc H _ (h a H f)

/-- Just this value. -/
def IsV (u : Value) : Ty := ⟨fun _ v => v = u, fun _ h => h⟩
abbrev IntT (k : IntKind) (n : Int) : Ty := IsV (.int k n)
abbrev I64 (n : Int) : Ty := IsV (.int .i64 n)
abbrev BoolT (b : Bool) : Ty := IsV (.bool b)
abbrev StrT (s : ByteArray) : Ty := IsV (.string s)
/-- Anything. -/
def AnyT : Ty := ⟨fun _ _ => True, fun _ h => h⟩
/-- A type under a condition. -/
def CndT (p : Prop) (T : Ty) : Ty := ⟨fun H v => p → T.p H v, fun hs h hp => T.mono hs (h hp)⟩
theorem OT.const {N : Nat} {v : Value} : OT N Γ (.const v) (IsV v) := fun _ _ _ => rfl
theorem OT.func {N : Nat} {f : FuncId} : OT N Γ (.func f) (IsV (.func (.func f) #[] #[])) := fun _ _ _ => rfl
theorem OT.global {N : Nat} {g : Nat} : OT N Γ (.global g) (IsV (.pointer (some ⟨g, 0, none⟩))) := fun _ _ _ => rfl
theorem OT.cnd {N : Nat} {x : Operand} {p : Prop} {T : Ty} (h : OT N Γ x (CndT p T)) (hp : p) : OT N Γ x T := fun a H f => h a H f hp
end

/-! ### 6. Operations, in the text's order -/
section
variable {C : Cx} {Γ : Env} {L : List It} {Q : Exit → Act → World → Prop} {ops : Array Oper} {o : Oper} {rest : List Oper}

theorem tr_region {id : Nat} {l : List Oper} (h : Tr C Γ L (wpList C.P l.toArray Q l)) : Tr C Γ L ((Code.region id l.toArray false).wp C.P Q) := h.imp fun _ _ => wp_region_lit
theorem tr_nil (h : Tr C Γ L (Q .normal)) : Tr C Γ L (wpList C.P ops Q []) := h

/-- An operation that comes to a value and leaves the world. -/
def Pure (C : Cx) (Γ : Env) (L : List It) (o : Oper) (T : Ty) : Prop :=
  ∀ a w H, Fits C.N Γ H a → St C.M C.H0 C.w0 H w → Owns C.ok w H L → ∃ v, (execOp a.eval o).run C.P w = .ok (.value v) w ∧ T.p H v

def dstOk (N : Nat) (d : Option Nat) : Bool := d.all fun d => decide (d < N)
theorem op_pure {T : Ty} (hp : Pure C Γ L o T) (hg : o.guard = none) (hd : dstOk C.N o.dst = true) (h : Tr C (upd o.dst T Γ) L (wpList C.P ops Q rest)) : Tr C Γ L (wpList C.P ops Q (o :: rest)) := by
  intro a w H f s ow
  obtain ⟨v, hr, hv⟩ := hp a w H f s ow
  refine wpList_plain hg fun K hK => ?_
  simp only [Oper.wp, hr, Oper.upon_value]
  exact hK _ _ (h _ w H (f.put o.dst hd hv) s ow)

/-- An operation that may make memory, or write its items J, giving items I r; r: what is not known ahead. -/
def Acts (C : Cx) (Γ : Env) (L : List It) (o : Oper) (J : List It) (ρ : Type) (T : ρ → Ty) (I : ρ → List It) (φ : ρ → Prop) : Prop :=
  ∀ a w H, Fits C.N Γ H a → St C.M C.H0 C.w0 H w → Owns C.ok w H L → ∀ (Q : Exit → Act → World → Prop) (K : Act → World → Prop),
    (∀ (r : ρ) (v : Value) (w' : World) (H' : FH), φ r → St (fun g => g ∈ blks J) H w H' w' → (T r).p H' v → Owns (fun g => g ∈ blks J ∨ w.heap.size ≤ g) w' H' (I r) → K (a.put o.dst v) w') → o.wp C.P a w K Q

theorem op_acts {J R : List It} {ρ : Type} {T : ρ → Ty} {I : ρ → List It} {φ : ρ → Prop} (hp : Acts C Γ L o J ρ T I φ) (hL : List.Perm L (J ++ R)) (hg : o.guard = none) (hd : dstOk C.N o.dst = true)
    (h : ∀ r, φ r → Tr C (upd o.dst (T r) Γ) (I r ++ R) (wpList C.P ops Q rest)) : Tr C Γ L (wpList C.P ops Q (o :: rest)) := by
  intro a w H f s ow
  refine wpList_plain hg fun K hK => ?_
  refine hp a w H f s ow Q K fun r v w' H' hφ s' hv ho => hK _ _ ?_
  have ow' := ow.perm hL
  have hM : ∀ k, k ∈ blks J → C.M k ∨ C.w0.heap.size ≤ k := fun k hk => (ow'.left.own k hk).2.2
  have s2 : St C.M C.H0 C.w0 H' w' := s.trans s' hM
  refine h r hφ _ w' H' ((f.mono s'.sub).put o.dst hd hv) s2 ?_
  refine Owns.append (ho.mono fun g _ hg => ?_) (ow'.right.st s' fun g hg hj => ow'.apart g hj hg) fun g hg hr => ?_
  · rcases hg with hg | hg
    · exact hM g hg
    · exact .inr (Nat.le_trans s.size hg)
  · rcases (ho.own g hg).2.2 with h1 | h1
    · exact ow'.apart g h1 hr
    · have := (ow'.right.own g hr).1; omega
end

/-! ### 7. A function's contract -/
def AllP (H : FH) : List Ty → List Value → Prop
  | [], [] => True
  | T :: As, v :: vs => T.p H v ∧ AllP H As vs
  | _, _ => False
def post (J : List It) (H : FH) (w : World) (ρ : Type) (T : ρ → Ty) (I : ρ → List It) (φ : ρ → Prop) : Ending → World → Prop := fun e w' =>
  ∃ (r : ρ) (v : Value) (H' : FH), e = .returned v ∧ φ r ∧ St (fun g => g ∈ blks J) H w H' w' ∧ (T r).p H' v ∧ Owns (fun g => g ∈ blks J ∨ w.heap.size ≤ g) w' H' (I r)
/-- Called with values of the types As, and the items J: it gives a value of type T r, and the items I r. -/
def Ct (P : Program) (f : FuncId) (As : List Ty) (J : List It) (ρ : Type) (T : ρ → Ty) (I : ρ → List It) (φ : ρ → Prop) : Prop :=
  ∀ (H : FH) (w : World) (args : List Value), On H w → AllP H As args → Owns (fun _ => True) w H J → Calls P f args.toArray w (post J H w ρ T I φ)

/-- The function's own slots at its entry. -/
def argEnv : Nat → List Ty → Env
  | _, [] => []
  | i, T :: As => (i, T) :: argEnv (i + 1) As
theorem allP_find {H : FH} : ∀ {As : List Ty} {vs : List Value} {i t : Nat} {T : Ty}, AllP H As vs → find (argEnv i As) t = some T → i ≤ t ∧ T.p H (vs.getD (t - i) undef) ∧ t - i < vs.length
  | [], [], _, _, _, _, h => by cases h
  | A :: As, v :: vs, i, t, T, hp, h => by
    unfold argEnv find at h
    cases hb : Nat.beq i t with
    | true =>
      have : i = t := Nat.eq_of_beq_eq_true hb
      subst this
      rw [hb] at h
      cases h
      exact ⟨Nat.le_refl _, by simpa using hp.1, by simp⟩
    | false =>
      rw [hb] at h
      obtain ⟨h1, h2, h3⟩ := allP_find hp.2 h
      have h4 : t - i = (t - (i + 1)) + 1 := by omega
      rw [h4]
      exact ⟨by omega, by simpa using h2, by simpa using h3⟩
theorem allP_len {H : FH} : ∀ {As : List Ty} {vs : List Value}, AllP H As vs → As.length = vs.length
  | [], [], _ => rfl
  | _ :: As, _ :: vs, h => by simp [allP_len h.2]
theorem fn_intro {P : Program} {f : FuncId} {fn : Func} {c : Code} {As : List Ty} {J : List It} {ρ : Type} {T : ρ → Ty} {I : ρ → List It} {φ : ρ → Prop} (hf : P.funcs[f]? = some fn) (hb : fn.body = some c) (hN : decide (As.length ≤ fn.ntmps) = true)
    (h : ∀ (H : FH) (w : World), Tr ⟨P, fn.ntmps, fun g => g ∈ blks J, H, w⟩ (argEnv 0 As) J (c.wp P (bodyPost P fn (post J H w ρ T I φ)))) : Ct P f As J ρ T I φ := by
  intro H w args hon hA hO
  have hlen := allP_len hA
  have hN' : As.length ≤ fn.ntmps := of_decide_eq_true hN
  refine calls_of_wp hf hb (h H w _ w H ⟨rfl, by simp; omega, fun t T' e => ?_⟩ (St.refl hon) (hO.mono fun g hg _ => .inl hg))
  obtain ⟨_, h2, h3⟩ := allP_find hA e
  have h4 : (args.toArray ++ Array.replicate (fn.ntmps - args.toArray.size) undef).getD t undef = args.getD (t - 0) undef := by
    simp only [Nat.sub_zero] at h3 ⊢
    simp [Array.getD_eq_getD_getElem?, List.getD_eq_getElem?_getD, Array.getElem?_append, h3]
  rw [h4]; exact h2

/-- A call of a named function. -/
def enters (P : Program) (f : FuncId) : Bool := match P.funcs[f]? with
  | some fn => !(fn.name == "runtime.NumGoroutine") && fn.body.isSome
  | none => false
theorem run_enters {P : Program} {f : FuncId} (h : enters P f = true) (args : Array Value) (w : World) : (callFunc f args).run P w = .ok (.enter f args) w := by
  unfold enters at h
  cases hf : P.funcs[f]? with
  | none => rw [hf] at h; cases h
  | some fn =>
    rw [hf] at h
    simp only [Bool.and_eq_true, Bool.not_eq_true'] at h
    have hb : fn.body.isNone = false := by rw [Option.isNone_eq_false_iff]; exact h.2
    have hn : (fn.name == "runtime.NumGoroutine") = false := h.1
    simp only [callFunc, Sem.run_bind, run_program, Result.andThen_ok, hf, hn, hb, Bool.false_eq_true, if_false, Sem.run_pure]

def OTs (N : Nat) (Γ : Env) : List Operand → List Ty → Prop
  | [], [] => True
  | x :: xs, T :: As => OT N Γ x T ∧ OTs N Γ xs As
  | _, _ => False
theorem OTs.all {N : Nat} {Γ : Env} {a : Act} {H : FH} (f : Fits N Γ H a) : ∀ {xs : List Operand} {As : List Ty}, OTs N Γ xs As → AllP H As (xs.map a.eval)
  | [], [], _ => trivial
  | _ :: _, _ :: _, h => ⟨h.1 a H f, OTs.all f h.2⟩
theorem OTs.nil {N : Nat} {Γ : Env} : OTs N Γ [] [] := trivial
theorem OTs.cons {N : Nat} {Γ : Env} {x : Operand} {xs : List Operand} {T : Ty} {As : List Ty} (h : OT N Γ x T) (hs : OTs N Γ xs As) : OTs N Γ (x :: xs) (T :: As) := ⟨h, hs⟩

theorem acts_call {C : Cx} {Γ : Env} {L R J : List It} {f : FuncId} {As : List Ty} {ρ : Type} {T : ρ → Ty} {I : ρ → List It} {φ : ρ → Prop} {dst : Option Tmp} {xs : List Operand} {ats : Array TypeId} {ty : TypeId} {pos : String} {after : Array Edge} {guard : Option (Nat × Bool)}
    (hF : Ct C.P f As J ρ T I φ) (hin : enters C.P f = true) (hxs : OTs C.N Γ xs As) (hL : List.Perm L (J ++ R)) :
    Acts C Γ L { dst, op := .call { callee := .value (.func f), args := xs.toArray, argTypes := ats }, type := ty, pos, after, guard } J ρ T I φ := by
  intro a w H fi s ow Q K hK
  have he : execOp a.eval { dst, op := .call { callee := .value (.func f), args := xs.toArray, argTypes := ats }, type := ty, pos, after, guard } = callFunc f (xs.map a.eval).toArray := by
    rw [execOp_call_go]; simp
  simp only [Oper.wp, he, run_enters hin, Oper.upon_enter]
  refine Calls.mono (hF H w _ s.on (OTs.all fi hxs) ((ow.perm hL).left.mono fun _ _ _ => trivial)) ?_
  rintro e w' ⟨r, v, H', rfl, hφ, s', hv, ho⟩
  exact hK r v w' H' hφ s' hv ho

/-! ### 8. What is handed back -/
section
variable {C : Cx} {Γ : Env} {L J : List It} {fn : Func} {ρ : Type} {T : ρ → Ty} {I : ρ → List It} {φ : ρ → Prop} {P : Program} {N : Nat} {H0 : FH} {w0 : World}
theorem ret_post (e : Exit) (he : e = .ret ∨ e = .normal) (r : ρ) (hφ : φ r) (hI : ∃ R, List.Perm L (I r ++ R))
    (hr : ∀ a w H, Fits N Γ H a → St (fun g => g ∈ blks J) H0 w0 H w → Owns (fun g => g ∈ blks J ∨ w0.heap.size ≤ g) w H L → ∃ v, (results fn a.tmps).run P w = .ok v w ∧ (T r).p H v) :
    Tr ⟨P, N, fun g => g ∈ blks J, H0, w0⟩ Γ L (bodyPost P fn (post J H0 w0 ρ T I φ) e) := by
  intro a w H f s ow
  obtain ⟨v, h1, h2⟩ := hr a w H f s ow
  obtain ⟨R, hp⟩ := hI
  have hend : a.defers = [] ∧ ∃ v, (results fn a.tmps).run P w = .ok v w ∧ post J H0 w0 ρ T I φ (.returned v) w :=
    ⟨f.defers, v, h1, r, v, H, rfl, hφ, s, h2, (ow.perm hp).left⟩
  rcases he with rfl | rfl <;> exact hend
theorem ret_none (e : Exit) (he : e = .ret ∨ e = .normal) (hres : fn.results = #[]) (r : ρ) (hT : ∀ H, (T r).p H (.tuple #[])) (hφ : φ r) (hI : ∃ R, List.Perm L (I r ++ R)) :
    Tr ⟨P, N, fun g => g ∈ blks J, H0, w0⟩ Γ L (bodyPost P fn (post J H0 w0 ρ T I φ) e) :=
  ret_post e he r hφ hI fun a w H _ _ _ => ⟨_, results_none hres _ _ _, hT H⟩
theorem ret_one (e : Exit) (he : e = .ret ∨ e = .normal) {t : Nat} (hres : fn.results = #[.tmp t]) (r : ρ) (hT : OT N Γ (.tmp t) (T r)) (hφ : φ r) (hI : ∃ R, List.Perm L (I r ++ R)) :
    Tr ⟨P, N, fun g => g ∈ blks J, H0, w0⟩ Γ L (bodyPost P fn (post J H0 w0 ρ T I φ) e) :=
  ret_post e he r hφ hI fun a w H f _ _ => ⟨_, results_tmp hres _ _ _, hT a H f⟩
def TupT (Ts : List Ty) : Ty := ⟨fun H v => ∃ vs, v = .tuple vs.toArray ∧ AllP H Ts vs, fun {H H' v} hs => by
  rintro ⟨vs, rfl, h⟩
  refine ⟨vs, rfl, ?_⟩
  induction Ts generalizing vs with
  | nil => cases vs with
    | nil => trivial
    | cons => exact h.elim
  | cons T Ts ih => cases vs with
    | nil => exact h.elim
    | cons v vs => exact ⟨T.mono hs h.1, ih vs h.2⟩⟩
theorem ret_two (e : Exit) (he : e = .ret ∨ e = .normal) {t u : Nat} (hres : fn.results = #[.tmp t, .tmp u]) (r : ρ) {A B : Ty} (hA : OT N Γ (.tmp t) A) (hB : OT N Γ (.tmp u) B) (hT : ∀ H v, (TupT [A, B]).p H v → (T r).p H v) (hφ : φ r) (hI : ∃ R, List.Perm L (I r ++ R)) :
    Tr ⟨P, N, fun g => g ∈ blks J, H0, w0⟩ Γ L (bodyPost P fn (post J H0 w0 ρ T I φ) e) :=
  ret_post e he r hφ hI fun a w H f _ _ => ⟨_, results_tmp2 hres _ _ _, hT _ _ ⟨[_, _], rfl, hA a H f, hB a H f, trivial⟩⟩
theorem ret_three (e : Exit) (he : e = .ret ∨ e = .normal) {t u s : Nat} (hres : fn.results = #[.tmp t, .tmp u, .tmp s]) (r : ρ) {A B D : Ty} (hA : OT N Γ (.tmp t) A) (hB : OT N Γ (.tmp u) B) (hD : OT N Γ (.tmp s) D) (hT : ∀ H v, (TupT [A, B, D]).p H v → (T r).p H v) (hφ : φ r) (hI : ∃ R, List.Perm L (I r ++ R)) :
    Tr ⟨P, N, fun g => g ∈ blks J, H0, w0⟩ Γ L (bodyPost P fn (post J H0 w0 ρ T I φ) e) :=
  ret_post e he r hφ hI fun a w H f _ _ => ⟨_, results_tmp3 hres _ _ _, hT _ _ ⟨[_, _, _], rfl, hA a H f, hB a H f, hD a H f, trivial⟩⟩
end

/-! ### 9. Tests and loops -/
section
variable {C : Cx} {Γ : Env} {L : List It} {Q : Exit → Act → World → Prop}
theorem tr_cond {x : Operand} {b : Bool} {c d : Code} (hx : OT C.N Γ x (BoolT b)) (ht : b = true → Tr C Γ L (c.wp C.P Q)) (he : b = false → Tr C Γ L (d.wp C.P Q)) : Tr C Γ L ((Code.cond x c d).wp C.P Q) := by
  intro a w H f s o
  have hb : a.eval x = .bool b := hx a H f
  cases b with
  | true => exact wp_cond hb (ht rfl a w H f s o)
  | false => exact wp_cond hb (he rfl a w H f s o)
/-- The end of a round: a new state of the loop. -/
def Round (C : Cx) {σ : Type} (Γ : σ → Env) (L : σ → List It) (I : σ → Prop) (μ : σ → Nat) (n : Nat) : Act → World → Prop := fun a w =>
  ∃ s H, I s ∧ μ s < n ∧ Fits C.N (Γ s) H a ∧ St C.M C.H0 C.w0 H w ∧ Owns C.ok w H (L s)
theorem tr_loop {σ : Type} (Γl : σ → Env) (Ll : σ → List It) (I : σ → Prop) (μ : σ → Nat) {c : Code} (s0 : σ) (h0 : I s0) (hstart : ∀ a w H, Fits C.N Γ H a → Owns C.ok w H L → Fits C.N (Γl s0) H a ∧ Owns C.ok w H (Ll s0))
    (hround : ∀ s, I s → Tr C (Γl s) (Ll s) (c.wp C.P (Exit.then (Round C Γl Ll I μ (μ s)) Q))) : Tr C Γ L ((Code.loop c).wp C.P Q) := by
  intro a w H f st o
  have key : ∀ n s a w H, μ s = n → I s → Fits C.N (Γl s) H a → St C.M C.H0 C.w0 H w → Owns C.ok w H (Ll s) → ∀ (b : Frame) (k : List Item) (cs : List Frame),
      ∃ e a' w', Q e a' w' ∧ Arrives C.P (lone (b.at a (.code c :: .inLoop c :: k)) cs w) b k cs e a' w' := by
    intro n
    induction n using Nat.strongRecOn with
    | _ n ih =>
      intro s a w H hn hI hf hs ho b k cs
      obtain ⟨e, a₁, w₁, hq, harr⟩ := hround s hI a w H hf hs ho b (.inLoop c :: k) cs
      cases e with
      | normal =>
        obtain ⟨s1, H1, hI1, hlt, hf1, hs1, ho1⟩ := hq
        obtain ⟨e₂, a₂, w₂, hq₂, harr₂⟩ := ih (μ s1) (hn ▸ hlt) s1 a₁ w₁ H1 rfl hI1 hf1 hs1 ho1 b k cs
        exact ⟨e₂, a₂, w₂, hq₂, .of_steps (Steps.trans harr (.one step_inLoop)) harr₂⟩
      | exit id => exact ⟨_, a₁, w₁, hq, .pass (x := .inLoop c) rfl (fun _ _ => .inl (by simp)) harr⟩
      | goto l => exact ⟨_, a₁, w₁, hq, .pass (x := .inLoop c) rfl (fun _ _ => .inl (by simp)) harr⟩
      | ret => exact ⟨_, a₁, w₁, hq, .pass (x := .inLoop c) rfl (fun _ _ => .inl (by simp)) harr⟩
      | panic ch => exact ⟨_, a₁, w₁, hq, .pass (x := .inLoop c) rfl (fun _ _ => .inl (by simp)) harr⟩
      | outgrown => exact ⟨_, a₁, w₁, hq, .pass (x := .inLoop c) rfl (fun _ _ => .inl (by simp)) harr⟩
  obtain ⟨hf, ho⟩ := hstart a w H f o
  intro b k cs
  obtain ⟨e, a', w', hq, harr⟩ := key _ s0 a w H rfl h0 hf st ho b k cs
  exact ⟨e, a', w', hq, .of_steps (.one step_loop) harr⟩
theorem tr_again {σ : Type} {Γl : σ → Env} {Ll : σ → List It} {I : σ → Prop} {μ : σ → Nat} {n : Nat} (s : σ) (hI : I s) (hμ : μ s < n) (hΓ : ∀ a H, Fits C.N Γ H a → Fits C.N (Γl s) H a) (hL : ∀ w H, Owns C.ok w H L → Owns C.ok w H (Ll s)) :
    Tr C Γ L (Round C Γl Ll I μ n) := fun a w H f st o => ⟨s, H, hI, hμ, hΓ a H f, st, hL w H o⟩

/-- A list of slots, each with its type in Γ: what a new environment asks. -/
theorem fits_nil {N : Nat} {H : FH} {a : Act} (f : Fits N Γ H a) : Fits N [] H a := ⟨f.defers, f.size, fun _ _ h => by cases h⟩
theorem fits_cons {N : Nat} {H : FH} {a : Act} {t : Nat} {T : Ty} {Δ : Env} (ht : T.p H (a.tmps.getD t undef)) (f : Fits N Δ H a) : Fits N ((t, T) :: Δ) H a := ⟨f.defers, f.size, fun u U h => by
  unfold find at h
  cases hb : Nat.beq t u with
  | true =>
    have : t = u := Nat.eq_of_beq_eq_true hb
    subst this
    rw [hb] at h; cases h; exact ht
  | false => rw [hb] at h; exact f.get u U h⟩
def EnvSub (N : Nat) (Γ Δ : Env) : Prop := ∀ a H, Fits N Γ H a → Fits N Δ H a
theorem es_nil {N : Nat} : EnvSub N Γ [] := fun _ _ f => fits_nil f
theorem es_cons {N : Nat} {t : Nat} {T : Ty} {Δ : Env} (h : OT N Γ (.tmp t) T) (hs : EnvSub N Γ Δ) : EnvSub N Γ ((t, T) :: Δ) := fun a H f => fits_cons (h a H f) (hs a H f)
theorem es_append {N : Nat} {Ε : Env} : ∀ {Δ : Env}, EnvSub N Γ Δ → EnvSub N Γ Ε → EnvSub N Γ (Δ ++ Ε)
  | [], _, hs => hs
  | (t, T) :: Δ, h, hs => by
    intro a H f
    refine ⟨f.defers, f.size, fun u U hu => ?_⟩
    have h1 := h a H f
    have h2 : ∀ Δ : Env, find (Δ ++ Ε) u = some U → find Δ u = some U ∨ find Ε u = some U := by
      intro Δ
      induction Δ with
      | nil => exact fun h => .inr h
      | cons p Δ ih =>
        obtain ⟨t, T⟩ := p
        intro h
        simp only [List.cons_append, find] at h ⊢
        cases hb : Nat.beq t u with
        | true => rw [hb] at h; exact .inl h
        | false => rw [hb] at h; exact ih h
    exact (h2 _ hu).elim (h1.get u U) ((hs a H f).get u U)
end
end Go.Gw
