/- The texts G1, G2, G3, G4, G5, G6, G7, G8, G9, G10, G11, G12, G13, G16, G17, G18, G19, G27, SoA, G52 of this claim, put together in their order. No condition of their own. -/
import Derived.WalkKit
import Derived.KernelRfl
import Derived.Orders
import Derived.Maps.AppendAt
import Derived.Laws.MakeOwn
import Derived.Laws.OwnMore
import Derived.Scope
import Derived.ProofKit
import Derived.OpenShut
import Derived.ShutString
import Derived.ChangeOld
import Derived.Below
import Derived.SizedLaws
import Derived.Lib.AppendZerosOnto
import Derived.Lib.SliceRun
import Derived.ChangeSame
import Derived.Lib.ConvBytes
import Derived.Laws.BytesString
import Derived.Laws.BytesArg
import Derived.Sort.AssemblyPlain
set_option linter.unusedVariables false
set_option linter.unusedSimpArgs false
set_option linter.unusedSectionVars false
set_option maxHeartbeats 1000000
set_option maxRecDepth 20000
namespace Go.Gw
open Go
abbrev FH := Nat → Option Obj
def Sub (H H' : FH) : Prop := ∀ k o, H k = some o → H' k = some o
theorem Sub.refl (H : FH) : Sub H H := fun _ _ h => h
theorem Sub.trans {H H' H'' : FH} (h : Sub H H') (h' : Sub H' H'') : Sub H H'' := fun k o e => h' k o (h k o e)
def On (H : FH) (w : World) : Prop := ∀ k o, H k = some o → w.heap[k]? = some o
theorem On.lt {H : FH} {w : World} (h : On H w) {k : Nat} {o : Obj} (e : H k = some o) : k < w.heap.size := (Array.getElem?_eq_some_iff.1 (h k o e)).1
structure St (M : Nat → Prop) (H0 : FH) (w0 : World) (H : FH) (w : World) : Prop where
 sub : Sub H0 H
 on : On H w
 os : w.os = w0.os
 tape : w.tape = w0.tape
 output : w.output = w0.output
 size : w0.heap.size ≤ w.heap.size
 keep : ∀ k, k < w0.heap.size → ¬ M k → w.heap[k]? = w0.heap[k]?
 new : ∀ k o, H k = some o → H0 k = some o ∨ w0.heap.size ≤ k ∨ M k
def noM : Nat → Prop := fun _ => False
theorem St.refl {M : Nat → Prop} {H : FH} {w : World} (h : On H w) : St M H w H w := ⟨Sub.refl _, h, rfl, rfl, rfl, Nat.le_refl _, fun _ _ _ => rfl, fun _ _ h => .inl h⟩
theorem St.trans {M M' : Nat → Prop} {H0 H H' : FH} {w0 w w' : World} (h : St M H0 w0 H w) (h' : St M' H w H' w') (hm : ∀ k, M' k → M k ∨ w0.heap.size ≤ k) : St M H0 w0 H' w' where
 sub := h.sub.trans h'.sub
 on := h'.on
 os := h'.os.trans h.os
 tape := h'.tape.trans h.tape
 output := h'.output.trans h.output
 size := Nat.le_trans h.size h'.size
 keep := fun k hk hM => (h'.keep k (Nat.lt_of_lt_of_le hk h.size) (fun e => (hm k e).elim hM (fun h => by omega))).trans (h.keep k hk hM)
 new := fun k o e => by
  rcases h'.new k o e with e | e | e
  · exact h.new k o e
  · exact .inr (.inl (Nat.le_trans h.size e))
  rcases hm k e with e | e
  · exact .inr (.inr e)
  exact .inr (.inl e)
theorem St.weaken {M M' : Nat → Prop} {H0 H : FH} {w0 w : World} (h : St M H0 w0 H w) (hm : ∀ k, M k → M' k) : St M' H0 w0 H w :=
 ⟨h.sub, h.on, h.os, h.tape, h.output, h.size, fun k hk hM => h.keep k hk (fun e => hM (hm k e)), fun k o e => (h.new k o e).imp id (Or.imp id (hm k))⟩
theorem St.none {M : Nat → Prop} {H0 H : FH} {w0 w : World} (h : St noM H0 w0 H w) : St M H0 w0 H w := h.weaken fun _ e => e.elim
theorem St.trans0 {M : Nat → Prop} {H0 H H' : FH} {w0 w w' : World} (h : St M H0 w0 H w) (h' : St noM H w H' w') : St M H0 w0 H' w' := h.trans h' fun _ e => e.elim
structure It where
 blk : Option Nat
 p : World → FH → Prop
 st : ∀ {w w' : World} {H H' : FH}, (∀ g, blk = some g → w'.heap[g]? = w.heap[g]?) → Sub H H' → p w H → p w' H'
def X8 (L : List It) : List Nat := L.filterMap It.blk
structure Xu (ok : Nat → Prop) (w : World) (H : FH) (L : List It) : Prop where
 all : ∀ i ∈ L, i.p w H
 nodup : (X8 L).Nodup
 own : ∀ g ∈ X8 L, g < w.heap.size ∧ H g = none ∧ ok g
theorem Xn {L : List It} {i : It} {g : Nat} (h : i ∈ L) (e : i.blk = some g) : g ∈ X8 L := List.mem_filterMap.2 ⟨i, h, e⟩
theorem Xu.nil {ok : Nat → Prop} {w : World} {H : FH} : Xu ok w H [] := ⟨fun _ h => (by cases h), List.nodup_nil, fun _ h => (by cases h)⟩
theorem Xu.st {ok : Nat → Prop} {M : Nat → Prop} {H H' : FH} {w w' : World} {L : List It} (h : Xu ok w H L) (s : St M H w H' w') (hM : ∀ g ∈ X8 L, ¬ M g) : Xu ok w' H' L where
 all := fun i hi => i.st (fun g e => s.keep g (h.own g (Xn hi e)).1 (hM g (Xn hi e))) s.sub (h.all i hi)
 nodup := h.nodup
 own := fun g hg => by
  obtain ⟨h1, h2, h3⟩ := h.own g hg
  refine ⟨Nat.lt_of_lt_of_le h1 s.size, ?_, h3⟩
  cases e : H' g with
  | none => rfl
  | some o =>
   rcases s.new g o e with e | e | e
   · rw [h2] at e; cases e
   · omega
   exact absurd e (hM g hg)
theorem Xu.st0 {ok : Nat → Prop} {H H' : FH} {w w' : World} {L : List It} (h : Xu ok w H L) (s : St noM H w H' w') : Xu ok w' H' L := h.st s fun _ _ e => e
theorem Xu.mono {ok ok' : Nat → Prop} {w : World} {H : FH} {L : List It} (h : Xu ok w H L) (ho : ∀ g ∈ X8 L, ok g → ok' g) : Xu ok' w H L := ⟨h.all, h.nodup, fun g hg => let ⟨a, b, c⟩ := h.own g hg; ⟨a, b, ho g hg c⟩⟩
theorem Xu.append {ok : Nat → Prop} {w : World} {H : FH} {L J : List It} (h : Xu ok w H L) (h' : Xu ok w H J) (hd : ∀ g ∈ X8 L, g ∉ X8 J) : Xu ok w H (L ++ J) where
 all := fun i hi => (List.mem_append.1 hi).elim (h.all i) (h'.all i)
 nodup := by
  unfold X8; rw [List.filterMap_append]
  exact List.nodup_append.2 ⟨h.nodup, h'.nodup, fun a ha b hb e => hd a ha (e ▸ hb)⟩
 own := fun g hg => by
  unfold X8 at hg; rw [List.filterMap_append] at hg
  exact (List.mem_append.1 hg).elim (h.own g) (h'.own g)
theorem Xu.perm {ok : Nat → Prop} {w : World} {H : FH} {L J : List It} (h : Xu ok w H L) (hp : List.Perm L J) : Xu ok w H J where
 all := fun i hi => h.all i (hp.mem_iff.2 hi)
 nodup := (hp.filterMap It.blk).nodup_iff.1 h.nodup
 own := fun g hg => h.own g ((hp.filterMap It.blk).mem_iff.2 hg)
theorem Xu.left {ok : Nat → Prop} {w : World} {H : FH} {L J : List It} (h : Xu ok w H (L ++ J)) : Xu ok w H L := by
 have hn := h.nodup
 have ho := h.own
 unfold X8 at hn ho; rw [List.filterMap_append] at hn ho
 exact ⟨fun i hi => h.all i (List.mem_append_left _ hi), (List.nodup_append.1 hn).1, fun g hg => ho g (List.mem_append_left _ hg)⟩
theorem Xu.right {ok : Nat → Prop} {w : World} {H : FH} {L J : List It} (h : Xu ok w H (L ++ J)) : Xu ok w H J := by
 have hn := h.nodup
 have ho := h.own
 unfold X8 at hn ho; rw [List.filterMap_append] at hn ho
 exact ⟨fun i hi => h.all i (List.mem_append_right _ hi), (List.nodup_append.1 hn).2.1, fun g hg => ho g (List.mem_append_right _ hg)⟩
theorem Xu.apart {ok : Nat → Prop} {w : World} {H : FH} {L J : List It} (h : Xu ok w H (L ++ J)) : ∀ g ∈ X8 L, g ∉ X8 J := by
 have hn := h.nodup
 unfold X8 at hn; rw [List.filterMap_append] at hn
 exact fun g hg hj => (List.nodup_append.1 hn).2.2 g hg g hj rfl
structure Ty where
 p : FH → Value → Prop
 mono : ∀ {H H' : FH} {v : Value}, Sub H H' → p H v → p H' v
abbrev Env := List (Nat × Ty)
def find : Env → Nat → Option Ty
 | [], _ => none
 | (d, T) :: Γ, t => bif Nat.beq d t then some T else find Γ t
def upd (d : Option Nat) (T : Ty) (Γ : Env) : Env := match d with
 | some d => (d, T) :: Γ
 | none => Γ
def Yx (ds : List Nat) : Env → Env
 | [] => []
 | (d, T) :: Γ => bif ds.any (Nat.beq d) then Yx ds Γ else (d, T) :: Yx ds Γ
def only (ds : List Nat) : Env → Env
 | [] => []
 | (d, T) :: Γ => bif ds.any (Nat.beq d) then (d, T) :: only ds Γ else only ds Γ
structure Fits (N : Nat) (Γ : Env) (H : FH) (a : Act) : Prop where
 defers : a.defers = []
 size : a.tmps.size = N
 get : ∀ t T, find Γ t = some T → T.p H (a.tmps.getD t undef)
theorem Fits.mono {N : Nat} {Γ : Env} {H H' : FH} {a : Act} (h : Fits N Γ H a) (hs : Sub H H') : Fits N Γ H' a := ⟨h.defers, h.size, fun t T e => T.mono hs (h.get t T e)⟩
theorem Qbo {a : Act} {d : Nat} {v : Value} {t : Nat} : (a.put (some d) v).tmps.getD t undef = if d = t ∧ d < a.tmps.size then v else a.tmps.getD t undef := by
 simp only [Act.put, Array.getD_eq_getD_getElem?, Array.getElem?_setIfInBounds]
 by_cases h : d = t
 · subst h
   by_cases h2 : d < a.tmps.size
   · simp [h2]
   simp [h2]
 simp [h]
theorem Fits.put {N : Nat} {Γ : Env} {H : FH} {a : Act} {T : Ty} {v : Value} (h : Fits N Γ H a) (d : Option Nat) (hd : (d.all fun d => decide (d < N)) = true) (hv : T.p H v) : Fits N (upd d T Γ) H (a.put d v) := by
 cases d with
 | none => exact h
 | some d =>
  have hdN : d < N := by simpa using hd
  refine ⟨h.defers, by simp [Act.put, h.size], fun t U e => ?_⟩
  rw [Qbo]
  simp only [upd, find] at e
  cases hb : Nat.beq d t with
  | true =>
   have : d = t := Nat.eq_of_beq_eq_true hb
   subst this
   rw [hb] at e
   cases e
   rw [if_pos ⟨rfl, by rw [h.size]; exact hdN⟩]
   exact hv
  | false =>
   rw [hb] at e
   rw [if_neg (fun x => by rw [x.1, Nat.beq_refl] at hb; cases hb)]
   exact h.get t U e
structure Cx where
 P : Program
 N : Nat
 M : Nat → Prop
 H0 : FH
 w0 : World
def Cx.ok (C : Cx) : Nat → Prop := fun g => C.M g ∨ C.w0.heap.size ≤ g
def Tr (C : Cx) (Γ : Env) (L : List It) (φ : Act → World → Prop) : Prop := ∀ a w H, Fits C.N Γ H a → St C.M C.H0 C.w0 H w → Xu C.ok w H L → φ a w
section
variable {C : Cx} {Γ : Env} {L : List It} {Q : Exit → Act → World → Prop}
theorem Tr.imp {φ ψ : Act → World → Prop} (h : Tr C Γ L φ) (hi : ∀ a w, φ a w → ψ a w) : Tr C Γ L ψ := fun a w H f s o => hi a w (h a w H f s o)
theorem Zi {x y : Code} (h : Tr C Γ L (x.wp C.P (Exit.then (y.wp C.P Q) Q))) : Tr C Γ L ((Code.seq x y).wp C.P Q) := h.imp fun _ _ => wp_seq
theorem W3 (h : Tr C Γ L (Q .normal)) : Tr C Γ L (Code.skip.wp C.P Q) := h.imp fun _ _ => wp_skip
theorem Quh {l : Nat} (h : Tr C Γ L (Q .normal)) : Tr C Γ L ((Code.label l).wp C.P Q) := h.imp fun _ _ => wp_label
theorem Qx {i : Nat} (h : Tr C Γ L (Q (.exit i))) : Tr C Γ L ((Code.exit i).wp C.P Q) := h.imp fun _ _ => wp_exit
theorem V6 (h : Tr C Γ L (Q .ret)) : Tr C Γ L (Code.ret.wp C.P Q) := h.imp fun _ _ => wp_ret
theorem Qdu {i : Nat} {c : Code} (h : Tr C Γ L (c.wp C.P (Exit.inBlock i Q))) : Tr C Γ L ((Code.block i c).wp C.P Q) := h.imp fun _ _ => wp_block
theorem Q6 {K : Act → World → Prop} (h : Tr C Γ L K) : Tr C Γ L (Exit.then K Q .normal) := h
theorem Qcd {K : Act → World → Prop} {i : Nat} (h : Tr C Γ L (Q (.exit i))) : Tr C Γ L (Exit.then K Q (.exit i)) := h
theorem J4 {K : Act → World → Prop} (h : Tr C Γ L (Q .ret)) : Tr C Γ L (Exit.then K Q .ret) := h
theorem Qap {i : Nat} (h : Tr C Γ L (Q .normal)) : Tr C Γ L (Exit.inBlock i Q .normal) := h
theorem Qw {i : Nat} (h : Tr C Γ L (Q .ret)) : Tr C Γ L (Exit.inBlock i Q .ret) := h
theorem Qfc {i : Nat} (h : Tr C Γ L (Q .normal)) : Tr C Γ L (Exit.inBlock i Q (.exit i)) := h.imp fun a w q => by simp [Exit.inBlock, q]
theorem Qdb {i j : Nat} (hij : Nat.beq j i = false) (h : Tr C Γ L (Q (.exit j))) : Tr C Γ L (Exit.inBlock i Q (.exit j)) := h.imp fun a w q => by
 have : j ≠ i := fun e => by rw [e, Nat.beq_refl] at hij; cases hij
 simp [Exit.inBlock, this, q]
theorem Q4 {L' : List It} {φ : Act → World → Prop} (hp : List.Perm L L') (h : Tr C Γ L' φ) : Tr C Γ L φ := fun a w H f s o => h a w H f s (o.perm hp)
def OT (N : Nat) (Γ : Env) (x : Operand) (T : Ty) : Prop := ∀ a H, Fits N Γ H a → T.p H (a.eval x)
theorem OT.tmp {N : Nat} {t : Nat} {T : Ty} (h : find Γ t = some T) : OT N Γ (.tmp t) T := fun _ _ f => f.get t T h
theorem OT.conv {N : Nat} {x : Operand} {T T' : Ty} (h : OT N Γ x T) (hc : ∀ H v, T.p H v → T'.p H v) : OT N Γ x T' := fun a H f => hc H _ (h a H f)
def IsV (u : Value) : Ty := ⟨fun _ v => v = u, fun _ h => h⟩
abbrev Zy (k : IntKind) (n : Int) : Ty := IsV (.int k n)
abbrev I64 (n : Int) : Ty := IsV (.int .i64 n)
abbrev Xe (b : Bool) : Ty := IsV (.bool b)
abbrev Qrl (s : ByteArray) : Ty := IsV (.string s)
def Yu : Ty := ⟨fun _ _ => True, fun _ h => h⟩
theorem OT.const {N : Nat} {v : Value} : OT N Γ (.const v) (IsV v) := fun _ _ _ => rfl
theorem OT.func {N : Nat} {f : FuncId} : OT N Γ (.func f) (IsV (.func (.func f) #[] #[])) := fun _ _ _ => rfl
end
section
variable {C : Cx} {Γ : Env} {L : List It} {Q : Exit → Act → World → Prop} {ops : Array Oper} {o : Oper} {rest : List Oper}
theorem Xv {id : Nat} {l : List Oper} (h : Tr C Γ L (wpList C.P l.toArray Q l)) : Tr C Γ L ((Code.region id l.toArray false).wp C.P Q) := h.imp fun _ _ => wp_region_lit
theorem Yc (h : Tr C Γ L (Q .normal)) : Tr C Γ L (wpList C.P ops Q []) := h
def Pure (C : Cx) (Γ : Env) (L : List It) (o : Oper) (T : Ty) : Prop :=
 ∀ a w H, Fits C.N Γ H a → St C.M C.H0 C.w0 H w → Xu C.ok w H L → ∃ v, (execOp a.eval o).run C.P w = .ok (.value v) w ∧ T.p H v
def Wb (N : Nat) (d : Option Nat) : Bool := d.all fun d => decide (d < N)
theorem Xb {T : Ty} (hp : Pure C Γ L o T) (hg : o.guard = none) (hd : Wb C.N o.dst = true) (h : Tr C (upd o.dst T Γ) L (wpList C.P ops Q rest)) : Tr C Γ L (wpList C.P ops Q (o :: rest)) := by
 intro a w H f s ow
 obtain ⟨v, hr, hv⟩ := hp a w H f s ow
 refine wpList_plain hg fun K hK => ?_
 simp only [Oper.wp, hr, Oper.upon_value]
 exact hK _ _ (h _ w H (f.put o.dst hd hv) s ow)
def Yp (C : Cx) (Γ : Env) (L : List It) (o : Oper) (J : List It) (ρ : Type) (T : ρ → Ty) (I : ρ → List It) (φ : ρ → Prop) : Prop :=
 ∀ a w H, Fits C.N Γ H a → St C.M C.H0 C.w0 H w → Xu C.ok w H L → ∀ (Q : Exit → Act → World → Prop) (K : Act → World → Prop),
  (∀ (r : ρ) (v : Value) (w' : World) (H' : FH), φ r → St (fun g => g ∈ X8 J) H w H' w' → (T r).p H' v → Xu (fun g => g ∈ X8 J ∨ w.heap.size ≤ g) w' H' (I r) → K (a.put o.dst v) w') → o.wp C.P a w K Q
theorem Ku {J R : List It} {ρ : Type} {T : ρ → Ty} {I : ρ → List It} {φ : ρ → Prop} (hp : Yp C Γ L o J ρ T I φ) (hL : List.Perm L (J ++ R)) (hg : o.guard = none) (hd : Wb C.N o.dst = true)
 (h : ∀ r, φ r → Tr C (upd o.dst (T r) Γ) (I r ++ R) (wpList C.P ops Q rest)) : Tr C Γ L (wpList C.P ops Q (o :: rest)) := by
 intro a w H f s ow
 refine wpList_plain hg fun K hK => ?_
 refine hp a w H f s ow Q K fun r v w' H' hφ s' hv ho => hK _ _ ?_
 have ow' := ow.perm hL
 have hM : ∀ k, k ∈ X8 J → C.M k ∨ C.w0.heap.size ≤ k := fun k hk => (ow'.left.own k hk).2.2
 have s2 : St C.M C.H0 C.w0 H' w' := s.trans s' hM
 refine h r hφ _ w' H' ((f.mono s'.sub).put o.dst hd hv) s2 ?_
 refine Xu.append (ho.mono fun g _ hg => ?_) (ow'.right.st s' fun g hg hj => ow'.apart g hj hg) fun g hg hr => ?_
 · rcases hg with hg | hg
   · exact hM g hg
   exact .inr (Nat.le_trans s.size hg)
 rcases (ho.own g hg).2.2 with h1 | h1
 · exact ow'.apart g h1 hr
 have := (ow'.right.own g hr).1; omega
end
def Kc (H : FH) : List Ty → List Value → Prop
 | [], [] => True
 | T :: As, v :: vs => T.p H v ∧ Kc H As vs
 | _, _ => False
def post (J : List It) (H : FH) (w : World) (ρ : Type) (T : ρ → Ty) (I : ρ → List It) (φ : ρ → Prop) : Ending → World → Prop := fun e w' =>
 ∃ (r : ρ) (v : Value) (H' : FH), e = .returned v ∧ φ r ∧ St (fun g => g ∈ X8 J) H w H' w' ∧ (T r).p H' v ∧ Xu (fun g => g ∈ X8 J ∨ w.heap.size ≤ g) w' H' (I r)
def Ct (P : Program) (f : FuncId) (As : List Ty) (J : List It) (ρ : Type) (T : ρ → Ty) (I : ρ → List It) (φ : ρ → Prop) : Prop :=
 ∀ (H : FH) (w : World) (args : List Value), On H w → Kc H As args → Xu (fun _ => True) w H J → Calls P f args.toArray w (post J H w ρ T I φ)
def Qfd : Nat → List Ty → Env
 | _, [] => []
 | i, T :: As => (i, T) :: Qfd (i + 1) As
theorem Qce {H : FH} : ∀ {As : List Ty} {vs : List Value} {i t : Nat} {T : Ty}, Kc H As vs → find (Qfd i As) t = some T → i ≤ t ∧ T.p H (vs.getD (t - i) undef) ∧ t - i < vs.length
 | [], [], _, _, _, _, h => by cases h
 | A :: As, v :: vs, i, t, T, hp, h => by
  unfold Qfd find at h
  cases hb : Nat.beq i t with
  | true =>
   have : i = t := Nat.eq_of_beq_eq_true hb
   subst this
   rw [hb] at h
   cases h
   exact ⟨Nat.le_refl _, by simpa using hp.1, by simp⟩
  | false =>
   rw [hb] at h
   obtain ⟨h1, h2, h3⟩ := Qce hp.2 h
   have h4 : t - i = (t - (i + 1)) + 1 := by omega
   rw [h4]
   exact ⟨by omega, by simpa using h2, by simpa using h3⟩
theorem Qdv {H : FH} : ∀ {As : List Ty} {vs : List Value}, Kc H As vs → As.length = vs.length
 | [], [], _ => rfl
 | _ :: As, _ :: vs, h => by simp [Qdv h.2]
theorem Qn {P : Program} {f : FuncId} {fn : Func} {c : Code} {As : List Ty} {J : List It} {ρ : Type} {T : ρ → Ty} {I : ρ → List It} {φ : ρ → Prop} (hf : P.funcs[f]? = some fn) (hb : fn.body = some c) (hN : decide (As.length ≤ fn.ntmps) = true)
 (h : ∀ (H : FH) (w : World), Tr ⟨P, fn.ntmps, fun g => g ∈ X8 J, H, w⟩ (Qfd 0 As) J (c.wp P (bodyPost P fn (post J H w ρ T I φ)))) : Ct P f As J ρ T I φ := by
 intro H w args hon hA hO
 have hlen := Qdv hA
 have hN' : As.length ≤ fn.ntmps := of_decide_eq_true hN
 refine calls_of_wp hf hb (h H w _ w H ⟨rfl, by simp; omega, fun t T' e => ?_⟩ (St.refl hon) (hO.mono fun g hg _ => .inl hg))
 obtain ⟨_, h2, h3⟩ := Qce hA e
 have h4 : (args.toArray ++ Array.replicate (fn.ntmps - args.toArray.size) undef).getD t undef = args.getD (t - 0) undef := by
  simp only [Nat.sub_zero] at h3 ⊢
  simp [Array.getD_eq_getD_getElem?, List.getD_eq_getElem?_getD, Array.getElem?_append, h3]
 rw [h4]; exact h2
def enters (P : Program) (f : FuncId) : Bool := match P.funcs[f]? with
 | some fn => !(fn.name == "runtime.NumGoroutine") && fn.body.isSome
 | none => false
theorem Wp {P : Program} {f : FuncId} (h : enters P f = true) (args : Array Value) (w : World) : (callFunc f args).run P w = .ok (.enter f args) w := by
 unfold enters at h
 cases hf : P.funcs[f]? with
 | none => rw [hf] at h; cases h
 | some fn =>
  rw [hf] at h
  simp only [Bool.and_eq_true, Bool.not_eq_true'] at h
  have hb : fn.body.isNone = false := by rw [Option.isNone_eq_false_iff]; exact h.2
  have hn : (fn.name == "runtime.NumGoroutine") = false := h.1
  simp only [callFunc, Sem.run_bind, run_program, Result.andThen_ok, hf, hn, hb, Bool.false_eq_true, if_false, Sem.run_pure]
def OTs (N : Nat) (Γ : Env) : List Operand → List Ty → Prop
 | [], [] => True
 | x :: xs, T :: As => OT N Γ x T ∧ OTs N Γ xs As
 | _, _ => False
theorem OTs.all {N : Nat} {Γ : Env} {a : Act} {H : FH} (f : Fits N Γ H a) : ∀ {xs : List Operand} {As : List Ty}, OTs N Γ xs As → Kc H As (xs.map a.eval)
 | [], [], _ => trivial
 | _ :: _, _ :: _, h => ⟨h.1 a H f, OTs.all f h.2⟩
theorem OTs.nil {N : Nat} {Γ : Env} : OTs N Γ [] [] := trivial
theorem OTs.cons {N : Nat} {Γ : Env} {x : Operand} {xs : List Operand} {T : Ty} {As : List Ty} (h : OT N Γ x T) (hs : OTs N Γ xs As) : OTs N Γ (x :: xs) (T :: As) := ⟨h, hs⟩
theorem Vx {C : Cx} {Γ : Env} {L R J : List It} {f : FuncId} {As : List Ty} {ρ : Type} {T : ρ → Ty} {I : ρ → List It} {φ : ρ → Prop} {dst : Option Tmp} {xs : List Operand} {ats : Array TypeId} {ty : TypeId} {pos : String} {after : Array Edge} {guard : Option (Nat × Bool)}
 (hF : Ct C.P f As J ρ T I φ) (hin : enters C.P f = true) (hxs : OTs C.N Γ xs As) (hL : List.Perm L (J ++ R)) :
 Yp C Γ L { dst, op := .call { callee := .value (.func f), args := xs.toArray, argTypes := ats }, type := ty, pos, after, guard } J ρ T I φ := by
 intro a w H fi s ow Q K hK
 have he : execOp a.eval { dst, op := .call { callee := .value (.func f), args := xs.toArray, argTypes := ats }, type := ty, pos, after, guard } = callFunc f (xs.map a.eval).toArray := by
  rw [execOp_call_go]; simp
 simp only [Oper.wp, he, Wp hin, Oper.upon_enter]
 refine Calls.mono (hF H w _ s.on (OTs.all fi hxs) ((ow.perm hL).left.mono fun _ _ _ => trivial)) ?_
 rintro e w' ⟨r, v, H', rfl, hφ, s', hv, ho⟩
 exact hK r v w' H' hφ s' hv ho
section
variable {C : Cx} {Γ : Env} {L J : List It} {fn : Func} {ρ : Type} {T : ρ → Ty} {I : ρ → List It} {φ : ρ → Prop} {P : Program} {N : Nat} {H0 : FH} {w0 : World}
theorem V7 (e : Exit) (he : e = .ret ∨ e = .normal) (r : ρ) (hφ : φ r) (hI : ∃ R, List.Perm L (I r ++ R))
 (hr : ∀ a w H, Fits N Γ H a → St (fun g => g ∈ X8 J) H0 w0 H w → Xu (fun g => g ∈ X8 J ∨ w0.heap.size ≤ g) w H L → ∃ v, (results fn a.tmps).run P w = .ok v w ∧ (T r).p H v) :
 Tr ⟨P, N, fun g => g ∈ X8 J, H0, w0⟩ Γ L (bodyPost P fn (post J H0 w0 ρ T I φ) e) := by
 intro a w H f s ow
 obtain ⟨v, h1, h2⟩ := hr a w H f s ow
 obtain ⟨R, hp⟩ := hI
 have hend : a.defers = [] ∧ ∃ v, (results fn a.tmps).run P w = .ok v w ∧ post J H0 w0 ρ T I φ (.returned v) w :=
  ⟨f.defers, v, h1, r, v, H, rfl, hφ, s, h2, (ow.perm hp).left⟩
 rcases he with rfl | rfl <;> exact hend
theorem U7 (e : Exit) (he : e = .ret ∨ e = .normal) (hres : fn.results = #[]) (r : ρ) (hT : ∀ H, (T r).p H (.tuple #[])) (hφ : φ r) (hI : ∃ R, List.Perm L (I r ++ R)) :
 Tr ⟨P, N, fun g => g ∈ X8 J, H0, w0⟩ Γ L (bodyPost P fn (post J H0 w0 ρ T I φ) e) :=
 V7 e he r hφ hI fun a w H _ _ _ => ⟨_, results_none hres _ _ _, hT H⟩
theorem Qi (e : Exit) (he : e = .ret ∨ e = .normal) {t : Nat} (hres : fn.results = #[.tmp t]) (r : ρ) (hT : OT N Γ (.tmp t) (T r)) (hφ : φ r) (hI : ∃ R, List.Perm L (I r ++ R)) :
 Tr ⟨P, N, fun g => g ∈ X8 J, H0, w0⟩ Γ L (bodyPost P fn (post J H0 w0 ρ T I φ) e) :=
 V7 e he r hφ hI fun a w H f _ _ => ⟨_, results_tmp hres _ _ _, hT a H f⟩
def Y1 (Ts : List Ty) : Ty := ⟨fun H v => ∃ vs, v = .tuple vs.toArray ∧ Kc H Ts vs, fun {H H' v} hs => by
 rintro ⟨vs, rfl, h⟩
 refine ⟨vs, rfl, ?_⟩
 induction Ts generalizing vs with
 | nil => cases vs with
  | nil => trivial
  | cons => exact h.elim
 | cons T Ts ih => cases vs with
  | nil => exact h.elim
  | cons v vs => exact ⟨T.mono hs h.1, ih vs h.2⟩⟩
theorem Yb (e : Exit) (he : e = .ret ∨ e = .normal) {t u : Nat} (hres : fn.results = #[.tmp t, .tmp u]) (r : ρ) {A B : Ty} (hA : OT N Γ (.tmp t) A) (hB : OT N Γ (.tmp u) B) (hT : ∀ H v, (Y1 [A, B]).p H v → (T r).p H v) (hφ : φ r) (hI : ∃ R, List.Perm L (I r ++ R)) :
 Tr ⟨P, N, fun g => g ∈ X8 J, H0, w0⟩ Γ L (bodyPost P fn (post J H0 w0 ρ T I φ) e) :=
 V7 e he r hφ hI fun a w H f _ _ => ⟨_, results_tmp2 hres _ _ _, hT _ _ ⟨[_, _], rfl, hA a H f, hB a H f, trivial⟩⟩
theorem Qfe (e : Exit) (he : e = .ret ∨ e = .normal) {t u s : Nat} (hres : fn.results = #[.tmp t, .tmp u, .tmp s]) (r : ρ) {A B D : Ty} (hA : OT N Γ (.tmp t) A) (hB : OT N Γ (.tmp u) B) (hD : OT N Γ (.tmp s) D) (hT : ∀ H v, (Y1 [A, B, D]).p H v → (T r).p H v) (hφ : φ r) (hI : ∃ R, List.Perm L (I r ++ R)) :
 Tr ⟨P, N, fun g => g ∈ X8 J, H0, w0⟩ Γ L (bodyPost P fn (post J H0 w0 ρ T I φ) e) :=
 V7 e he r hφ hI fun a w H f _ _ => ⟨_, results_tmp3 hres _ _ _, hT _ _ ⟨[_, _, _], rfl, hA a H f, hB a H f, hD a H f, trivial⟩⟩
end
section
variable {C : Cx} {Γ : Env} {L : List It} {Q : Exit → Act → World → Prop}
theorem W4 {x : Operand} {b : Bool} {c d : Code} (hx : OT C.N Γ x (Xe b)) (ht : b = true → Tr C Γ L (c.wp C.P Q)) (he : b = false → Tr C Γ L (d.wp C.P Q)) : Tr C Γ L ((Code.cond x c d).wp C.P Q) := by
 intro a w H f s o
 have hb : a.eval x = .bool b := hx a H f
 cases b with
 | true => exact wp_cond hb (ht rfl a w H f s o)
 | false => exact wp_cond hb (he rfl a w H f s o)
def Round (C : Cx) {σ : Type} (Γ : σ → Env) (L : σ → List It) (I : σ → Prop) (μ : σ → Nat) (n : Nat) : Act → World → Prop := fun a w =>
 ∃ s H, I s ∧ μ s < n ∧ Fits C.N (Γ s) H a ∧ St C.M C.H0 C.w0 H w ∧ Xu C.ok w H (L s)
theorem Qy2 {σ : Type} (Γl : σ → Env) (Ll : σ → List It) (I : σ → Prop) (μ : σ → Nat) {c : Code} (s0 : σ) (h0 : I s0) (hstart : ∀ a w H, Fits C.N Γ H a → Xu C.ok w H L → Fits C.N (Γl s0) H a ∧ Xu C.ok w H (Ll s0))
 (hround : ∀ s, I s → Tr C (Γl s) (Ll s) (c.wp C.P (Exit.then (Round C Γl Ll I μ (μ s)) Q))) : Tr C Γ L ((Code.loop c).wp C.P Q) := by
 intro a w H f st o
 have key : ∀ n s a w H, μ s = n → I s → Fits C.N (Γl s) H a → St C.M C.H0 C.w0 H w → Xu C.ok w H (Ll s) → ∀ (b : Frame) (k : List Item) (cs : List Frame),
  ∃ e a' w', Q e a' w' ∧ Arrives C.P (lone (b.at a (.code c :: .inLoop c :: k)) cs w) b k cs e a' w' := by
  intro n
  induction n using Nat.strongRecOn with
  | _ n ih =>
   intro s a w H hn hI hf hs ho b k cs
   obtain ⟨e, a₁, w₁, hq, harr⟩ := hround s hI a w H hf hs ho b (.inLoop c :: k) cs
   cases e with
   | normal =>
    obtain ⟨s1, H1, hI1, hlt, hf1, hs1, ho1⟩ := hq
    obtain ⟨e₂, a₂, w₂, hq₂, harr₂⟩ := ih (μ s1) (hn ▸ hlt) s1 a₁ w₁ H1 rfl hI1 hf1 hs1 ho1 b k cs
    exact ⟨e₂, a₂, w₂, hq₂, .of_steps (Steps.trans harr (.one step_inLoop)) harr₂⟩
   | exit id => exact ⟨_, a₁, w₁, hq, .pass (x := .inLoop c) rfl (fun _ _ => .inl (by simp)) harr⟩
   | goto l => exact ⟨_, a₁, w₁, hq, .pass (x := .inLoop c) rfl (fun _ _ => .inl (by simp)) harr⟩
   | ret => exact ⟨_, a₁, w₁, hq, .pass (x := .inLoop c) rfl (fun _ _ => .inl (by simp)) harr⟩
   | panic ch => exact ⟨_, a₁, w₁, hq, .pass (x := .inLoop c) rfl (fun _ _ => .inl (by simp)) harr⟩
   | outgrown => exact ⟨_, a₁, w₁, hq, .pass (x := .inLoop c) rfl (fun _ _ => .inl (by simp)) harr⟩
 obtain ⟨hf, ho⟩ := hstart a w H f o
 intro b k cs
 obtain ⟨e, a', w', hq, harr⟩ := key _ s0 a w H rfl h0 hf st ho b k cs
 exact ⟨e, a', w', hq, .of_steps (.one step_loop) harr⟩
theorem Qg4 {σ : Type} {Γl : σ → Env} {Ll : σ → List It} {I : σ → Prop} {μ : σ → Nat} {n : Nat} (s : σ) (hI : I s) (hμ : μ s < n) (hΓ : ∀ a H, Fits C.N Γ H a → Fits C.N (Γl s) H a) (hL : ∀ w H, Xu C.ok w H L → Xu C.ok w H (Ll s)) :
 Tr C Γ L (Round C Γl Ll I μ n) := fun a w H f st o => ⟨s, H, hI, hμ, hΓ a H f, st, hL w H o⟩
theorem Qui {N : Nat} {H : FH} {a : Act} (f : Fits N Γ H a) : Fits N [] H a := ⟨f.defers, f.size, fun _ _ h => by cases h⟩
theorem Yq {N : Nat} {H : FH} {a : Act} {t : Nat} {T : Ty} {Δ : Env} (ht : T.p H (a.tmps.getD t undef)) (f : Fits N Δ H a) : Fits N ((t, T) :: Δ) H a := ⟨f.defers, f.size, fun u U h => by
 unfold find at h
 cases hb : Nat.beq t u with
 | true =>
  have : t = u := Nat.eq_of_beq_eq_true hb
  subst this
  rw [hb] at h; cases h; exact ht
 | false => rw [hb] at h; exact f.get u U h⟩
def Yy (N : Nat) (Γ Δ : Env) : Prop := ∀ a H, Fits N Γ H a → Fits N Δ H a
theorem Zv {N : Nat} : Yy N Γ [] := fun _ _ f => Qui f
theorem Qy {N : Nat} {t : Nat} {T : Ty} {Δ : Env} (h : OT N Γ (.tmp t) T) (hs : Yy N Γ Δ) : Yy N Γ ((t, T) :: Δ) := fun a H f => Yq (h a H f) (hs a H f)
theorem Qcf {N : Nat} {Ε : Env} : ∀ {Δ : Env}, Yy N Γ Δ → Yy N Γ Ε → Yy N Γ (Δ ++ Ε)
 | [], _, hs => hs
 | (t, T) :: Δ, h, hs => by
  intro a H f
  refine ⟨f.defers, f.size, fun u U hu => ?_⟩
  have h1 := h a H f
  have h2 : ∀ Δ : Env, find (Δ ++ Ε) u = some U → find Δ u = some U ∨ find Ε u = some U := by
   intro Δ
   induction Δ with
   | nil => exact fun h => .inr h
   | cons p Δ ih =>
    obtain ⟨t, T⟩ := p
    intro h
    simp only [List.cons_append, find] at h ⊢
    cases hb : Nat.beq t u with
    | true => rw [hb] at h; exact .inl h
    | false => rw [hb] at h; exact ih h
  exact (h2 _ hu).elim (h1.get u U) ((hs a H f).get u U)
end
end Go.Gw
namespace Go.Gw
open Go
section
variable {C : Cx} {Γ : Env} {L : List It} {Q : Exit → Act → World → Prop} {ops : Array Oper} {rest : List Oper}
variable {dst : Option Tmp} {ty : TypeId} {pos : String} {after : Array Edge} {guard : Option (Nat × Bool)} {x y z : Operand}
theorem Pure.conv {o : Oper} {T T' : Ty} (h : Pure C Γ L o T) (hc : ∀ H v, T.p H v → T'.p H v) : Pure C Γ L o T' := fun a w H f s ow => let ⟨v, hr, hv⟩ := h a w H f s ow; ⟨v, hr, hc H v hv⟩
theorem Qm {T : Ty} (h : OT C.N Γ x T) : Pure C Γ L ⟨dst, .move x, ty, pos, after, guard⟩ T := fun a w H f s ow => ⟨_, rfl, h a H f⟩
theorem Xz {T : Ty} (h : OT C.N Γ x T) : Pure C Γ L ⟨dst, .assign x, ty, pos, after, guard⟩ T := fun a w H f s ow => ⟨_, rfl, h a H f⟩
def GuT (p : Prop) (T : Ty) : Ty := ⟨fun H v => (p → T.p H v) ∧ (¬ p → v = undef), fun hs h => ⟨fun hp => T.mono hs (h.1 hp), h.2⟩⟩
theorem OT.gu {N : Nat} {p : Prop} {T : Ty} (h : OT N Γ x (GuT p T)) (hp : p) : OT N Γ x T := fun a H f => (h a H f).1 hp
theorem OT.gu_mk {N : Nat} {T : Ty} (h : OT N Γ x T) : OT N Γ x (GuT True T) := fun a H f => ⟨fun _ => h a H f, fun hn => absurd trivial hn⟩
theorem Wq {N : Nat} {H : FH} {a : Act} {o : Oper} {j d : Nat} {want b : Bool} {p : Prop} (f : Fits N Γ H a) (hg : o.guard = some (j, want)) (hj : (ops[j]?).bind (·.dst) = some d) (hdN : decide (d < N) = true) (hb : OT N Γ (.tmp d) (GuT p (Xe b))) :
 (Region.wanted o (yielded ops a.tmps) = true ↔ (p ∧ b = want)) := by
 have h := hb a H f
 simp only [Act.eval] at h
 have hd : d < a.tmps.size := by rw [f.size]; exact of_decide_eq_true hdN
 have hget : a.tmps.getD d undef = a.tmps[d] := by simp [Array.getD_eq_getD_getElem?, hd]
 simp only [Region.wanted, hg, yielded, hj, Option.bind_some, Array.getElem?_eq_getElem hd]
 rw [hget] at h
 by_cases hp : p
 · have h1 : a.tmps[d] = .bool b := h.1 hp
   rw [h1]; simp [hp]
 have h1 : a.tmps[d] = undef := h.2 hp
 rw [h1]; simp [hp, undef]
theorem Q4m {o : Oper} {T : Ty} {j d : Nat} {want b : Bool} {p : Prop} (hg : o.guard = some (j, want)) (hj : (ops[j]?).bind (·.dst) = some d) (hdN : decide (d < C.N) = true) (hb : OT C.N Γ (.tmp d) (GuT p (Xe b)))
 (hp : p ∧ b = want → Pure C Γ L o T) (hd : Wb C.N o.dst = true) (h : Tr C (upd o.dst (GuT (p ∧ b = want) T) Γ) L (wpList C.P ops Q rest)) : Tr C Γ L (wpList C.P ops Q (o :: rest)) := by
 intro a w H f s ow
 have hw := Wq f hg hj hdN hb
 refine wpList_step fun K hK => ?_
 by_cases hc : p ∧ b = want
 · rw [if_pos (hw.2 hc)]
   obtain ⟨v, hr, hv⟩ := hp hc a w H f s ow
   simp only [Oper.wp, hr, Oper.upon_value]
   exact hK _ _ (h _ w H (f.put o.dst hd ⟨fun _ => hv, fun hn => absurd hc hn⟩) s ow)
 rw [if_neg (fun e => hc (hw.1 e))]
 exact hK _ _ (h _ w H (f.put o.dst hd ⟨fun e => absurd e hc, fun _ => rfl⟩) s ow)
theorem Zw {o : Oper} {ρ : Type} {T : ρ → Ty} {φ : ρ → Prop} {j d : Nat} {want b : Bool} {p : Prop} (r0 : ρ) (hg : o.guard = some (j, want)) (hj : (ops[j]?).bind (·.dst) = some d) (hdN : decide (d < C.N) = true) (hb : OT C.N Γ (.tmp d) (GuT p (Xe b)))
 (hp : p ∧ b = want → Yp C Γ L o [] ρ T (fun _ => []) φ) (hd : Wb C.N o.dst = true) (h : ∀ r, (p ∧ b = want → φ r) → Tr C (upd o.dst (GuT (p ∧ b = want) (T r)) Γ) L (wpList C.P ops Q rest)) : Tr C Γ L (wpList C.P ops Q (o :: rest)) := by
 intro a w H f s ow
 have hw := Wq f hg hj hdN hb
 refine wpList_step fun K hK => ?_
 by_cases hc : p ∧ b = want
 · rw [if_pos (hw.2 hc)]
   refine hp hc a w H f s ow Q K fun r v w' H' hφ s' hv ho => hK _ _ ?_
   have hn : ∀ g, ¬ g ∈ X8 ([] : List It) := fun g hg => by simp [X8] at hg
   exact h r (fun _ => hφ) _ w' H' ((f.mono s'.sub).put o.dst hd ⟨fun _ => hv, fun hn => absurd hc hn⟩) (s.trans s' fun k hk => absurd hk (hn k)) (ow.st s' fun g _ => hn g)
 rw [if_neg (fun e => hc (hw.1 e))]
 exact hK _ _ (h r0 (fun e => absurd e hc) _ w H (f.put o.dst hd ⟨fun e => absurd e hc, fun _ => rfl⟩) s ow)
theorem Qrm {o : Oper} {j d : Nat} {want : Bool} (hg : o.guard = some (j, want)) (hj : (ops[j]?).bind (·.dst) = some d) (hdN : decide (d < C.N) = true) (hb : OT C.N Γ (.tmp d) (Xe want)) (h : Tr C Γ L (wpList C.P ops Q ({ o with guard := none } :: rest))) : Tr C Γ L (wpList C.P ops Q (o :: rest)) := by
 intro a w H f s ow
 have hw := (Wq f hg hj hdN (OT.gu_mk hb)).2 ⟨trivial, rfl⟩
 have h1 := h a w H f s ow
 unfold wpList at h1 ⊢
 rw [if_pos hw]
 rw [if_pos (by simp [Region.wanted])] at h1
 exact h1
theorem Quj {o : Oper} {j d : Nat} {want b : Bool} (hg : o.guard = some (j, want)) (hj : (ops[j]?).bind (·.dst) = some d) (hdN : decide (d < C.N) = true) (hb : OT C.N Γ (.tmp d) (Xe b)) (hne : b = !want) (hd : Wb C.N o.dst = true) (h : Tr C (upd o.dst (IsV undef) Γ) L (wpList C.P ops Q rest)) : Tr C Γ L (wpList C.P ops Q (o :: rest)) := by
 intro a w H f s ow
 have hw : ¬ Region.wanted o (yielded ops a.tmps) = true := fun e => by
  have := ((Wq f hg hj hdN (OT.gu_mk hb)).1 e).2
  rw [hne] at this; cases want <;> simp at this
 refine wpList_step fun K hK => ?_
 rw [if_neg hw]
 exact hK _ _ (h _ w H (f.put o.dst hd rfl) s ow)
theorem Zx {a b : Bool} (hx : OT C.N Γ x (Xe a)) (hz : OT C.N Γ z (GuT (True ∧ a = false) (Xe b))) : Pure C Γ L ⟨dst, .pick x (.const (.bool true)) z, ty, pos, after, guard⟩ (Xe (a || b)) := fun ac w H f s ow => by
 have h1 : ac.eval x = .bool a := hx ac H f
 have h2 := hz ac H f
 cases a with
 | true => exact ⟨.bool true, by simp [execOp, h1, asBool, show ac.eval (.const (.bool true)) = .bool true from rfl], rfl⟩
 | false =>
  have h3 : ac.eval z = .bool b := h2.1 ⟨trivial, rfl⟩
  exact ⟨.bool b, by simp [execOp, h1, h3, asBool], by simp [Xe, IsV]⟩
theorem Q2 {a b : Bool} (hx : OT C.N Γ x (Xe a)) (hy : OT C.N Γ y (GuT (True ∧ a = true) (Xe b))) : Pure C Γ L ⟨dst, .pick x y (.const (.bool false)), ty, pos, after, guard⟩ (Xe (a && b)) := fun ac w H f s ow => by
 have h1 : ac.eval x = .bool a := hx ac H f
 have h2 := hy ac H f
 cases a with
 | false => exact ⟨.bool false, by simp [execOp, h1, asBool, show ac.eval (.const (.bool false)) = .bool false from rfl], rfl⟩
 | true =>
  have h3 : ac.eval y = .bool b := h2.1 ⟨trivial, rfl⟩
  exact ⟨.bool b, by simp [execOp, h1, h3, asBool], by simp [Xe, IsV]⟩
theorem i64_in {n : Int} (h : -9223372036854775808 ≤ n ∧ n ≤ 9223372036854775807) : IntKind.i64.wrap n = n := by
 simp only [IntKind.wrap, IntKind.bits, IntKind.signed]; simp; omega
theorem Je {P : Program} {w : World} {op : BinOp} {t t2 : TypeId} {k : IntKind} {m n : Int} {ρ : Operand → Value} (hx : ρ x = .int k m) (hy : ρ y = .int k n) :
 (execOp ρ ⟨dst, .binOp op t x y t2, ty, pos, after, guard⟩).run P w = ((binOp op t (.int k m) (.int k n)).run P w).andThen fun v w' => .ok (.value v) w' := by
 have hg : (eqGuard op t x y (.int k m) (.int k n)).run P w = .ok () w := by
  unfold eqGuard; cases op <;> simp
 simp [execOp, hx, hy, hg]
theorem Quk {t t2 : TypeId} {k : IntKind} {m n : Int} (hx : OT C.N Γ x (Zy k m)) (hy : OT C.N Γ y (Zy k n)) : Pure C Γ L ⟨dst, .binOp .add t x y t2, ty, pos, after, guard⟩ (Zy k (k.wrap (m + n))) := fun a w H f s ow => ⟨_, by rw [Je (hx a H f) (hy a H f)]; simp [binOp, Op.intArith], rfl⟩
theorem Q2v {t t2 : TypeId} {k : IntKind} {m n : Int} (hx : OT C.N Γ x (Zy k m)) (hy : OT C.N Γ y (Zy k n)) : Pure C Γ L ⟨dst, .binOp .sub t x y t2, ty, pos, after, guard⟩ (Zy k (k.wrap (m - n))) := fun a w H f s ow => ⟨_, by rw [Je (hx a H f) (hy a H f)]; simp [binOp, Op.intArith], rfl⟩
theorem Qp5 {t t2 : TypeId} {m n : Int} (hx : OT C.N Γ x (I64 m)) (hy : OT C.N Γ y (I64 n)) (h : -9223372036854775808 ≤ m + n ∧ m + n ≤ 9223372036854775807) : Pure C Γ L ⟨dst, .binOp .add t x y t2, ty, pos, after, guard⟩ (I64 (m + n)) := by
 have := Quk (C := C) (L := L) (dst := dst) (ty := ty) (pos := pos) (after := after) (guard := guard) (t := t) (t2 := t2) hx hy
 rwa [i64_in h] at this
theorem Kb {t t2 : TypeId} {m n : Int} (hx : OT C.N Γ x (I64 m)) (hy : OT C.N Γ y (I64 n)) (h : -9223372036854775808 ≤ m - n ∧ m - n ≤ 9223372036854775807) : Pure C Γ L ⟨dst, .binOp .sub t x y t2, ty, pos, after, guard⟩ (I64 (m - n)) := by
 have := Q2v (C := C) (L := L) (dst := dst) (ty := ty) (pos := pos) (after := after) (guard := guard) (t := t) (t2 := t2) hx hy
 rwa [i64_in h] at this
def Qg5 (op : BinOp) (k : IntKind) (m n : Int) : Int :=
 let a := BitVec.ofInt k.bits m
 let b := BitVec.ofInt k.bits n
 k.wrap (match op with | .and => (a &&& b).toNat | .or => (a ||| b).toNat | .xor => (a ^^^ b).toNat | _ => (a &&& ~~~b).toNat)
theorem Qkf {op : BinOp} {t t2 : TypeId} {k : IntKind} {m n : Int} (hx : OT C.N Γ x (Zy k m)) (hy : OT C.N Γ y (Zy k n)) (ho : op = .and ∨ op = .or ∨ op = .xor ∨ op = .andNot) : Pure C Γ L ⟨dst, .binOp op t x y t2, ty, pos, after, guard⟩ (Zy k (Qg5 op k m n)) := fun a w H f s ow => ⟨_, by rw [Je (hx a H f) (hy a H f)]; rcases ho with rfl | rfl | rfl | rfl <;> simp [binOp, Op.intBits, Qg5], rfl⟩
theorem Qc7 {P : Program} {w : World} {op : BinOp} {t t2 : TypeId} {k k2 : IntKind} {m n : Int} {ρ : Operand → Value} (ho : op = .shl ∨ op = .shr) (hx : ρ x = .int k m) (hy : ρ y = .int k2 n) (hn : 0 ≤ n) :
 (execOp ρ ⟨dst, .binOp op t x y t2, ty, pos, after, guard⟩).run P w = .ok (.value (.int k (if op = .shl then k.wrap (m * 2 ^ min n.toNat k.bits) else m.fdiv (2 ^ min n.toNat k.bits)))) w := by
 rcases ho with rfl | rfl <;> simp [execOp, hx, hy, eqGuard, binOp, Op.shift, Int.not_lt.2 hn]
theorem Q2w {t t2 : TypeId} {k k2 : IntKind} {m n : Int} (hx : OT C.N Γ x (Zy k m)) (hy : OT C.N Γ y (Zy k2 n)) (hn : 0 ≤ n) : Pure C Γ L ⟨dst, .binOp .shl t x y t2, ty, pos, after, guard⟩ (Zy k (k.wrap (m * 2 ^ min n.toNat k.bits))) := fun a w H f s ow => ⟨_, by rw [Qc7 (.inl rfl) (hx a H f) (hy a H f) hn]; rfl, rfl⟩
theorem Q2x {t t2 : TypeId} {k k2 : IntKind} {m n : Int} (hx : OT C.N Γ x (Zy k m)) (hy : OT C.N Γ y (Zy k2 n)) (hn : 0 ≤ n) : Pure C Γ L ⟨dst, .binOp .shr t x y t2, ty, pos, after, guard⟩ (Zy k (m.fdiv (2 ^ min n.toNat k.bits))) := fun a w H f s ow => ⟨_, by rw [Qc7 (.inr rfl) (hx a H f) (hy a H f) hn]; rfl, rfl⟩
theorem Q5 {t t2 : TypeId} {k : IntKind} {m n : Int} (hx : OT C.N Γ x (Zy k m)) (hy : OT C.N Γ y (Zy k n)) : Pure C Γ L ⟨dst, .binOp .lss t x y t2, ty, pos, after, guard⟩ (Xe (decide (m < n))) := fun a w H f s ow => ⟨_, by rw [Je (hx a H f) (hy a H f)]; simp [binOp, Op.intCmp], rfl⟩
theorem V8 {t t2 : TypeId} {k : IntKind} {m n : Int} (hx : OT C.N Γ x (Zy k m)) (hy : OT C.N Γ y (Zy k n)) : Pure C Γ L ⟨dst, .binOp .leq t x y t2, ty, pos, after, guard⟩ (Xe (decide (m ≤ n))) := fun a w H f s ow => ⟨_, by rw [Je (hx a H f) (hy a H f)]; simp [binOp, Op.intCmp], rfl⟩
theorem Y3 {t t2 : TypeId} {k : IntKind} {m n : Int} (hx : OT C.N Γ x (Zy k m)) (hy : OT C.N Γ y (Zy k n)) : Pure C Γ L ⟨dst, .binOp .gtr t x y t2, ty, pos, after, guard⟩ (Xe (decide (n < m))) := fun a w H f s ow => ⟨_, by rw [Je (hx a H f) (hy a H f)]; simp [binOp, Op.intCmp], rfl⟩
theorem Vi {t t2 : TypeId} {k : IntKind} {m n : Int} (hx : OT C.N Γ x (Zy k m)) (hy : OT C.N Γ y (Zy k n)) : Pure C Γ L ⟨dst, .binOp .geq t x y t2, ty, pos, after, guard⟩ (Xe (decide (n ≤ m))) := fun a w H f s ow => ⟨_, by rw [Je (hx a H f) (hy a H f)]; simp [binOp, Op.intCmp], rfl⟩
theorem Zs {t t2 : TypeId} {k : IntKind} {m n : Int} (hx : OT C.N Γ x (Zy k m)) (hy : OT C.N Γ y (Zy k n)) : Pure C Γ L ⟨dst, .binOp .eql t x y t2, ty, pos, after, guard⟩ (Xe (decide (m = n))) := fun a w H f s ow => ⟨.bool (m == n), by rw [Je (hx a H f) (hy a H f)]; simp [binOp, Op.intCmp], by by_cases h : m = n <;> simp [Xe, IsV, h]⟩
theorem Yj {t t2 : TypeId} {k : IntKind} {m n : Int} (hx : OT C.N Γ x (Zy k m)) (hy : OT C.N Γ y (Zy k n)) : Pure C Γ L ⟨dst, .binOp .neq t x y t2, ty, pos, after, guard⟩ (Xe (decide (m ≠ n))) := fun a w H f s ow => ⟨.bool (m != n), by rw [Je (hx a H f) (hy a H f)]; simp [binOp, Op.intCmp], by by_cases h : m = n <;> simp [Xe, IsV, h]⟩
theorem Zf {t : TypeId} {b : Bool} (hx : OT C.N Γ x (Xe b)) : Pure C Γ L ⟨dst, .unOp .not t x, ty, pos, after, guard⟩ (Xe (!b)) := fun a w H f s ow => by
 have h1 : a.eval x = .bool b := hx a H f
 exact ⟨_, by simp [execOp, h1, Op.unary], rfl⟩
theorem Qoe {t t2 : TypeId} {u v : ByteArray} (hx : OT C.N Γ x (Qrl u)) (hy : OT C.N Γ y (Qrl v)) : Pure C Γ L ⟨dst, .binOp .eql t x y t2, ty, pos, after, guard⟩ (Xe (u.toList == v.toList)) := fun a w H f s ow => by
 have h1 : a.eval x = .string u := hx a H f
 have h2 : a.eval y = .string v := hy a H f
 exact ⟨_, by simp [execOp, h1, h2, eqGuard, binOp, Op.stringOp], rfl⟩
theorem Qof {t t2 : TypeId} {u v : ByteArray} (hx : OT C.N Γ x (Qrl u)) (hy : OT C.N Γ y (Qrl v)) : Pure C Γ L ⟨dst, .binOp .neq t x y t2, ty, pos, after, guard⟩ (Xe (!(u.toList == v.toList))) := fun a w H f s ow => by
 have h1 : a.eval x = .string u := hx a H f
 have h2 : a.eval y = .string v := hy a H f
 exact ⟨_, by simp [execOp, h1, h2, eqGuard, binOp, Op.stringOp], rfl⟩
theorem Qog {t : TypeId} {u : ByteArray} (ht : C.P.underlying t = some .string) (hx : OT C.N Γ x (Qrl u)) : Pure C Γ L ⟨dst, .call ⟨.builtin .len, #[x], #[t]⟩, ty, pos, after, guard⟩ (I64 u.size) := fun a w H f s ow => by
 have h1 : a.eval x = .string u := hx a H f
 exact ⟨_, by simp [execOp, resolve, invoke, builtin, Builtin.len_, h1, run_underlying ht, goInt], rfl⟩
theorem Qd {Ts : List Ty} {i : Nat} {T : Ty} (hx : OT C.N Γ x (Y1 Ts)) (hi : Ts[i]? = some T) : Pure C Γ L ⟨dst, .extract x i, ty, pos, after, guard⟩ T := fun a w H f s ow => by
 obtain ⟨vs, h1, h2⟩ := hx a H f
 have key : ∀ (Ts : List Ty) (vs : List Value) (i : Nat), Kc H Ts vs → Ts[i]? = some T → ∃ v, vs[i]? = some v ∧ T.p H v := by
  intro Ts
  induction Ts with
  | nil => intro vs i _ hi; simp at hi
  | cons U Ts ih =>
   intro vs i hA hi
   cases vs with
   | nil => exact hA.elim
   | cons v vs =>
    cases i with
    | zero => simp at hi; subst hi; exact ⟨v, rfl, hA.1⟩
    | succ i => simpa using ih vs i hA.2 (by simpa using hi)
 obtain ⟨v, h3, h4⟩ := key Ts vs i h2 hi
 exact ⟨v, by simp [execOp, h1, Instr.extract, h3], h4⟩
end
end Go.Gw
namespace Go.Gw
open Go
def mkV (agg : Bool) (cs : List Value) : Value := if agg then .agg cs.toArray else cs.headD undef
structure Kd (α : Type) where
 sz : Nat
 agg : Bool
 K : FH → α → List Value → Prop
 T : α → Ty
 len : ∀ {H x cs}, K H x cs → cs.length = sz
 one : ∀ {H x cs}, K H x cs → ∀ u ∈ cs, u.oneCell' = true
 mono : ∀ {H H' : FH} {x cs}, Sub H H' → K H x cs → K H' x cs
 toT : ∀ {H x cs}, K H x cs → (T x).p H (mkV agg cs)
 ofT : ∀ {H x v}, (T x).p H v → ∃ cs, K H x cs ∧ v = mkV agg cs
 szone : agg = false → sz = 1
def scalar {α : Type} (enc : α → Value) (h1 : ∀ x, (enc x).oneCell' = true) : Kd α where
 sz := 1
 agg := false
 K := fun _ x cs => cs = [enc x]
 T := fun x => IsV (enc x)
 len := fun h => by rw [h]; rfl
 one := fun h u hu => by rw [h] at hu; rw [List.mem_singleton.1 hu]; exact h1 _
 mono := fun _ h => h
 toT := fun h => by rw [h]; rfl
 ofT := fun {H x v} h => ⟨[enc x], rfl, h⟩
 szone := fun _ => rfl
def Jw (k : IntKind) : Kd Int := scalar (Value.int k) fun _ => rfl
def Xd : Kd Bool := scalar Value.bool fun _ => rfl
def Qlq : Kd (Option Addr) := scalar Value.pointer fun _ => rfl
def Ja {α : Type} (d : Kd α) (H : FH) (xs : List α) (cs : List Value) : Prop :=
 cs.length = xs.length * d.sz ∧ ∀ j x, xs[j]? = some x → d.K H x ((cs.drop (j * d.sz)).take d.sz)
section
variable {α : Type} {d : Kd α} {H H' : FH} {xs ys : List α} {cs ds : List Value}
theorem Ja.nil : Ja d H [] [] := ⟨by simp, fun j x h => by simp at h⟩
theorem Ja.mono (h : Ja d H xs cs) (hs : Sub H H') : Ja d H' xs cs := ⟨h.1, fun j x e => d.mono hs (h.2 j x e)⟩
theorem Ja.append (h : Ja d H xs cs) (h' : Ja d H ys ds) : Ja d H (xs ++ ys) (cs ++ ds) := by
 refine ⟨by rw [List.length_append, h.1, h'.1, List.length_append, Nat.add_mul], fun j x e => ?_⟩
 rcases Nat.lt_or_ge j xs.length with hj | hj
 · rw [List.getElem?_append_left hj] at e
   have h1 : j * d.sz + d.sz ≤ cs.length := by rw [h.1, ← Nat.succ_mul]; exact Nat.mul_le_mul_right _ hj
   rw [List.drop_append_of_le_length (by omega), List.take_append_of_le_length (by rw [List.length_drop]; omega)]
   exact h.2 j x e
 rw [List.getElem?_append_right hj] at e
 have h1 : j * d.sz = cs.length + (j - xs.length) * d.sz := by rw [h.1, ← Nat.add_mul]; congr 1; omega
 rw [h1, List.drop_length_add_append]
 exact h'.2 _ x e
theorem Ja.one {x : α} (h : d.K H x cs) : Ja d H [x] cs := ⟨by rw [d.len h]; simp, fun j y e => by
 have hj : j = 0 := by
  have := (List.getElem?_eq_some_iff.1 e).1
  simp at this; exact this
 subst hj
 have : x = y := by simpa using e
 subst this
 have := d.len h
 simp only [Nat.zero_mul, List.drop_zero]
 rw [List.take_of_length_le (by omega)]
 exact h⟩
theorem Ja.drop (h : Ja d H xs cs) (k : Nat) (hk : k ≤ xs.length) : Ja d H (xs.drop k) (cs.drop (k * d.sz)) := by
 refine ⟨by rw [List.length_drop, h.1, List.length_drop, Nat.sub_mul], fun j x e => ?_⟩
 rw [List.getElem?_drop] at e
 rw [List.drop_drop, ← Nat.add_mul]
 exact h.2 _ x e
theorem Ja.take (h : Ja d H xs cs) (k : Nat) (hk : k ≤ xs.length) : Ja d H (xs.take k) (cs.take (k * d.sz)) := by
 have hle : k * d.sz ≤ cs.length := by rw [h.1]; exact Nat.mul_le_mul_right _ hk
 refine ⟨by rw [List.length_take, List.length_take]; rw [Nat.min_eq_left hle, Nat.min_eq_left hk], fun j x e => ?_⟩
 rw [List.getElem?_take] at e
 by_cases hj : j < k
 · rw [if_pos hj] at e
   have h1 : j * d.sz + d.sz ≤ k * d.sz := by rw [← Nat.succ_mul]; exact Nat.mul_le_mul_right _ hj
   rw [List.drop_take, List.take_take, Nat.min_eq_left (by omega)]
   exact h.2 j x e
 rw [if_neg hj] at e; cases e
theorem Ja.set (h : Ja d H xs cs) (k : Nat) (hk : k < xs.length) {y : α} {es : List Value} (hy : d.K H y es) : Ja d H (xs.set k y) (cs.take (k * d.sz) ++ es ++ cs.drop (k * d.sz + d.sz)) := by
 have h1 := (h.take k (by omega)).append (Ja.one hy)
 have h2 := h1.append (h.drop (k + 1) hk)
 have e1 : xs.take k ++ [y] ++ xs.drop (k + 1) = xs.set k y := by rw [List.set_eq_take_append_cons_drop]; simp [hk]
 rw [e1, Nat.add_mul, Nat.one_mul] at h2
 exact h2
theorem Ja.cells {d : Kd α} (h : Ja d H xs cs) : ∀ u ∈ cs, u.oneCell' = true := by
 intro u hu
 obtain ⟨i, hi, rfl⟩ := List.mem_iff_getElem.1 hu
 rcases Nat.eq_zero_or_pos d.sz with h0 | h0
 · rw [h.1, h0] at hi; simp at hi
 have hlt : i / d.sz < xs.length := by rw [h.1] at hi; exact (Nat.div_lt_iff_lt_mul h0).2 hi
 have hk := h.2 (i / d.sz) _ (List.getElem?_eq_getElem hlt)
 have hm : i = i / d.sz * d.sz + i % d.sz := by rw [Nat.mul_comm]; exact (Nat.div_add_mod i d.sz).symm
 have hlt2 := Nat.mod_lt i h0
 have hg : ((cs.drop (i / d.sz * d.sz)).take d.sz)[i % d.sz]? = some cs[i] := by
  rw [List.getElem?_take, if_pos hlt2, List.getElem?_drop, ← hm, List.getElem?_eq_getElem hi]
 exact d.one hk _ (List.mem_of_getElem? hg)
end
def Qdw (cells : Array Value) (off : Nat) (cs : List Value) : Prop := ∀ i u, cs[i]? = some u → cells[off + i]? = some u
theorem Qdw.drop {cells : Array Value} {off : Nat} {cs : List Value} (h : Qdw cells off cs) (k n : Nat) : Qdw cells (off + k) ((cs.drop k).take n) := fun i u e => by
 rw [List.getElem?_take] at e
 by_cases hi : i < n
 · rw [if_pos hi, List.getElem?_drop] at e
   rw [Nat.add_assoc]; exact h _ _ e
 rw [if_neg hi] at e; cases e
def Row {α : Type} (d : Kd α) (H : FH) (A : Option Addr) (xs : List α) : Prop :=
 0 < xs.length → ∃ ad cells e fr cs, A = some ad ∧ ad.spot = none ∧ H ad.block = some (.cells cells e fr) ∧ Ja d H xs cs ∧ Qdw cells ad.off cs
theorem Row.mono {α : Type} {d : Kd α} {H H' : FH} {A : Option Addr} {xs : List α} (h : Row d H A xs) (hs : Sub H H') : Row d H' A xs := fun hn =>
 let ⟨ad, cells, e, fr, cs, h1, h2, h3, h4, h5⟩ := h hn; ⟨ad, cells, e, fr, cs, h1, h2, hs _ _ h3, h4.mono hs, h5⟩
def SlT {α : Type} (d : Kd α) (xs : List α) : Ty := ⟨fun H v => ∃ A c, v = .slice A xs.length c ∧ xs.length ≤ c ∧ xs.length ≤ maxLen ∧ Row d H A xs, fun hs ⟨A, c, h1, h2, h3, h4⟩ => ⟨A, c, h1, h2, h3, h4.mono hs⟩⟩
def ksl {α : Type} (d : Kd α) : Kd (List α) where
 sz := 1
 agg := false
 K := fun H xs cs => ∃ v, cs = [v] ∧ (SlT d xs).p H v
 T := fun xs => SlT d xs
 len := by rintro H x cs ⟨v, rfl, _⟩; rfl
 one := by rintro H x cs ⟨v, rfl, A, c, rfl, _⟩ u hu; rw [List.mem_singleton.1 hu]; rfl
 mono := by rintro H H' x cs hs ⟨v, rfl, h⟩; exact ⟨v, rfl, (SlT d x).mono hs h⟩
 toT := by rintro H x cs ⟨v, rfl, h⟩; exact h
 ofT := fun {H x v} h => ⟨[v], ⟨v, rfl, h⟩, rfl⟩
 szone := fun _ => rfl
def Q4n (K : FH → List Value → Prop) (mono : ∀ {H H' : FH} {cs : List Value}, Sub H H' → K H cs → K H' cs) : Ty := ⟨fun H v => ∃ cs, K H cs ∧ v = .agg cs.toArray, fun hs ⟨cs, h, e⟩ => ⟨cs, mono hs h, e⟩⟩
def Xo {α β : Type} (a : Kd α) (b : Kd β) : Kd (α × β) where
 sz := a.sz + b.sz
 agg := true
 K := fun H x cs => ∃ c1 c2, a.K H x.1 c1 ∧ b.K H x.2 c2 ∧ cs = c1 ++ c2
 T := fun x => Q4n (fun H cs => ∃ c1 c2, a.K H x.1 c1 ∧ b.K H x.2 c2 ∧ cs = c1 ++ c2) (fun hs ⟨c1, c2, h1, h2, e⟩ => ⟨c1, c2, a.mono hs h1, b.mono hs h2, e⟩)
 len := by rintro H x cs ⟨c1, c2, h1, h2, rfl⟩; rw [List.length_append, a.len h1, b.len h2]
 one := by rintro H x cs ⟨c1, c2, h1, h2, rfl⟩ u hu; exact (List.mem_append.1 hu).elim (a.one h1 u) (b.one h2 u)
 mono := by rintro H H' x cs hs ⟨c1, c2, h1, h2, e⟩; exact ⟨c1, c2, a.mono hs h1, b.mono hs h2, e⟩
 toT := fun {H x cs} h => ⟨cs, h, rfl⟩
 ofT := fun {H x v} ⟨cs, h, e⟩ => ⟨cs, h, e⟩
 szone := fun h => by cases h
def Q4o {α β : Type} (a : Kd α) (f : β → α) : Kd β where
 sz := a.sz
 agg := a.agg
 K := fun H x cs => a.K H (f x) cs
 T := fun x => a.T (f x)
 len := a.len
 one := a.one
 mono := a.mono
 toT := a.toT
 ofT := a.ofT
 szone := a.szone
def Qdx {α : Type} (n : Nat) (d : Kd α) : Kd (List α) where
 sz := n * d.sz
 agg := true
 K := fun H xs cs => xs.length = n ∧ Ja d H xs cs
 T := fun xs => Q4n (fun H cs => xs.length = n ∧ Ja d H xs cs) (fun hs ⟨h1, h2⟩ => ⟨h1, h2.mono hs⟩)
 len := by rintro H x cs ⟨rfl, h⟩; exact h.1
 one := by rintro H x cs ⟨rfl, h⟩; exact h.cells
 mono := by rintro H H' x cs hs ⟨h1, h2⟩; exact ⟨h1, h2.mono hs⟩
 toT := fun {H x cs} h => ⟨cs, h, rfl⟩
 ofT := fun {H x v} ⟨cs, h, e⟩ => ⟨cs, h, e⟩
 szone := fun h => by cases h
structure Qf {α β : Type} (d : Kd α) (e : Kd β) (off : Nat) (x : α) (g : β) (set : β → α) : Prop where
 get : ∀ {H cs}, d.K H x cs → e.K H g ((cs.drop off).take e.sz)
 put : ∀ {H cs y es}, d.K H x cs → e.K H y es → d.K H (set y) (cs.take off ++ es ++ cs.drop (off + e.sz))
 fit : off + e.sz ≤ d.sz
theorem Qf.self {α : Type} {d : Kd α} {x : α} : Qf d d 0 x x (fun y => y) where
 get := fun {H cs} h => by simpa [d.len h, List.take_of_length_le (Nat.le_of_eq (d.len h))] using h
 put := fun {H cs y es} h h' => by
  rw [List.drop_of_length_le (by rw [d.len h]; omega)]; simpa using h'
 fit := by omega
theorem Qf.fst {α β : Type} {a : Kd α} {b : Kd β} {x : α × β} : Qf (Xo a b) a 0 x x.1 (fun y => (y, x.2)) where
 get := by
  rintro H cs ⟨c1, c2, h1, h2, rfl⟩
  simp only [List.drop_zero]
  rw [List.take_append_of_le_length (by rw [a.len h1]; exact Nat.le_refl _), List.take_of_length_le (by rw [a.len h1]; exact Nat.le_refl _)]
  exact h1
 put := by
  rintro H cs y es ⟨c1, c2, h1, h2, rfl⟩ h'
  refine ⟨es, c2, h', h2, ?_⟩
  rw [Nat.zero_add, ← a.len h1, List.drop_left]; simp
 fit := by simp [Xo]
theorem Qf.snd {α β : Type} {a : Kd α} {b : Kd β} {x : α × β} : Qf (Xo a b) b a.sz x x.2 (fun y => (x.1, y)) where
 get := by
  rintro H cs ⟨c1, c2, h1, h2, rfl⟩
  rw [← a.len h1, List.drop_left, List.take_of_length_le (by rw [b.len h2]; exact Nat.le_refl _)]
  exact h2
 put := by
  rintro H cs y es ⟨c1, c2, h1, h2, rfl⟩ h'
  refine ⟨c1, es, h1, h', ?_⟩
  rw [← a.len h1, List.take_left, List.drop_of_length_le (by rw [List.length_append, b.len h2]; exact Nat.le_refl _)]; simp
 fit := by simp [Xo]
theorem Qf.comp {α β γ : Type} {d : Kd α} {e : Kd β} {k : Kd γ} {o1 o2 : Nat} {x : α} {g : β} {g' : γ} {s1 : β → α} {s2 : γ → β} (h : Qf d e o1 x g s1) (h' : Qf e k o2 g g' s2) : Qf d k (o1 + o2) x g' (fun y => s1 (s2 y)) where
 get := fun {H cs} hk => by
  have h1 := h'.get (h.get hk)
  have hf := h'.fit
  rw [List.drop_take, List.drop_drop, List.take_take, Nat.min_eq_left (by omega)] at h1
  exact h1
 put := fun {H cs y es} hk hy => by
  have h1 := h.get hk
  have h2 := h.put hk (h'.put h1 hy)
  have hf := h'.fit
  have hl := d.len hk
  have hf1 := h.fit
  have he := k.len hy
  have e1 : cs.take (o1 + o2) ++ es ++ cs.drop (o1 + o2 + k.sz) = cs.take o1 ++ (((cs.drop o1).take e.sz).take o2 ++ es ++ ((cs.drop o1).take e.sz).drop (o2 + k.sz)) ++ cs.drop (o1 + e.sz) := by
   rw [List.take_take, Nat.min_eq_left (by omega), List.drop_take, List.drop_drop, List.take_add]
   simp only [List.append_assoc]
   congr 3
   have e2 : cs.drop (o1 + o2 + k.sz) = (cs.drop (o1 + o2 + k.sz)).take (e.sz - (o2 + k.sz)) ++ (cs.drop (o1 + o2 + k.sz)).drop (e.sz - (o2 + k.sz)) := (List.take_append_drop _ _).symm
   rw [e2, List.drop_drop]
   congr 2
   · rw [show o1 + (o2 + k.sz) = o1 + o2 + k.sz from by omega]
   omega
  rw [e1]; exact h2
 fit := by have := h.fit; have := h'.fit; omega
theorem Qf.iso {α β γ : Type} {d : Kd α} {e : Kd β} {o : Nat} {f : γ → α} {x : γ} {g : β} {s : β → α} {s' : β → γ} (h : Qf d e o (f x) g s) (hs : ∀ y, f (s' y) = s y) : Qf (Q4o d f) e o x g s' where
 get := h.get
 put := fun {H cs y es} hk hy => by show d.K H (f (s' y)) _; rw [hs]; exact h.put hk hy
 fit := h.fit
theorem Qf.at_ {α : Type} {d : Kd α} {n : Nat} {xs : List α} (i : Nat) {x : α} (hi : xs[i]? = some x) (hn : i < n) : Qf (Qdx n d) d (i * d.sz) xs x (fun y => xs.set i y) where
 get := fun {H cs} h => h.2.2 i x hi
 put := fun {H cs y es} h hy => ⟨by rw [List.length_set]; exact h.1, h.2.set i (List.getElem?_eq_some_iff.1 hi).1 hy⟩
 fit := by
  show i * d.sz + d.sz ≤ n * d.sz
  rw [← Nat.succ_mul]; exact Nat.mul_le_mul_right _ hn
def at' {α : Type} [Inhabited α] (xs : List α) (i : Int) : α := xs.getD i.toNat default
theorem Qg6 {α : Type} [Inhabited α] {xs : List α} {i : Int} (h1 : i < xs.length) (h0 : 0 ≤ i) : xs[i.toNat]? = some (at' xs i) := by
 have : i.toNat < xs.length := by omega
 simp [at', List.getD_eq_getElem?_getD, List.getElem?_eq_getElem this]
theorem Q1 {α : Type} [Inhabited α] {xs : List α} {k : Nat} (h : k < xs.length) : at' xs (k : Int) = xs[k] := by
 simp [at', List.getD_eq_getElem?_getD, h]
def Xy (P : Program) (t : TypeId) (agg : Bool) (sz : Nat) : Bool := match P.underlying t, P.info? t with
 | some d, some i => ((match d with | .struct _ | .array _ _ => true | _ => false) == agg) && Nat.beq i.size sz
 | _, _ => false
theorem run_sizeOf {P : Program} {t : TypeId} {agg : Bool} {sz : Nat} (h : Xy P t agg sz = true) (w : World) : (sizeOf t).run P w = .ok sz w := by
 unfold Xy at h
 cases hu : P.underlying t with
 | none => rw [hu] at h; cases h
 | some d =>
  cases hi : P.info? t with
  | none => rw [hu, hi] at h; cases h
  | some i =>
   rw [hu, hi] at h
   simp only [Bool.and_eq_true] at h
   simp [sizeOf, typeInfo, hi, Nat.eq_of_beq_eq_true h.2]
theorem Qcg {P : Program} {t : TypeId} {agg : Bool} {sz : Nat} (h : Xy P t agg sz = true) (w : World) : (isAgg t).run P w = .ok agg w := by
 unfold Xy at h
 cases hu : P.underlying t with
 | none => rw [hu] at h; cases h
 | some d =>
  cases hi : P.info? t with
  | none => rw [hu, hi] at h; cases h
  | some i =>
   rw [hu, hi] at h
   simp only [Bool.and_eq_true, beq_iff_eq] at h
   have h1 := h.1
   unfold isAgg
   cases d <;> simp [run_underlying hu] <;> simpa using h1
theorem add_plain (g off k : Nat) : (⟨g, off, none⟩ : Addr).add k = ⟨g, off + k, none⟩ := by unfold Addr.add; split <;> simp_all
theorem Addr.plain {a : Addr} (h : a.spot = none) : a = ⟨a.block, a.off, none⟩ := by cases a; simp_all
theorem U0 {w : World} {g : Nat} {cells : Array Value} {e : TypeId} {fr : Nat × Nat} (h : w.heap[g]? = some (.cells cells e fr)) (off : Nat) : w.cell? ⟨g, off, none⟩ = cells[off]? := cell_of_row w g off cells e fr h
theorem K6 {P : Program} {w : World} {t : TypeId} {agg : Bool} {cs : List Value} {g off : Nat} {cells : Array Value} {e : TypeId} {fr : Nat × Nat} (ht : Xy P t agg cs.length = true) (h1 : agg = false → cs.length = 1) (hb : w.heap[g]? = some (.cells cells e fr)) (hs : Qdw cells off cs) :
 (loadVar t ⟨g, off, none⟩).run P w = .ok (mkV agg cs) w := by
 unfold loadVar
 cases agg with
 | true =>
  have hl := run_loadCells_list (P := P) w ⟨g, off, none⟩ cs (fun j v e => by rw [add_plain, U0 hb]; exact hs j v e)
  simp [Qcg ht, run_sizeOf ht, hl, mkV]
 | false =>
  obtain ⟨u, rfl⟩ : ∃ u, cs = [u] := by
   match cs, h1 rfl with
   | [u], _ => exact ⟨u, rfl⟩
  have hc : w.cell? ⟨g, off, none⟩ = some u := by rw [U0 hb]; simpa using hs 0 u rfl
  simp [Qcg ht, mkV, hc]
section
variable {C : Cx} {Γ : Env} {L : List It} {Q : Exit → Act → World → Prop} {ops : Array Oper} {rest : List Oper}
variable {dst : Option Tmp} {ty : TypeId} {pos : String} {after : Array Edge} {guard : Option (Nat × Bool)} {x y z : Operand}
variable {α β : Type} {d : Kd α} {e : Kd β}
def AtT (d : Kd α) (x : α) : Ty := ⟨fun H v => ∃ g off cells t fr cs, v = .pointer (some ⟨g, off, none⟩) ∧ H g = some (.cells cells t fr) ∧ d.K H x cs ∧ Qdw cells off cs, fun hs ⟨g, off, cells, t, fr, cs, h1, h2, h3, h4⟩ => ⟨g, off, cells, t, fr, cs, h1, hs _ _ h2, d.mono hs h3, h4⟩⟩
theorem U8 {t el : TypeId} {xs : List α} (hx : OT C.N Γ x (SlT d xs)) (ht : C.P.underlying t = some (.slice el)) : Pure C Γ L ⟨dst, .call ⟨.builtin .len, #[x], #[t]⟩, ty, pos, after, guard⟩ (I64 xs.length) := fun a w H f s ow => by
 obtain ⟨A, c, h1, _⟩ := hx a H f
 exact ⟨_, by simp [execOp, resolve, invoke, builtin, Builtin.len_, h1, run_underlying ht, goInt], rfl⟩
theorem Qj [Inhabited α] {t el : TypeId} {k : IntKind} {xs : List α} {i : Int} (hx : OT C.N Γ x (SlT d xs)) (hy : OT C.N Γ y (Zy k i)) (ht : C.P.underlying t = some (.slice el)) (he : Xy C.P el d.agg d.sz = true) (h0 : 0 ≤ i) (h1 : i < xs.length) :
 Pure C Γ L ⟨dst, .indexAddr t x y, ty, pos, after, guard⟩ (AtT d (at' xs i)) := fun a w H f s ow => by
 obtain ⟨A, c, hv, _, _, hr⟩ := hx a H f
 have hi : a.eval y = .int k i := hy a H f
 obtain ⟨ad, cells, e, fr, cs, rfl, hsp, hb, hR, hS⟩ := hr (by omega)
 have hk := hR.2 i.toNat _ (Qg6 h1 h0)
 have hc : 0 ≤ i ∧ i < (xs.length : Int) := ⟨h0, h1⟩
 rw [Addr.plain hsp] at hv
 refine ⟨.pointer (some ⟨ad.block, ad.off + i.toNat * d.sz, none⟩), ?_, ad.block, _, cells, e, fr, _, rfl, hb, hk, hS.drop _ _⟩
 simp [execOp, Instr.indexAt, hi, asIntOf, run_underlying ht, hv, h1, h0, run_sizeOf he, add_plain]
theorem Qgm {t : TypeId} {v : α} (hx : OT C.N Γ x (AtT d v)) (ht : Xy C.P t d.agg d.sz = true) : Pure C Γ L ⟨dst, .load t x, ty, pos, after, guard⟩ (d.T v) := fun a w H f s ow => by
 obtain ⟨g, off, cells, t', fr, cs, hv, hb, hk, hS⟩ := hx a H f
 have hl := d.len hk
 refine ⟨mkV d.agg cs, ?_, d.toT hk⟩
 have := K6 (P := C.P) (w := w) (t := t) (agg := d.agg) (cs := cs) (by rw [hl]; exact ht) (fun e => by rw [hl]; exact d.szone e) (s.on _ _ hb) hS
 simp [execOp, Instr.loadAt, Instr.sureAddr, hv, this]
end
end Go.Gw
namespace Go.Gw
open Go
theorem Qi3 {w w' : World} {base : Nat} {e : TypeId} {size n : Nat} {v : Value} {xs : List Value} (h : w.ownsRow base e size v n xs) (hm : ∀ g, v.ownBlock = some g → w'.heap[g]? = w.heap[g]?) : w'.ownsRow base e size v n xs := by
 obtain ⟨h1, h2⟩ := h
 refine ⟨h1, ?_⟩
 rcases h2 with h2 | ⟨g, cap, cur, rfl, hg, hh, r⟩
 · exact .inl h2
 exact .inr ⟨g, cap, cur, rfl, hg, (hm g (by simp [Value.ownBlock])).trans hh, r⟩
def Qh {α : Type} (e : TypeId) (d : Kd α) (v : Value) (xs : List α) : It where
 blk := v.ownBlock
 p := fun w H => ∃ inner, w.ownsRow 0 e d.sz v xs.length inner ∧ Ja d H xs inner
 st := fun hk hs ⟨inner, h1, h2⟩ => ⟨inner, Qi3 h1 hk, h2.mono hs⟩
def Qb {α : Type} (g : Nat) (t : TypeId) (d : Kd α) (x : α) : It where
 blk := some g
 p := fun w H => ∃ cs, d.K H x cs ∧ w.heap[g]? = some (.cells cs.toArray t (0, 0))
 st := fun hk hs ⟨cs, h1, h2⟩ => ⟨cs, d.mono hs h1, (hk g rfl).trans h2⟩
abbrev Qo : Value := .slice none 0 0
theorem Qje {α : Type} {e : TypeId} {d : Kd α} {w : World} {H : FH} : (Qh e d Qo ([] : List α)).p w H := ⟨[], World.ownsRow_nil w 0 e d.sz, Ja.nil⟩
section
variable {C : Cx} {Γ : Env} {L R : List It} {Q : Exit → Act → World → Prop} {ops : Array Oper} {rest : List Oper}
variable {dst : Option Tmp} {ty : TypeId} {pos : String} {after : Array Edge} {guard : Option (Nat × Bool)} {x y z : Operand}
variable {α β : Type} {d : Kd α} {e : Kd β}
theorem Xu.nilItem {ok : Nat → Prop} {w : World} {H : FH} (h : Xu ok w H L) (t : TypeId) (d : Kd α) : Xu ok w H (Qh t d Qo [] :: L) where
 all := fun i hi => by
  rcases List.mem_cons.1 hi with rfl | hi
  · exact Qje
  exact h.all i hi
 nodup := h.nodup
 own := h.own
theorem Xg (t : TypeId) (d : Kd α) {φ : Act → World → Prop} (h : Tr C Γ (Qh t d Qo [] :: L) φ) : Tr C Γ L φ := fun a w H f s o => h a w H f s (o.nilItem t d)
theorem Qlr {w : World} {H : FH} {t : TypeId} {v : Value} {xs : List α} (h : (Qh t d v xs).p w H) : (∃ A c, v = .slice A xs.length c ∧ xs.length ≤ c) ∧ xs.length ≤ maxLen := by
 obtain ⟨inner, ⟨h1, h2⟩, _⟩ := h
 rcases h2 with ⟨rfl, h0⟩ | ⟨g, cap, cur, rfl, _, _, hc, hm, _⟩
 · exact ⟨⟨none, 0, by rw [h0], by omega⟩, by omega⟩
 exact ⟨⟨_, cap, rfl, hc⟩, Nat.le_trans hc hm⟩
def Up (H : FH) (g : Nat) (o : Obj) : FH := fun k => if k = g then some o else H k
theorem V9 {H : FH} {g : Nat} {o : Obj} (h : H g = none) : Sub H (Up H g o) := fun k u e => by
 unfold Up
 by_cases hk : k = g
 · subst hk; rw [h] at e; cases e
 rw [if_neg hk]; exact e
theorem Qdy {H : FH} {w : World} {g : Nat} {o : Obj} (h : On H w) (hg : w.heap[g]? = some o) : On (Up H g o) w := fun k u e => by
 unfold Up at e
 by_cases hk : k = g
 · subst hk; rw [if_pos rfl] at e; cases e; exact hg
 rw [if_neg hk] at e; exact h k u e
theorem Qdc {w : World} {H : FH} {t : TypeId} {v : Value} {xs : List α} (h : (Qh t d v xs).p w H) (hn : ∀ g, v.ownBlock = some g → H g = none) (hon : On H w) :
 ∃ H', Sub H H' ∧ On H' w ∧ (∀ k o, H' k = some o → H k = some o ∨ v.ownBlock = some k) ∧ (SlT d xs).p H' v := by
 obtain ⟨inner, ⟨h1, h2⟩, h3⟩ := h
 rcases h2 with ⟨rfl, h0⟩ | ⟨g, cap, cur, rfl, _, hb, hc, hm, hs, hi⟩
 · exact ⟨H, Sub.refl _, hon, fun k o e => .inl e, none, 0, by rw [h0], by omega, by omega, fun hp => by omega⟩
 have hg : H g = none := hn g rfl
 refine ⟨Up H g (.cells cur t (0, 0)), V9 hg, Qdy hon hb, fun k o e => ?_, some ⟨g, 0, none⟩, cap, rfl, hc, Nat.le_trans hc hm, fun _ => ⟨⟨g, 0, none⟩, cur, t, (0, 0), inner, rfl, rfl, by simp [Up], h3.mono (V9 hg), ?_⟩⟩
 · unfold Up at e
   by_cases hk : k = g
   · subst hk; exact .inr rfl
   rw [if_neg hk] at e; exact .inl e
 intro i u e
 have hlen : i < inner.length := (List.getElem?_eq_some_iff.1 e).1
 rw [← hi, List.getElem?_take] at e
 by_cases hk : i < xs.length * d.sz
 · rw [if_pos hk] at e; simpa using e
 rw [if_neg hk] at e; cases e
theorem Qaq {ok : Nat → Prop} {w : World} {H H' : FH} {J : It} (ho : Xu ok w H (J :: R)) (hs : Sub H H') (hn : ∀ k o, H' k = some o → H k = some o ∨ J.blk = some k) : Xu ok w H' R where
 all := fun i hi => i.st (fun _ _ => rfl) hs (ho.all i (List.mem_cons_of_mem _ hi))
 nodup := by
  have := ho.nodup
  unfold X8 at this
  cases hb : J.blk with
  | none => rwa [List.filterMap_cons_none hb] at this
  | some g => rw [List.filterMap_cons_some hb] at this; exact (List.nodup_cons.1 this).2
 own := fun g hg => by
  have hmem : g ∈ X8 (J :: R) := by
   unfold X8 at hg ⊢
   cases hb : J.blk with
   | none => rwa [List.filterMap_cons_none hb]
   | some k => rw [List.filterMap_cons_some hb]; exact List.mem_cons_of_mem _ hg
  obtain ⟨h1, h2, h3⟩ := ho.own g hmem
  refine ⟨h1, ?_, h3⟩
  cases e : H' g with
  | none => rfl
  | some o =>
   rcases hn g o e with e | e
   · rw [h2] at e; cases e
   have hnd := ho.nodup
   unfold X8 at hnd hg
   rw [List.filterMap_cons_some e] at hnd
   exact absurd hg (List.nodup_cons.1 hnd).1
theorem Xh {t : TypeId} {v : Value} {xs : List α} {φ : Act → World → Prop} (hp : List.Perm L (Qh t d v xs :: R)) (sl : Nat) (hv : OT C.N Γ (.tmp sl) (IsV v)) (h : Tr C ((sl, SlT d xs) :: Γ) R φ) : Tr C Γ L φ := by
 intro a w H f s o
 have o' := o.perm hp
 have hb : ∀ g, v.ownBlock = some g → g < w.heap.size ∧ H g = none ∧ C.ok g := fun g hg => o'.own g (Xn (i := Qh t d v xs) List.mem_cons_self hg)
 obtain ⟨H', h1, h2, h3, h4⟩ := Qdc (o'.all _ List.mem_cons_self) (fun g hg => (hb g hg).2.1) s.on
 refine h a w H' (Yq ?_ (f.mono h1)) ⟨s.sub.trans h1, h2, s.os, s.tape, s.output, s.size, s.keep, fun k o e => ?_⟩ (Qaq o' h1 h3)
 · have : a.eval (.tmp sl) = v := hv a H f
   simp only [Act.eval] at this
   rw [this]; exact h4
 rcases h3 k o e with e | e
 · exact s.new k o e
 rcases (hb k e).2.2 with h5 | h5
 · exact .inr (.inr h5)
 exact .inr (.inl h5)
theorem Xr {t el t' : TypeId} {v : Value} {xs : List α} (hx : OT C.N Γ x (IsV v)) (hm : Qh t' d v xs ∈ L) (ht : C.P.underlying t = some (.slice el)) : Pure C Γ L ⟨dst, .call ⟨.builtin .len, #[x], #[t]⟩, ty, pos, after, guard⟩ (I64 xs.length) := fun a w H f s ow => by
 have h0 : a.eval x = v := hx a H f
 obtain ⟨⟨A, c, rfl, _⟩, _⟩ := Qlr (ow.all _ hm)
 exact ⟨_, by simp [execOp, resolve, invoke, builtin, Builtin.len_, h0, run_underlying ht, goInt], rfl⟩
def Qbp (v : Value) (off : Nat) : Value := match v with
 | .slice (some a) _ _ => .pointer (some ⟨a.block, off, none⟩)
 | _ => undef
theorem Qkg {t el t' : TypeId} {k : IntKind} {v : Value} {xs : List α} {i : Int} (hx : OT C.N Γ x (IsV v)) (hm : Qh t' d v xs ∈ L) (hy : OT C.N Γ y (Zy k i)) (ht : C.P.underlying t = some (.slice el)) (he : Xy C.P el d.agg d.sz = true) (h0 : 0 ≤ i) (h1 : i < xs.length) :
 Pure C Γ L ⟨dst, .indexAddr t x y, ty, pos, after, guard⟩ (IsV (Qbp v (i.toNat * d.sz))) := fun a w H f s ow => by
 have hv : a.eval x = v := hx a H f
 have hi : a.eval y = .int k i := hy a H f
 obtain ⟨inner, ⟨h2, h3⟩, _⟩ := ow.all _ hm
 rcases h3 with ⟨rfl, hl⟩ | ⟨g, cap, cur, rfl, _⟩
 · omega
 refine ⟨_, ?_, rfl⟩
 simp [execOp, Instr.indexAt, hi, asIntOf, run_underlying ht, hv, h1, h0, run_sizeOf he, add_plain, Qbp]
theorem Kh {w : World} {H : FH} {t : TypeId} {v : Value} {xs : List α} (h : (Qh t d v xs).p w H) (hn : 0 < xs.length) : ∃ g cap cur cs, v = .slice (some ⟨g, 0, none⟩) xs.length cap ∧ w.heap[g]? = some (.cells cur t (0, 0)) ∧ Ja d H xs cs ∧ Qdw cur 0 cs ∧ cur.size = cap * d.sz ∧ xs.length ≤ cap ∧ cap ≤ maxLen ∧ cs = cur.toList.take (xs.length * d.sz) := by
 obtain ⟨inner, ⟨h2, h3⟩, h4⟩ := h
 rcases h3 with ⟨rfl, hl⟩ | ⟨g, cap, cur, rfl, _, hb, hc, hm, hsz, hin⟩
 · omega
 refine ⟨g, cap, cur, inner, rfl, hb, h4, fun i u e => ?_, hsz, hc, hm, hin.symm⟩
 rw [← hin, List.getElem?_take] at e
 by_cases hk : i < xs.length * d.sz
 · rw [if_pos hk] at e; simpa using e
 rw [if_neg hk] at e; cases e
theorem Qls {t t' : TypeId} {v : Value} {xs : List α} {i : Nat} {off : Nat} {el : α} {g : β} {set : β → α} (hx : OT C.N Γ x (IsV (Qbp v (i * d.sz + off)))) (hm : Qh t' d v xs ∈ L) (hi : xs[i]? = some el) (hl : Qf d e off el g set) (ht : Xy C.P t e.agg e.sz = true) :
 Pure C Γ L ⟨dst, .load t x, ty, pos, after, guard⟩ (e.T g) := fun a w H f s ow => by
 have hv : a.eval x = Qbp v (i * d.sz + off) := hx a H f
 obtain ⟨b, cap, cur, cs, rfl, hb, hR, hS, _⟩ := Kh (ow.all _ hm) (by have := (List.getElem?_eq_some_iff.1 hi).1; omega)
 have hk := hl.get (hR.2 i el hi)
 have hle := e.len hk
 have hS2 : Qdw cur (0 + (i * d.sz + off)) ((((cs.drop (i * d.sz)).take d.sz).drop off).take e.sz) := by
  have := (hS.drop (i * d.sz) d.sz).drop off e.sz
  rwa [Nat.add_assoc] at this
 rw [Nat.zero_add] at hS2
 refine ⟨mkV e.agg _, ?_, e.toT hk⟩
 have := K6 (P := C.P) (w := w) (t := t) (agg := e.agg) (by rw [hle]; exact ht) (fun h => by rw [hle]; exact e.szone h) hb hS2
 simp [execOp, Instr.loadAt, Instr.sureAddr, hv, Qbp, this]
theorem Qkh [Inhabited α] {t t' : TypeId} {v : Value} {xs : List α} {i : Int} (hx : OT C.N Γ x (IsV (Qbp v (i.toNat * d.sz)))) (hm : Qh t' d v xs ∈ L) (h0 : 0 ≤ i) (h1 : i < xs.length) (ht : Xy C.P t d.agg d.sz = true) :
 Pure C Γ L ⟨dst, .load t x, ty, pos, after, guard⟩ (d.T (at' xs i)) := Qls (off := 0) hx hm (Qg6 h1 h0) Qf.self ht
abbrev pt (g off : Nat) : Value := .pointer (some ⟨g, off, none⟩)
theorem W9 {t t' : TypeId} {b : Nat} {v : α} {off : Nat} {g : β} {set : β → α} (hx : OT C.N Γ x (IsV (pt b off))) (hm : Qb b t' d v ∈ L) (hl : Qf d e off v g set) (ht : Xy C.P t e.agg e.sz = true) :
 Pure C Γ L ⟨dst, .load t x, ty, pos, after, guard⟩ (e.T g) := fun a w H f s ow => by
 have hv : a.eval x = pt b off := hx a H f
 obtain ⟨cs, hK, hb⟩ := ow.all _ hm
 have hk := hl.get hK
 have hle := e.len hk
 have hS : Qdw cs.toArray off ((cs.drop off).take e.sz) := fun i u h => by
  rw [List.getElem?_take] at h
  by_cases hi : i < e.sz
  · rw [if_pos hi, List.getElem?_drop] at h; simpa using h
  rw [if_neg hi] at h; cases h
 refine ⟨mkV e.agg _, ?_, e.toT hk⟩
 have := K6 (P := C.P) (w := w) (t := t) (agg := e.agg) (by rw [hle]; exact ht) (fun h => by rw [hle]; exact e.szone h) hb hS
 simp [execOp, Instr.loadAt, Instr.sureAddr, hv, this]
theorem Qf4 {t t' : TypeId} {b : Nat} {v : α} (hx : OT C.N Γ x (IsV (pt b 0))) (hm : Qb b t' d v ∈ L) (ht : Xy C.P t d.agg d.sz = true) :
 Pure C Γ L ⟨dst, .load t x, ty, pos, after, guard⟩ (d.T v) := W9 hx hm Qf.self ht
theorem Qdz {t el : TypeId} {k : IntKind} {b off n sz : Nat} {agg : Bool} {i : Int} (hx : OT C.N Γ x (IsV (pt b off))) (hy : OT C.N Γ y (Zy k i)) (ht : C.P.underlying t = some (.array n el)) (he : Xy C.P el agg sz = true) (h0 : 0 ≤ i) (h1 : i < n) :
 Pure C Γ L ⟨dst, .indexAddr t x y, ty, pos, after, guard⟩ (IsV (pt b (off + i.toNat * sz))) := fun a w H f s ow => by
 have hv : a.eval x = pt b off := hx a H f
 have hi : a.eval y = .int k i := hy a H f
 refine ⟨_, ?_, rfl⟩
 simp [execOp, Instr.indexAt, hi, asIntOf, run_underlying ht, hv, h1, h0, run_sizeOf he, add_plain, Instr.sureAddr, pt]
theorem Qd0 [Inhabited α] {t el : TypeId} {k : IntKind} {n : Nat} {xs : List α} {i : Int} (hx : OT C.N Γ x ((Qdx n d).T xs)) (hy : OT C.N Γ y (Zy k i)) (ht : C.P.underlying t = some (.array n el)) (he : Xy C.P el d.agg d.sz = true) (h0 : 0 ≤ i) (h1 : i < n) :
 Pure C Γ L ⟨dst, .index t x y, ty, pos, after, guard⟩ (d.T (at' xs i)) := fun a w H f s ow => by
 obtain ⟨cs, ⟨hn, hR⟩, hv⟩ := hx a H f
 have hi : a.eval y = .int k i := hy a H f
 have hk := hR.2 i.toNat _ (Qg6 (by omega) h0)
 have hl := d.len hk
 refine ⟨mkV d.agg _, ?_, d.toT hk⟩
 have hle : i.toNat * d.sz + d.sz ≤ cs.length := by
  rw [hR.1, ← Nat.succ_mul]; exact Nat.mul_le_mul_right _ (by omega)
 have hpart : (part el cs.toArray (i.toNat * d.sz)).run C.P w = .ok (mkV d.agg ((cs.drop (i.toNat * d.sz)).take d.sz)) w := by
  unfold part
  cases hag : d.agg with
  | true =>
   rw [hag] at he
   simp [Qcg he, run_sizeOf he, mkV, List.take_drop]
  | false =>
   rw [hag] at he
   have h1 : d.sz = 1 := d.szone hag
   have h2 : i.toNat * d.sz < cs.length := by omega
   simp [Qcg he, mkV, h1] at h2 ⊢
   simp [h2, List.head?_take, List.head?_drop]
 simp [execOp, Instr.index, hi, asIntOf, run_underlying ht, hv, h1, h0, run_sizeOf he, hpart]
end
end Go.Gw
namespace Go.Gw
open Go
section
variable {C : Cx} {Γ : Env} {L R : List It} {Q : Exit → Act → World → Prop} {ops : Array Oper} {rest : List Oper}
variable {dst : Option Tmp} {ty : TypeId} {pos : String} {after : Array Edge} {guard : Option (Nat × Bool)} {x y z : Operand}
variable {α β : Type} {d : Kd α} {e : Kd β}
def Uq (P : Program) (t e : TypeId) (sz bytes : Nat) : Bool := match P.underlying t, P.info? e with
 | some (.slice e'), some i => Nat.beq e' e && Nat.beq i.size sz && Nat.beq i.bytes bytes && (match i.zero with | some z => Nat.beq z.cells.size sz | none => false) && Nat.ble 1 sz
 | _, _ => false
theorem Qch {P : Program} {t e : TypeId} {sz bytes : Nat} (h : Uq P t e sz bytes = true) : P.underlying t = some (.slice e) ∧ ∃ i z, P.info? e = some i ∧ i.zero = some z ∧ i.size = sz ∧ i.bytes = bytes ∧ z.cells.size = sz ∧ 0 < sz := by
 unfold Uq at h
 cases hu : P.underlying t with
 | none => rw [hu] at h; cases h
 | some D =>
  cases hi : P.info? e with
  | none => rw [hu, hi] at h; cases D <;> cases h
  | some i =>
   rw [hu, hi] at h
   cases D with
   | slice e' =>
    simp only [Bool.and_eq_true] at h
    obtain ⟨⟨⟨⟨h1, h2⟩, h3⟩, h4⟩, h5⟩ := h
    cases hz : i.zero with
    | none => rw [hz] at h4; cases h4
    | some z =>
     rw [hz] at h4
     refine ⟨by rw [Nat.eq_of_beq_eq_true h1], i, z, rfl, hz, Nat.eq_of_beq_eq_true h2, Nat.eq_of_beq_eq_true h3, Nat.eq_of_beq_eq_true h4, ?_⟩
     exact Nat.le_of_ble_eq_true h5
   | _ => cases h
theorem Qdd {P : Program} (w : World) (t ty e : TypeId) (i : TypeInfo) (size : Nat) (ht : P.underlying t = some (.slice e)) (hi : P.info? e = some i)
 (v : Value) (n : Nat) (xs : List Value) (hown : w.ownsRow 0 e size v n xs) (c : Nat) : (Builtin.append_ #[t, t] ty #[v, .slice none 0 c]).run P w = .ok v w := by
 rcases hown.2 with ⟨rfl, rfl⟩ | ⟨g, cap, cur, rfl, _, _, hnc, _⟩
 · simp [Builtin.append_, run_underlying ht, sizeOf, typeInfo, hi, Builtin.lenOf, Builtin.firstCells]
 simp [Builtin.append_, run_underlying ht, sizeOf, typeInfo, hi, Builtin.lenOf, Builtin.firstCells, hnc, storeCells]
theorem Y4 {M : Nat → Prop} {H : FH} {w w' : World} {row : Option Nat} (hon : On H w) (hg : w.grownBy w' row) (hr : ∀ g, row = some g → H g = none ∧ M g) : St M H w H w' where
 sub := Sub.refl _
 on := fun k o e => by
  have hk := hon.lt e
  rw [hg.block k hk (fun h => by rw [(hr k h.symm).1] at e; cases e)]
  exact hon k o e
 os := hg.os
 tape := hg.tape
 output := hg.output
 size := hg.size
 keep := fun k hk hM => hg.block k hk (fun h => hM (hr k h.symm).2)
 new := fun k o e => .inl e
theorem Q0 {t el : TypeId} {bytes : Nat} {v : Value} {xs ys : List α} (hx : OT C.N Γ x (IsV v)) (hp : List.Perm L (Qh el d v xs :: R)) (hy : OT C.N Γ y (SlT d ys)) (ht : Uq C.P t el d.sz bytes = true) (hb : (xs.length + ys.length) * bytes ≤ 140737488355328) (hm : xs.length + ys.length ≤ maxLen) :
 Yp C Γ L ⟨dst, .call ⟨.builtin .append, #[x, y], #[t, t]⟩, ty, pos, after, guard⟩ [Qh el d v xs] Value (fun r => IsV r) (fun r => [Qh el d r (xs ++ ys)]) (fun _ => True) := by
 intro a w H f s ow Q K hK
 obtain ⟨hu, i, z, hi, hz, hsz, hby, hzs, hpos⟩ := Qch ht
 have hv : a.eval x = v := hx a H f
 obtain ⟨A, c, hw, hlc, hlm, hr⟩ := hy a H f
 have o' := ow.perm hp
 obtain ⟨inner, hown, hR⟩ := o'.all _ List.mem_cons_self
 have hblk : ∀ g, v.ownBlock = some g → g < w.heap.size ∧ H g = none ∧ g ∈ X8 [Qh el d v xs] := fun g hg =>
  let h1 := o'.own g (Xn (i := Qh el d v xs) List.mem_cons_self hg); ⟨h1.1, h1.2.1, Xn (i := Qh el d v xs) List.mem_cons_self hg⟩
 have key : ∃ v' w', (Builtin.append_ #[t, t] ty #[v, .slice A ys.length c]).run C.P w = .ok v' w' ∧ (∃ inner', w'.ownsRow 0 el d.sz v' (xs.length + ys.length) inner' ∧ Ja d H (xs ++ ys) inner') ∧ w.grownBy w' v.ownBlock ∧ (v'.ownBlock = v.ownBlock ∨ v'.ownBlock = some w.heap.size) := by
  cases A with
  | none =>
   have h0 : ys.length = 0 := by
    rcases Nat.eq_zero_or_pos ys.length with h | h
    · exact h
    obtain ⟨ad, _, _, _, _, h1, _⟩ := hr h; cases h1
   have hnil : ys = [] := List.eq_nil_of_length_eq_zero h0
   subst hnil
   exact ⟨v, w, Qdd w t ty el i d.sz hu hi v _ _ hown c, ⟨inner, by simpa using hown, by simpa using hR⟩, World.grownBy.refl w _, .inl rfl⟩
  | some ad =>
   obtain ⟨cs, hcs, hcell⟩ : ∃ cs, Ja d H ys cs ∧ ∀ j u, cs[j]? = some u → w.cell? (ad.add j) = some u := by
    rcases Nat.eq_zero_or_pos ys.length with h | h
    · have hnil : ys = [] := List.eq_nil_of_length_eq_zero h
      subst hnil
      exact ⟨[], Ja.nil, fun j u e => by simp at e⟩
    obtain ⟨ad', cells, e, fr, cs, h1, h2, h3, h4, h5⟩ := hr h
    cases h1
    refine ⟨cs, h4, fun j u e => ?_⟩
    rw [Addr.plain h2, add_plain, U0 (s.on _ _ h3)]
    exact h5 j u e
   obtain ⟨v', w', h1, h2, h3, _, h5⟩ := run_append_own_at w 0 t ty el i z d.sz bytes hu hi hz hsz hby hzs hpos v xs.length inner hown ad ys.length c cs hcs.1 hcell (Ja.cells hcs) hm hb (Nat.zero_le _)
   exact ⟨v', w', h1, ⟨_, h2, hR.append hcs⟩, h3, h5⟩
 obtain ⟨v', w', h1, ⟨inner', h2, h3⟩, h4, h5⟩ := key
 have hrun : (execOp a.eval ⟨dst, .call ⟨.builtin .append, #[x, y], #[t, t]⟩, ty, pos, after, guard⟩).run C.P w = .ok (.value v') w' := by
  simp [execOp, resolve, invoke, builtin, hv, hw, h1]
 simp only [Oper.wp, hrun, Oper.upon_value]
 refine hK v' v' w' H trivial (Y4 s.on h4 fun g hg => ⟨(hblk g hg).2.1, (hblk g hg).2.2⟩) rfl ⟨?_, ?_, ?_⟩
 · intro it hit
   rw [List.mem_singleton.1 hit]
   exact ⟨inner', by rw [List.length_append]; exact h2, h3⟩
 · unfold X8
   cases hq : v'.ownBlock with
   | none => rw [List.filterMap_cons_none (by exact hq)]; exact List.nodup_nil
   | some k => rw [List.filterMap_cons_some (by exact hq)]; simp
 intro g hg
 have hg' : v'.ownBlock = some g := by
  obtain ⟨it, hit, hb⟩ := List.mem_filterMap.1 hg
  rw [List.mem_singleton.1 hit] at hb; exact hb
 have hlt : g < w'.heap.size := by
  rcases h2.2 with ⟨rfl, _⟩ | ⟨g', cap, cur, rfl, _, hh, _⟩
  · simp [Value.ownBlock] at hg'
  have : g' = g := by simpa [Value.ownBlock] using hg'
  subst this; exact (Array.getElem?_eq_some_iff.1 hh).1
 refine ⟨hlt, ?_, ?_⟩
 · rcases h5 with h5 | h5
   · rw [h5] at hg'; exact (hblk g hg').2.1
   rw [h5] at hg'; cases hg'
   cases e : H w.heap.size with
   | none => rfl
   | some o => have := s.on.lt e; omega
 rcases h5 with h5 | h5
 · rw [h5] at hg'; exact .inl (hblk g hg').2.2
 rw [h5] at hg'; cases hg'; exact .inr (Nat.le_refl _)
theorem Wc {M : Nat → Prop} {H : FH} {w : World} (hon : On H w) (o : Obj) : St M H w H (w.alloc o) :=
 Y4 (row := none) hon (World.grownBy_alloc w o none) fun g h => by cases h
theorem Qoh {H : FH} {w : World} (hon : On H w) : H w.heap.size = none := by
 cases e : H w.heap.size with
 | none => rfl
 | some o => have := hon.lt e; omega
theorem Kp {J : It} {M : Nat → Prop} {H : FH} {w w' : World} (hp : J.p w' H) (hb : J.blk = none ∨ J.blk = some w.heap.size) (hs : w.heap.size < w'.heap.size) (hon : On H w) : Xu (fun g => M g ∨ w.heap.size ≤ g) w' H [J] where
 all := fun i hi => by rw [List.mem_singleton.1 hi]; exact hp
 nodup := by
  unfold X8
  rcases hb with hb | hb
  · rw [List.filterMap_cons_none hb]; exact List.nodup_nil
  rw [List.filterMap_cons_some hb]; simp
 own := fun g hg => by
  obtain ⟨it, hit, h1⟩ := List.mem_filterMap.1 hg
  rw [List.mem_singleton.1 hit] at h1
  rcases hb with hb | hb
  · rw [hb] at h1; cases h1
  rw [hb] at h1; cases h1; exact ⟨hs, Qoh hon, .inr (Nat.le_refl _)⟩
theorem Ua {g : Nat} : ¬ g ∈ X8 [] := fun h => by simp [X8] at h
theorem Xf {t : TypeId} {v : α} (hx : OT C.N Γ x (d.T v)) : Yp C Γ L ⟨dst, .box t x, ty, pos, after, guard⟩ [] Nat (fun g => IsV (pt g 0)) (fun g => [Qb g t d v]) (fun _ => True) := by
 intro a w H f s ow Q K hK
 obtain ⟨cs, h1, h2⟩ := d.ofT (hx a H f)
 have hcells : (mkV d.agg cs).cells = cs.toArray := by
  unfold mkV
  cases hag : d.agg with
  | true => simp [Value.cells]
  | false =>
   have hl : cs.length = 1 := by rw [d.len h1, d.szone hag]
   match cs, hl with
   | [u], _ =>
    have := d.one h1 u (by simp)
    cases u <;> simp_all [Value.cells, Value.oneCell']
 have hrun : (execOp a.eval ⟨dst, .box t x, ty, pos, after, guard⟩).run C.P w = .ok (.value (pt w.heap.size 0)) (w.alloc (.cells cs.toArray t (0, 0))) := by
  simp [execOp, Instr.box, newVar, newRow, h2, hcells, pt]
 simp only [Oper.wp, hrun, Oper.upon_value]
 exact hK w.heap.size _ _ H trivial (Wc s.on _) rfl (Kp (J := Qb w.heap.size t d v) ⟨cs, h1, heap_alloc_new w _⟩ (.inr rfl) (by simp) s.on)
def Xw (P : Program) (t : TypeId) (d : Kd α) (v : α) : Prop := ∃ z, (P.info? t).bind (·.zero) = some z ∧ ∀ H, (d.T v).p H z
theorem Kq {P : Program} {t : TypeId} {v : α} {w : World} (h : Xw P t d v) : ∃ z, (zeroValue t).run P w = .ok z w ∧ ∀ H, (d.T v).p H z := by
 obtain ⟨z, h1, h2⟩ := h
 cases hi : P.info? t with
 | none => rw [hi] at h1; cases h1
 | some i =>
  rw [hi] at h1
  have h3 : i.zero = some z := h1
  exact ⟨z, by simp [zeroValue, typeInfo, hi, h3], h2⟩
theorem Ke {H : FH} {v : α} {u : Value} (h : (d.T v).p H u) : ∃ cs, d.K H v cs ∧ u = mkV d.agg cs ∧ u.cells = cs.toArray := by
 obtain ⟨cs, h1, h2⟩ := d.ofT h
 refine ⟨cs, h1, h2, ?_⟩
 rw [h2]; unfold mkV
 cases hag : d.agg with
 | true => simp [Value.cells]
 | false =>
  have hl : cs.length = 1 := by rw [d.len h1, d.szone hag]
  match cs, hl with
  | [u], _ =>
   have := d.one h1 u (by simp)
   cases u <;> simp_all [Value.cells, Value.oneCell']
theorem Qz {t : TypeId} {v : α} (hz : Xw C.P t d v) : Yp C Γ L ⟨dst, .alloc t, ty, pos, after, guard⟩ [] Nat (fun g => IsV (pt g 0)) (fun g => [Qb g t d v]) (fun _ => True) := by
 intro a w H f s ow Q K hK
 obtain ⟨z, h1, h2⟩ := Kq (w := w) hz
 obtain ⟨cs, h3, _, h4⟩ := Ke (h2 H)
 have hrun : (execOp a.eval ⟨dst, .alloc t, ty, pos, after, guard⟩).run C.P w = .ok (.value (pt w.heap.size 0)) (w.alloc (.cells cs.toArray t (0, 0))) := by
  simp [execOp, Instr.alloc, newVar, newRow, h1, h4, pt]
 simp only [Oper.wp, hrun, Oper.upon_value]
 exact hK w.heap.size _ _ H trivial (Wc s.on _) rfl (Kp (J := Qb w.heap.size t d v) ⟨cs, h3, heap_alloc_new w _⟩ (.inr rfl) (by simp) s.on)
theorem Qci {M : Nat → Prop} {H : FH} {w : World} {g : Nat} (hon : On H w) (hH : H g = none) (hM : M g) (cs : Array Value) : St M H w H (w.setRow g cs) := by
 refine Y4 (row := some g) hon ⟨rfl, rfl, rfl, by simp, fun k hk hne => ?_⟩ fun k hk => by cases hk; exact ⟨hH, hM⟩
 have : k ≠ g := fun e => hne (by rw [e])
 simp [World.setRow, Array.getElem?_modify, Ne.symm this]
theorem Qd1 {P : Program} {w : World} {t : TypeId} {agg : Bool} {g off : Nat} {cur : Array Value} {el : TypeId} {v : Value} {cs : List Value} (ht : Xy P t agg cs.length = true) (hc : v.cells = cs.toArray) (h1 : ∀ u ∈ cs, u.oneCell' = true) (hb : w.heap[g]? = some (.cells cur el (0, 0))) (hl : off + cs.length ≤ cur.size) :
 (storeVar t ⟨g, off, none⟩ v).run P w = .ok () (w.setRow g (cur.toList.take off ++ cs ++ cur.toList.drop (off + cs.length)).toArray) := by
 have := run_storeCells_at (P := P) g off el cs 0 cur w hb (by omega) h1
 simp only [Nat.add_zero] at this
 simp [storeVar, run_sizeOf ht, hc, this]
theorem Yd {t t' : TypeId} {b : Nat} {v : α} {off : Nat} {g u : β} {set : β → α} (hx : OT C.N Γ x (IsV (pt b off))) (hy : OT C.N Γ y (e.T u)) (hp : List.Perm L (Qb b t' d v :: R)) (hl : Qf d e off v g set) (ht : Xy C.P t e.agg e.sz = true) :
 Yp C Γ L ⟨dst, .store t x y, ty, pos, after, guard⟩ [Qb b t' d v] Unit (fun _ => Yu) (fun _ => [Qb b t' d (set u)]) (fun _ => True) := by
 intro a w H f s ow Q K hK
 have hv : a.eval x = pt b off := hx a H f
 obtain ⟨es, h1, h2, h3⟩ := Ke (hy a H f)
 have o' := ow.perm hp
 obtain ⟨cs, h4, hb⟩ := o'.all _ List.mem_cons_self
 have hown := o'.own b (Xn (i := Qb b t' d v) List.mem_cons_self rfl)
 have hle := e.len h1
 have hfit := hl.fit
 have hdl := d.len h4
 have hst := Qd1 (P := C.P) (w := w) (t := t) (agg := e.agg) (g := b) (off := off) (el := t') (cs := es) (by rw [hle]; exact ht) h3 (e.one h1) hb (by simp; omega)
 have hrun : (execOp a.eval ⟨dst, .store t x y, ty, pos, after, guard⟩).run C.P w = .ok .skip (w.setRow b (cs.take off ++ es ++ cs.drop (off + e.sz)).toArray) := by
  rw [hle] at hst
  simp only [execOp, Instr.storeAt, Instr.sureAddr, hv, pt, Sem.run_bind, Sem.run_pure, Result.andThen_ok, List.toList_toArray] at hst ⊢
  rw [hst]; rfl
 simp only [Oper.wp, hrun, Oper.upon_skip]
 have hput := hl.put h4 h1
 have hmem : b ∈ X8 [Qb b t' d v] := Xn (i := Qb b t' d v) List.mem_cons_self rfl
 refine hK () _ _ H trivial (Qci s.on hown.2.1 hmem _) trivial ⟨?_, by simp [X8, Qb], ?_⟩
 · intro it hit
   rw [List.mem_singleton.1 hit]
   exact ⟨_, hput, setRow_heap w b _ _ t' _ hb⟩
 intro g' hg'
 have : g' = b := by simpa [X8, Qb] using hg'
 subst this
 exact ⟨by simpa using hown.1, hown.2.1, .inl hmem⟩
theorem Qbq {t t' : TypeId} {b : Nat} {v u : α} (hx : OT C.N Γ x (IsV (pt b 0))) (hy : OT C.N Γ y (d.T u)) (hp : List.Perm L (Qb b t' d v :: R)) (ht : Xy C.P t d.agg d.sz = true) :
 Yp C Γ L ⟨dst, .store t x y, ty, pos, after, guard⟩ [Qb b t' d v] Unit (fun _ => Yu) (fun _ => [Qb b t' d u]) (fun _ => True) := Yd hx hy hp Qf.self ht
theorem Qg7 {t t' : TypeId} {v : Value} {xs : List α} {i off : Nat} {el : α} {g u : β} {set : β → α} (hx : OT C.N Γ x (IsV (Qbp v (i * d.sz + off)))) (hy : OT C.N Γ y (e.T u)) (hp : List.Perm L (Qh t' d v xs :: R)) (hi : xs[i]? = some el) (hl : Qf d e off el g set) (ht : Xy C.P t e.agg e.sz = true) :
 Yp C Γ L ⟨dst, .store t x y, ty, pos, after, guard⟩ [Qh t' d v xs] Unit (fun _ => Yu) (fun _ => [Qh t' d v (xs.set i (set u))]) (fun _ => True) := by
 intro a w H f s ow Q K hK
 obtain ⟨es, h1, h2, h3⟩ := Ke (hy a H f)
 have o' := ow.perm hp
 have hlt : i < xs.length := (List.getElem?_eq_some_iff.1 hi).1
 obtain ⟨b, cap, cur, cs, rfl, hb, hR, hS, hcs, hcap, hcm, hcc⟩ := Kh (o'.all _ List.mem_cons_self) (by omega)
 have hv := hx a H f
 simp only [IsV, Qbp] at hv
 have hown := o'.own b (Xn (i := Qh t' d (.slice (some ⟨b, 0, none⟩) xs.length cap) xs) List.mem_cons_self rfl)
 have hle := e.len h1
 have hfit := hl.fit
 have hle1 : i * d.sz + d.sz ≤ xs.length * d.sz := by rw [← Nat.succ_mul]; exact Nat.mul_le_mul_right _ hlt
 have hle2 : xs.length * d.sz ≤ cap * d.sz := Nat.mul_le_mul_right _ hcap
 have hst := Qd1 (P := C.P) (w := w) (t := t) (agg := e.agg) (g := b) (off := i * d.sz + off) (el := t') (cs := es) (by rw [hle]; exact ht) h3 (e.one h1) hb (by omega)
 rw [hle] at hst
 have hrun : (execOp a.eval ⟨dst, .store t x y, ty, pos, after, guard⟩).run C.P w = .ok .skip (w.setRow b (cur.toList.take (i * d.sz + off) ++ es ++ cur.toList.drop (i * d.sz + off + e.sz)).toArray) := by
  simp only [execOp, Instr.storeAt, Instr.sureAddr, hv, Sem.run_bind, Sem.run_pure, Result.andThen_ok] at hst ⊢
  rw [hst]; rfl
 simp only [Oper.wp, hrun, Oper.upon_skip]
 have hk := hR.2 i el hi
 have hput := hR.set i hlt (hl.put hk h1)
 have hmem : b ∈ X8 [Qh t' d (.slice (some ⟨b, 0, none⟩) xs.length cap) xs] := Xn (i := Qh t' d (.slice (some ⟨b, 0, none⟩) xs.length cap) xs) List.mem_cons_self rfl
 refine hK () _ _ H trivial (Qci s.on hown.2.1 hmem _) trivial ⟨?_, by simp [X8, Qh, Value.ownBlock], ?_⟩
 · intro it hit
   rw [List.mem_singleton.1 hit]
   refine ⟨_, ⟨?_, .inr ⟨b, cap, _, ?_, Nat.zero_le _, setRow_heap w b _ _ t' _ hb, ?_, hcm, ?_, rfl⟩⟩, ?_⟩
   · simp only [List.length_set, List.length_take, List.toList_toArray]
     rw [Nat.min_eq_left]
     simp only [List.length_append, List.length_take, List.length_drop, Array.length_toList, hle]
     omega
   · rw [List.length_set]
   · rw [List.length_set]; exact hcap
   · simp only [List.size_toArray, List.length_append, List.length_take, List.length_drop, Array.length_toList, hle]
     omega
   rw [List.length_set]
   have e1 : (cur.toList.take (i * d.sz + off) ++ es ++ cur.toList.drop (i * d.sz + off + e.sz)).toArray.toList.take (xs.length * d.sz) =
    cs.take (i * d.sz) ++ (((cs.drop (i * d.sz)).take d.sz).take off ++ es ++ ((cs.drop (i * d.sz)).take d.sz).drop (off + e.sz)) ++ cs.drop (i * d.sz + d.sz) := by
    rw [hcc]
    apply List.ext_getElem?
    intro j
    have hcl : cur.toList.length = cap * d.sz := by simpa using hcs
    simp only [List.toList_toArray, List.getElem?_take, List.getElem?_append, List.getElem?_drop, List.length_append, List.length_take, List.length_drop, hcl, hle]
    have m1 : min (i * d.sz + off) (cap * d.sz) = i * d.sz + off := by omega
    have m2 : min (xs.length * d.sz) (cap * d.sz) = xs.length * d.sz := by omega
    have m3 : min (i * d.sz) (xs.length * d.sz) = i * d.sz := by omega
    have m4 : min d.sz (xs.length * d.sz - i * d.sz) = d.sz := by omega
    have m5 : min off d.sz = off := by omega
    simp only [m1, m2, m3, m4, m5]
    by_cases c1 : j < i * d.sz
    · simp [c1, show j < xs.length * d.sz from by omega, show j < i * d.sz + off + e.sz from by omega, show j < i * d.sz + off from by omega, show j < i * d.sz + (off + e.sz + (d.sz - (off + e.sz))) from by omega]
    by_cases c2 : j < i * d.sz + off
    · simp [c1, c2, show j < xs.length * d.sz from by omega, show j < i * d.sz + off + e.sz from by omega, show j < i * d.sz + (off + e.sz + (d.sz - (off + e.sz))) from by omega, show j - i * d.sz < off + e.sz from by omega, show j - i * d.sz < off from by omega, show j - i * d.sz < d.sz from by omega, show i * d.sz + (j - i * d.sz) = j from by omega]
    by_cases c3 : j < i * d.sz + off + e.sz
    · simp [c1, c2, c3, show j < xs.length * d.sz from by omega, show j < i * d.sz + (off + e.sz + (d.sz - (off + e.sz))) from by omega, show j - i * d.sz < off + e.sz from by omega, show ¬ j - i * d.sz < off from by omega, show j - (i * d.sz + off) = j - i * d.sz - off from by omega]
    by_cases c4 : j < i * d.sz + d.sz
    · simp [c1, c2, c3, show j < xs.length * d.sz from by omega, show j < i * d.sz + (off + e.sz + (d.sz - (off + e.sz))) from by omega, show ¬ j - i * d.sz < off + e.sz from by omega, show i * d.sz + off + e.sz + (j - (i * d.sz + off + e.sz)) = j from by omega, show off + e.sz + (j - i * d.sz - (off + e.sz)) < d.sz from by omega, show i * d.sz + (off + e.sz + (j - i * d.sz - (off + e.sz))) = j from by omega]
    by_cases c5 : j < xs.length * d.sz
    · simp [c1, c2, c3, c5, show ¬ j < i * d.sz + (off + e.sz + (d.sz - (off + e.sz))) from by omega, show i * d.sz + off + e.sz + (j - (i * d.sz + off + e.sz)) = j from by omega, show i * d.sz + d.sz + (j - (i * d.sz + (off + e.sz + (d.sz - (off + e.sz))))) = j from by omega]
    simp [c1, c2, c3, c5, show ¬ j < i * d.sz + (off + e.sz + (d.sz - (off + e.sz))) from by omega, show ¬ i * d.sz + d.sz + (j - (i * d.sz + (off + e.sz + (d.sz - (off + e.sz))))) < xs.length * d.sz from by omega]
   rw [e1]; exact hput
 intro g' hg'
 have : g' = b := by simpa [X8, Qh, Value.ownBlock] using hg'
 subst this
 exact ⟨by simpa using hown.1, hown.2.1, .inl hmem⟩
theorem Kv {t t' : TypeId} {v : Value} {xs : List α} {i : Int} {u : α} (hx : OT C.N Γ x (IsV (Qbp v (i.toNat * d.sz)))) (hy : OT C.N Γ y (d.T u)) (hp : List.Perm L (Qh t' d v xs :: R)) (h0 : 0 ≤ i) (h1 : i < xs.length) (ht : Xy C.P t d.agg d.sz = true) :
 Yp C Γ L ⟨dst, .store t x y, ty, pos, after, guard⟩ [Qh t' d v xs] Unit (fun _ => Yu) (fun _ => [Qh t' d v (xs.set i.toNat u)]) (fun _ => True) :=
 Qg7 (off := 0) hx hy hp (List.getElem?_eq_getElem (by omega)) Qf.self ht
end
end Go.Gw
namespace Go.Gw
open Go
theorem Qf5 : ∀ (vs : List Value) (off k : Nat) (cells : Array Value), off + k + vs.length ≤ cells.size →
 ((vs.zipIdx k).foldl (fun cs (p : Value × Nat) => cs.setIfInBounds (off + p.2) p.1) cells).toList = cells.toList.take (off + k) ++ vs ++ cells.toList.drop (off + k + vs.length)
 | [], off, k, cells, h => by simp
 | v :: vs, off, k, cells, h => by
  simp only [List.length_cons] at h
  rw [List.zipIdx_cons, List.foldl_cons, Qf5 vs off (k + 1) _ (by simp; omega)]
  simp only [Array.toList_setIfInBounds, List.length_cons]
  apply List.ext_getElem?
  intro j
  have hcl : cells.toList.length = cells.size := by simp
  simp only [List.getElem?_append, List.getElem?_take, List.getElem?_drop, List.getElem?_set, List.length_append, List.length_take, List.length_set, List.length_cons, hcl]
  have m1 : min (off + (k + 1)) cells.size = off + k + 1 := by omega
  have m2 : min (off + k) cells.size = off + k := by omega
  simp only [m1, m2]
  by_cases c1 : j < off + k
  · simp [c1, show j < off + (k + 1) from by omega, show j < off + k + 1 from by omega, show ¬ off + k = j from by omega, show j < off + k + 1 + vs.length from by omega, show j < off + k + (vs.length + 1) from by omega]
  by_cases c2 : j = off + k
  · subst c2
    simp [show off + k < off + (k + 1) from by omega, show off + k < cells.size from by omega, show off + k < off + k + 1 + vs.length from by omega, show off + k < off + k + (vs.length + 1) from by omega]
  by_cases c3 : j < off + k + 1 + vs.length
  · have e1 : j - (off + k) = (j - (off + k + 1)) + 1 := by omega
    simp [c1, c3, show ¬ j < off + k + 1 from by omega, show j < off + k + (vs.length + 1) from by omega, e1]
  simp [c1, c3, show ¬ j < off + k + 1 from by omega, show ¬ j < off + k + (vs.length + 1) from by omega]
  by_cases c4 : off + (k + 1) + vs.length + (j - (off + k + 1 + vs.length)) < cells.size
  · simp [show ¬ off + k = off + (k + 1) + vs.length + (j - (off + k + 1 + vs.length)) from by omega, show off + k + (vs.length + 1) + (j - (off + k + (vs.length + 1))) = off + (k + 1) + vs.length + (j - (off + k + 1 + vs.length)) from by omega]
  simp [show ¬ off + k = off + (k + 1) + vs.length + (j - (off + k + 1 + vs.length)) from by omega, show off + k + (vs.length + 1) + (j - (off + k + (vs.length + 1))) = off + (k + 1) + vs.length + (j - (off + k + 1 + vs.length)) from by omega]
theorem Qki (es : List Value) : es.toArray.zipIdx = es.zipIdx.toArray := by
 apply Array.ext_getElem?
 intro i
 simp
section
variable {C : Cx} {Γ : Env} {L R : List It} {Q : Exit → Act → World → Prop} {ops : Array Oper} {rest : List Oper}
variable {dst : Option Tmp} {ty : TypeId} {pos : String} {after : Array Edge} {guard : Option (Nat × Bool)} {x y z : Operand}
variable {α β : Type} {d : Kd α} {e : Kd β}
def Qbf (N : Nat) (Γ : Env) (d : Kd α) (place : Nat → Option (Nat × Nat)) : α → List (Nat × Operand) → α → Prop
 | x, [], y => x = y
 | x, (i, p) :: parts, y => ∃ (β : Type) (e : Kd β) (off : Nat) (g : β) (set : β → α) (u : β), place i = some (off, e.sz) ∧ Qf d e off x g set ∧ OT N Γ p (e.T u) ∧ Qbf N Γ d place (set u) parts y
theorem Qc {N : Nat} {place : Nat → Option (Nat × Nat)} {v : α} : Qbf N Γ d place v [] v := rfl
theorem Qk {N : Nat} {place : Nat → Option (Nat × Nat)} {v w : α} {i off : Nat} {p : Operand} {parts : List (Nat × Operand)} {g u : β} {set : β → α} (hp : place i = some (off, e.sz)) (hl : Qf d e off v g set) (ho : OT N Γ p (e.T u)) (h : Qbf N Γ d place (set u) parts w) : Qbf N Γ d place v ((i, p) :: parts) w := ⟨β, e, off, g, set, u, hp, hl, ho, h⟩
theorem Qcj {N : Nat} {place : Nat → Option (Nat × Nat)} {H : FH} {a : Act} (f : Fits N Γ H a) : ∀ {parts : List (Nat × Operand)} {v w : α} {cells : Array Value}, Qbf N Γ d place v parts w → d.K H v cells.toList → ∃ cells', Instr.fill place cells (parts.map fun p => (p.1, a.eval p.2)) = some cells' ∧ d.K H w cells'.toList
 | [], v, w, cells, h, hk => by cases h; exact ⟨cells, rfl, hk⟩
 | (i, p) :: parts, v, w, cells, ⟨β, e, off, g, set, u, hp, hl, ho, h⟩, hk => by
  obtain ⟨es, h1, h2, h3⟩ := Ke (ho a H f)
  have hle := e.len h1
  have hfit := hl.fit
  have hdl := d.len hk
  have hput := hl.put hk h1
  have hcs : cells.size = d.sz := by simpa using hdl
  have hfold : ((a.eval p).cells.zipIdx.foldl (fun cs (q : Value × Nat) => cs.setIfInBounds (off + q.2) q.1) cells).toList = cells.toList.take off ++ es ++ cells.toList.drop (off + e.sz) := by
   have := Qf5 es off 0 cells (by omega)
   simp only [Nat.add_zero] at this
   rw [h3, ← hle, ← this, Qki, ← Array.foldl_toList]
  obtain ⟨cells', h4, h5⟩ := Qcj f (cells := (a.eval p).cells.zipIdx.foldl (fun cs (q : Value × Nat) => cs.setIfInBounds (off + q.2) q.1) cells) h (by rw [hfold]; exact hput)
  refine ⟨cells', ?_, h5⟩
  have hc : (a.eval p).cells.size = e.sz := by rw [h3]; simpa using hle
  simp only [List.map_cons, Instr.fill, hp, hc]
  rw [if_neg (by simp; omega)]
  exact h4
def placesOf (P : Program) (t : TypeId) : Option (List (Nat × Nat)) := match P.underlying t with
 | some (.struct fs) => fs.toList.mapM fun f => (P.info? f.type).map fun i => (f.offset, i.size)
 | _ => none
theorem run_places {P : Program} {w : World} : ∀ (fs : List Field) (ps : List (Nat × Nat)), fs.mapM (fun f => (P.info? f.type).map fun i => (f.offset, i.size)) = some ps → (fs.mapM fun f => do pure (f.offset, ← sizeOf f.type) : Sem (List (Nat × Nat))).run P w = .ok ps w
 | [], ps, h => by simp at h; subst h; simp
 | f :: fs, ps, h => by
  simp only [List.mapM_cons, Option.bind_eq_bind, Option.pure_def] at h
  cases hi : P.info? f.type with
  | none => rw [hi] at h; simp at h
  | some i =>
   rw [hi] at h
   cases hm : fs.mapM (fun f => (P.info? f.type).map fun i => (f.offset, i.size)) with
   | none => rw [hm] at h; simp at h
   | some qs =>
    rw [hm] at h
    simp at h
    subst h
    have ih := run_places (w := w) fs qs hm
    simp [List.mapM_cons, sizeOf, typeInfo, hi] at ih ⊢
    simp [ih]
theorem Zb {t : TypeId} {ps : List (Nat × Nat)} {v0 v : α} {parts : List (Nat × Operand)} (hz : Xw C.P t d v0) (hp : placesOf C.P t = some ps) (hagg : d.agg = true) (hf : Qbf C.N Γ d (ps.toArray[·]?) v0 parts v) :
 Pure C Γ L ⟨dst, .build t parts.toArray, ty, pos, after, guard⟩ (d.T v) := fun a w H f s ow => by
 obtain ⟨zv, h1, h2⟩ := Kq (w := w) hz
 obtain ⟨cs, h3, _, h4⟩ := Ke (h2 H)
 obtain ⟨cells', h5, h6⟩ := Qcj f (cells := cs.toArray) hf h3
 have h7 := d.toT h6
 rw [hagg] at h7
 refine ⟨.agg cells', ?_, by simpa [mkV] using h7⟩
 unfold placesOf at hp
 cases hu : C.P.underlying t with
 | none => rw [hu] at hp; cases hp
 | some D =>
  rw [hu] at hp
  cases D with
  | struct fs =>
   have hr := run_places (P := C.P) (w := w) fs.toList ps hp
   have hr' : (fs.mapM fun f => do pure (f.offset, ← sizeOf f.type) : Sem (Array (Nat × Nat))).run C.P w = .ok ps.toArray w := by
    rw [Array.mapM_eq_mapM_toList]
    simp only [Sem.run_map, hr, Result.andThen_ok]
   have h5' : Instr.fill (fun i => ps.toArray[i]?) cs.toArray ((parts.toArray.map fun p => (p.1, a.eval p.2)).toList) = some cells' := by simpa using h5
   simp only [execOp, Instr.build, Sem.run_bind, h1, Result.andThen_ok, run_underlying hu, hr', h4, h5']
   simp
  | _ => cases hp
theorem Qv {N n i : Nat} {place : Nat → Option (Nat × Nat)} {xs zs : List α} {p : Operand} {parts : List (Nat × Operand)} {el u : α} (hp : place i = some (i * d.sz, d.sz)) (hi : xs[i]? = some el) (hn : i < n) (ho : OT N Γ p (d.T u)) (h : Qbf N Γ (Qdx n d) place (xs.set i u) parts zs) : Qbf N Γ (Qdx n d) place xs ((i, p) :: parts) zs :=
 Qk hp (Qf.at_ i hi hn) ho h
theorem Qff {P : Program} {t : TypeId} {v0 : α} (hz : Xw P t d v0) (hs : Xy P t d.agg d.sz = true) (hd : 0 < d.sz) (n : Nat) (w : World) (H : FH) : ∃ zv, (zeroValue t).run P w = .ok zv w ∧ Ja d H (List.replicate n v0) (((Array.range (n * d.sz)).map (zv.cells[· % zv.cells.size]!)).toList) := by
 obtain ⟨zv, h1, h2⟩ := Kq (w := w) hz
 obtain ⟨cs, h3, _, h4⟩ := Ke (h2 H)
 refine ⟨zv, h1, by simp, fun j x e => ?_⟩
 have hx : x = v0 := by
  rw [List.getElem?_replicate] at e
  split at e <;> simp_all
 have hj : j < n := by
  have := (List.getElem?_eq_some_iff.1 e).1
  simpa using this
 subst hx
 have hl := d.len h3
 have : ((((Array.range (n * d.sz)).map (zv.cells[· % zv.cells.size]!)).toList.drop (j * d.sz)).take d.sz) = cs := by
  apply List.ext_getElem?
  intro i
  rw [h4]
  by_cases hi : i < d.sz
  · have hlt : j * d.sz + i < n * d.sz := by
     have : j * d.sz + d.sz ≤ n * d.sz := by rw [← Nat.succ_mul]; exact Nat.mul_le_mul_right _ hj
     omega
    have hic : i < cs.length := by omega
    have hmod : (j * d.sz + i) % cs.length = i := by rw [hl, Nat.mul_comm, Nat.mul_add_mod]; exact Nat.mod_eq_of_lt hi
    simp [List.getElem?_take, hi, List.getElem?_drop, hlt, hmod, hic]
  rw [List.getElem?_eq_none (by simp; omega), List.getElem?_eq_none (by omega)]
 rw [this]; exact h3
theorem Qbr {P : Program} {w : World} {H : FH} {N : Nat} {a : Act} (f : Fits N Γ H a) {t el : TypeId} {n bytes : Nat} {v0 : α} {xs : List α} {parts : List (Nat × Operand)} (ht : Uq P t el d.sz bytes = true) (he : Xy P el d.agg d.sz = true) (hz : Xw P el d v0) (hn : n * d.sz ≤ 16777216)
 (hf : Qbf N Γ (Qdx n d) (fun i => some (i * d.sz, d.sz)) (List.replicate n v0) parts xs) :
 ∃ cells, (Instr.buildSlice t n (parts.toArray.map fun p => (p.1, a.eval p.2))).run P w = .ok (.slice (some ⟨w.heap.size, 0, none⟩) n n) (w.alloc (.cells cells el (0, 0))) ∧ xs.length = n ∧ Ja d H xs cells.toList := by
 obtain ⟨hu, i, z, hi, hzz, hsz, hby, hzs, hpos⟩ := Qch ht
 obtain ⟨zv, h1, h2⟩ := Qff hz he hpos n w H
 obtain ⟨cells', h5, h6⟩ := Qcj f (cells := (Array.range (n * d.sz)).map (zv.cells[· % zv.cells.size]!)) hf ⟨by simp, h2⟩
 refine ⟨cells', ?_, h6.1, h6.2⟩
 have h5' : Instr.fill (fun i => some (i * d.sz, d.sz)) ((Array.range (n * d.sz)).map (zv.cells[· % zv.cells.size]!)) ((parts.toArray.map fun p => (p.1, a.eval p.2)).toList) = some cells' := by simpa using h5
 have hbig : ¬ n * d.sz > 2 ^ 24 := by omega
 by_cases h0 : n * d.sz = 0
 · have h5'' : Instr.fill (fun i => some (i * d.sz, d.sz)) ((Array.range (n * d.sz)).map ((#[] : Array Value)[· % (#[] : Array Value).size]!)) ((parts.toArray.map fun p => (p.1, a.eval p.2)).toList) = some cells' := by
    rw [h0] at h5' ⊢
    have e0 : Array.range 0 = (#[] : Array Nat) := rfl
    rw [e0] at h5' ⊢; simpa using h5'
   simp only [Instr.buildSlice, Sem.run_bind, run_underlying hu, Result.andThen_ok, run_sizeOf he, if_neg hbig, if_pos h0, Sem.run_pure, h5'']
   simp [newRow]
 simp only [Instr.buildSlice, Sem.run_bind, run_underlying hu, Result.andThen_ok, run_sizeOf he, if_neg hbig, if_neg h0, h1, Sem.run_pure, h5']
 simp [newRow]
theorem Jf {t el : TypeId} {n bytes : Nat} {v0 : α} {xs : List α} {parts : List (Nat × Operand)} (ht : Uq C.P t el d.sz bytes = true) (he : Xy C.P el d.agg d.sz = true) (hz : Xw C.P el d v0) (hn : n * d.sz ≤ 16777216) (hnn : n ≤ 16777216)
 (hf : Qbf C.N Γ (Qdx n d) (fun i => some (i * d.sz, d.sz)) (List.replicate n v0) parts xs) :
 Yp C Γ L ⟨dst, .buildSlice t n parts.toArray, ty, pos, after, guard⟩ [] Value (fun r => IsV r) (fun r => [Qh el d r xs]) (fun _ => True) := by
 intro a w H f s ow Q K hK
 obtain ⟨cells, h1, h2, h3⟩ := Qbr (w := w) f ht he hz hn hf
 have hrun : (execOp a.eval ⟨dst, .buildSlice t n parts.toArray, ty, pos, after, guard⟩).run C.P w = .ok (.value (.slice (some ⟨w.heap.size, 0, none⟩) n n)) (w.alloc (.cells cells el (0, 0))) := by
  simp only [execOp, Sem.run_bind, h1, Result.andThen_ok]; rfl
 simp only [Oper.wp, hrun, Oper.upon_value]
 refine hK (.slice (some ⟨w.heap.size, 0, none⟩) n n) _ _ H trivial (Wc s.on _) rfl (Kp (J := Qh el d (.slice (some ⟨w.heap.size, 0, none⟩) n n) xs) ⟨cells.toList, ⟨?_, .inr ⟨w.heap.size, n, cells, by rw [h2], Nat.zero_le _, heap_alloc_new w _, by omega, by unfold maxLen; omega, ?_, ?_⟩⟩, h3⟩ (.inr rfl) (by simp) s.on)
 · rw [h3.1]
 · have := h3.1; simpa [h2] using this
 rw [h2, List.take_of_length_le (by have := h3.1; rw [h2] at this; omega)]
theorem Q7 {t el : TypeId} {n bytes : Nat} {v0 : α} {xs : List α} {parts : List (Nat × Operand)} (ht : Uq C.P t el d.sz bytes = true) (he : Xy C.P el d.agg d.sz = true) (hz : Xw C.P el d v0) (hn : n * d.sz ≤ 16777216) (hnn : n ≤ 16777216)
 (hf : Qbf C.N Γ (Qdx n d) (fun i => some (i * d.sz, d.sz)) (List.replicate n v0) parts xs) :
 Yp C Γ L ⟨dst, .buildSlice t n parts.toArray, ty, pos, after, guard⟩ [] Unit (fun _ => SlT d xs) (fun _ => []) (fun _ => True) := by
 intro a w H f s ow Q K hK
 obtain ⟨cells, h1, h2, h3⟩ := Qbr (w := w) f ht he hz hn hf
 have hrun : (execOp a.eval ⟨dst, .buildSlice t n parts.toArray, ty, pos, after, guard⟩).run C.P w = .ok (.value (.slice (some ⟨w.heap.size, 0, none⟩) n n)) (w.alloc (.cells cells el (0, 0))) := by
  simp only [execOp, Sem.run_bind, h1, Result.andThen_ok]; rfl
 simp only [Oper.wp, hrun, Oper.upon_value]
 have hnew := Qoh s.on
 have hsub : Sub H (Up H w.heap.size (.cells cells el (0, 0))) := V9 hnew
 have s' := Wc (M := fun g => g ∈ X8 []) s.on (.cells cells el (0, 0))
 refine hK () _ _ (Up H w.heap.size (.cells cells el (0, 0))) trivial ⟨hsub, Qdy s'.on (heap_alloc_new w _), s'.os, s'.tape, s'.output, s'.size, s'.keep, fun k o e => ?_⟩ ⟨some ⟨w.heap.size, 0, none⟩, n, by rw [h2], by omega, by rw [h2]; unfold maxLen; omega, fun _ => ⟨⟨w.heap.size, 0, none⟩, cells, el, (0, 0), cells.toList, rfl, rfl, by simp [Up], h3.mono hsub, fun i u e => by simpa using e⟩⟩ Xu.nil
 unfold Up at e
 by_cases hk : k = w.heap.size
 · exact .inr (.inl (by omega))
 rw [if_neg hk] at e; exact .inl e
end
end Go.Gw
namespace Go.Gw
open Go
def Jx (o : Oper) : List Nat := (o.after.toList.filter fun e => Region.binds .any e).map (·.on)
def mask (acc : List Nat) (o : Oper) : Nat := (Jx o).foldr (fun e s => s ||| 2 ^ e ||| acc.getD e 0) 0
def X0 : List Oper → List Nat → List Nat
 | [], acc => acc
 | o :: os, acc => X0 os (acc ++ [mask acc o])
theorem Qar : ∀ (os : List Oper) (acc : List Nat) (k : Nat), k < acc.length → (X0 os acc)[k]? = acc[k]?
 | [], acc, k, h => rfl
 | o :: os, acc, k, h => by
  unfold X0
  rw [Qar os _ k (by simp; omega), List.getElem?_append_left h]
theorem Qoi (o : Oper) (os : List Oper) (acc : List Nat) : X0 (o :: os) acc = X0 os (acc ++ [mask acc o]) := rfl
theorem U9 (os : List Oper) : ∀ (acc : List Nat) (k : Nat) (o : Oper), os[k]? = some o → (X0 os acc)[acc.length + k]? = some (mask ((X0 os acc).take (acc.length + k)) o) := by
 induction os with
 | nil => intro acc k o h; simp at h
 | cons o' os ih =>
  intro acc k o h
  rw [Qoi]
  cases k with
  | zero =>
   have : o' = o := by simpa using h
   subst this
   rw [Nat.add_zero, Qar os _ acc.length (by simp)]
   have ht : (X0 os (acc ++ [mask acc o'])).take acc.length = acc := by
    apply List.ext_getElem?
    intro j
    rw [List.getElem?_take]
    by_cases hj : j < acc.length
    · rw [if_pos hj, Qar os _ j (by simp; omega), List.getElem?_append_left hj]
    rw [if_neg hj, List.getElem?_eq_none (by omega)]
   rw [ht]; simp
  | succ k =>
   have := ih (acc ++ [mask acc o']) k o (by simpa using h)
   simp only [List.length_append, List.length_singleton] at this
   rw [show acc.length + (k + 1) = acc.length + 1 + k from by omega]
   exact this
theorem Qaa {acc : List Nat} {o : Oper} {j : Nat} (h : (mask acc o).testBit j = true) : ∃ e ∈ Jx o, j = e ∨ (acc.getD e 0).testBit j = true := by
 unfold mask at h
 generalize Jx o = ns at h ⊢
 induction ns with
 | nil => simp at h
 | cons e ns ih =>
  simp only [List.foldr_cons, Nat.testBit_or, Bool.or_eq_true] at h
  rcases h with (h | h) | h
  · obtain ⟨e', he', h'⟩ := ih h
    exact ⟨e', List.mem_cons_of_mem _ he', h'⟩
  · rw [Nat.testBit_two_pow] at h
    exact ⟨e, List.mem_cons_self, .inl (by simpa using (of_decide_eq_true h).symm)⟩
  exact ⟨e, List.mem_cons_self, .inr h⟩
def Qas (l : List Oper) (b : Nat → Bool) : Prop := ∀ k o, l[k]? = some o → b k = true → ∀ e ∈ Jx o, b e = true
theorem Va {l : List Oper} {b : Nat → Bool} (hc : Qas l b) : ∀ (n k : Nat), k < n → k < l.length → b k = true → ∀ j, ((X0 l []).getD k 0).testBit j = true → b j = true := by
 intro n
 induction n with
 | zero => intro k h; omega
 | succ n ih =>
  intro k hk hl hb j hj
  have ho : l[k]? = some l[k] := List.getElem?_eq_getElem hl
  have hm := U9 l [] k _ ho
  simp only [List.length_nil, Nat.zero_add] at hm
  rw [List.getD_eq_getElem?_getD, hm, Option.getD_some] at hj
  obtain ⟨e, he, h⟩ := Qaa hj
  have hbe := hc k _ ho hb e he
  rcases h with rfl | h
  · exact hbe
  have hek : e < k := by
   rcases Nat.lt_or_ge e k with h1 | h1
   · exact h1
   rw [List.getD_eq_getElem?_getD, List.getElem?_take, if_neg (by omega)] at h; simp at h
  have h2 : ((X0 l []).getD e 0).testBit j = true := by
   rw [List.getD_eq_getElem?_getD, List.getElem?_take, if_pos hek] at h
   rw [List.getD_eq_getElem?_getD]; exact h
  exact ih e (by omega) (by omega) hbe j h2
theorem Ub {l : List Oper} {b : Nat → Bool} (hc : Qas l b) {k : Nat} {o : Oper} (ho : l[k]? = some o) (hr : ∀ e ∈ Jx o, b e = true) : ∀ j, ((X0 l []).getD k 0).testBit j = true → b j = true := by
 intro j hj
 have hm := U9 l [] k _ ho
 simp only [List.length_nil, Nat.zero_add] at hm
 rw [List.getD_eq_getElem?_getD, hm, Option.getD_some] at hj
 obtain ⟨e, he, h⟩ := Qaa hj
 rcases h with rfl | h
 · exact hr _ he
 have hek : e < k := by
  rcases Nat.lt_or_ge e k with h1 | h1
  · exact h1
  rw [List.getD_eq_getElem?_getD, List.getElem?_take, if_neg (by omega)] at h; simp at h
 have hkl := (List.getElem?_eq_some_iff.1 ho).1
 have h2 : ((X0 l []).getD e 0).testBit j = true := by
  rw [List.getD_eq_getElem?_getD, List.getElem?_take, if_pos hek] at h
  rw [List.getD_eq_getElem?_getD]; exact h
 exact Va hc (e + 1) e (by omega) (by omega) (hr e he) j h2
abbrev Vp := List (Nat × Option Nat)
def Z3 (l : List Oper) (k : Nat) : Option Nat := (l[k]?).bind (·.dst)
def J0 (l : List Oper) (M : List Nat) (i : Nat) : Vp → Bool
 | [] => true
 | (t, none) :: r => ((List.range l.length).all fun k => !(Z3 l k == some t) || Nat.beq k i || (M.getD k 0).testBit i) && J0 l M i r
 | (t, some j) :: r => (Z3 l j == some t) && (M.getD i 0).testBit j && J0 l M i r
def Qf6 (N : Nat) (l : List Oper) (m : Nat) (ns : List Vp) : Bool :=
 let M := X0 l []
 ((List.range l.length).all fun k => match l[k]? with
  | some o => (Jx o).all (fun e => decide (e < k)) && (o.dst.all fun d => decide (d < N)) &&
   (if k < m then J0 l M k (ns.getD k []) else (List.range k).all fun j => (M.getD k 0).testBit j)
  | none => true) &&
 decide (((l.take m).filterMap (·.dst)).Nodup) && decide (ns.length = m) && Nat.ble m l.length
def Qab (Γ : Env) (Ts : List Ty) : Vp → Env
 | [] => []
 | (t, none) :: r => (t, (find Γ t).getD Yu) :: Qab Γ Ts r
 | (t, some j) :: r => (t, Ts.getD j Yu) :: Qab Γ Ts r
def U1 (l : List Oper) (Ts : List Ty) (Γ : Env) : Env := match l, Ts with
 | o :: l, T :: Ts => U1 l Ts (upd o.dst T Γ)
 | _, _ => Γ
def ROp (C : Cx) (Γ : Env) (L : List It) (ops : Array Oper) (o : Oper) (T : Ty) : Prop :=
 ∀ a w H, Fits C.N Γ H a → St C.M C.H0 C.w0 H w → Xu C.ok w H L → ∀ (Q : Exit → Act → World → Prop) (K : Act → World → Prop),
  (∀ (v : Value) (w' : World) (H' : FH), St noM H w H' w' → T.p H' v → K (a.put o.dst v) w') → if Region.wanted o (yielded ops a.tmps) = true then o.wp C.P a w K Q else K (a.put o.dst undef) w
section
variable {C : Cx} {Γ : Env} {L : List It} {ops : Array Oper}
theorem Qul {o : Oper} {T : Ty} (hg : o.guard = none) (h : Pure C Γ L o T) : ROp C Γ L ops o T := fun a w H f s ow Q K hK => by
 obtain ⟨v, hr, hv⟩ := h a w H f s ow
 rw [if_pos (by simp [Region.wanted, hg])]
 simp only [Oper.wp, hr, Oper.upon_value]
 exact hK v w H (St.refl s.on) hv
theorem Qy3 {g : Nat} : g ∈ X8 [] ↔ noM g := by simp [X8, noM]
theorem Zc {o : Oper} {ρ : Type} {T : ρ → Ty} {I : ρ → List It} {φ : ρ → Prop} {T' : Ty} (hg : o.guard = none) (h : Yp C Γ L o [] ρ T I φ) (hT : ∀ r, φ r → ∀ H v, (T r).p H v → T'.p H v) : ROp C Γ L ops o T' := fun a w H f s ow Q K hK => by
 rw [if_pos (by simp [Region.wanted, hg])]
 exact h a w H f s ow Q K fun r v w' H' hφ s' hv _ => hK v w' H' (s'.weaken fun k hk => Qy3.1 hk) (hT r hφ H' v hv)
theorem Q2y {o : Oper} {T : Ty} {j d : Nat} {want b : Bool} {p : Prop} (hg : o.guard = some (j, want)) (hj : (ops[j]?).bind (·.dst) = some d) (hdN : decide (d < C.N) = true) (hb : OT C.N Γ (.tmp d) (GuT p (Xe b)))
 (h : p ∧ b = want → ROp C Γ L ops { o with guard := none } T) : ROp C Γ L ops o (GuT (p ∧ b = want) T) := fun a w H f s ow Q K hK => by
 have hw := Wq f hg hj hdN hb
 by_cases hc : p ∧ b = want
 · rw [if_pos (hw.2 hc)]
   have := h hc a w H f s ow Q K fun v w' H' s' hv => hK v w' H' s' ⟨fun _ => hv, fun hn => absurd hc hn⟩
   rw [if_pos (by simp [Region.wanted])] at this
   exact this
 rw [if_neg (fun e => hc (hw.1 e))]
 exact hK undef w H (St.refl s.on) ⟨fun e => absurd e hc, fun _ => rfl⟩
end
def Qoj (C : Cx) (Γ : Env) (L : List It) (ops : Array Oper) (Ts : List Ty) : List Oper → List Vp → List Ty → Prop
 | o :: l, n :: ns, T :: Us => ROp C (Qab Γ Ts n) L ops o T ∧ Qoj C Γ L ops Ts l ns Us
 | _, [], [] => True
 | _, _, _ => False
theorem Qjf {C : Cx} {Γ : Env} {L : List It} {ops : Array Oper} {Ts : List Ty} : ∀ {l : List Oper} {ns : List Vp} {Us : List Ty}, Qoj C Γ L ops Ts l ns Us → ∀ i, i < ns.length → ∃ o, l[i]? = some o ∧ ROp C (Qab Γ Ts (ns.getD i [])) L ops o (Us.getD i Yu)
 | o :: l, n :: ns, T :: Us, h, 0, _ => ⟨o, rfl, h.1⟩
 | o :: l, n :: ns, T :: Us, h, i + 1, hi => by
  obtain ⟨o', h1, h2⟩ := Qjf h.2 i (by simpa using hi)
  exact ⟨o', by simpa using h1, by simpa using h2⟩
 | [], [], [], _, i, hi => by simp at hi
 | _ :: _, [], [], _, i, hi => by simp at hi
section
variable {C : Cx} {Γ : Env} {L : List It} {Q : Exit → Act → World → Prop} {l : List Oper} {ns : List Vp} {Ts : List Ty} {m : Nat}
structure Inv (C : Cx) (Γ : Env) (L : List It) (l : List Oper) (Ts : List Ty) (m : Nat) (b : Nat → Bool) (a : Act) (w : World) (H : FH) : Prop where
 defers : a.defers = []
 size : a.tmps.size = C.N
 st : St C.M C.H0 C.w0 H w
 ow : Xu C.ok w H L
 old : ∀ t T, find Γ t = some T → (∀ k, k < l.length → Z3 l k = some t → b k = false) → T.p H (a.tmps.getD t undef)
 got : ∀ k t, k < m → b k = true → Z3 l k = some t → (Ts.getD k Yu).p H (a.tmps.getD t undef)
theorem Qbs {i : Nat} {b : Nat → Bool} {a : Act} {w : World} {H : FH} (hI : Inv C Γ L l Ts m b a w H) (him : i < m) (hlen : m ≤ l.length) (hi : b i = false) (hm : ∀ j, ((X0 l []).getD i 0).testBit j = true → b j = true) (hcl : ∀ k, k < l.length → b k = true → ∀ j, ((X0 l []).getD k 0).testBit j = true → b j = true) (hlt : ∀ j, ((X0 l []).getD i 0).testBit j = true → j < i) :
 ∀ {n : Vp}, J0 l (X0 l []) i n = true → Fits C.N (Qab Γ Ts n) H a
 | [], _ => ⟨hI.defers, hI.size, fun t T h => by cases h⟩
 | (t, none) :: r, h => by
  simp only [J0, Bool.and_eq_true] at h
  refine Yq ?_ (Qbs hI him hlen hi hm hcl hlt h.2)
  cases hf : find Γ t with
  | none => exact trivial
  | some T =>
   refine hI.old t T hf fun k hk hd => ?_
   have h1 := List.all_eq_true.1 h.1 k (List.mem_range.2 hk)
   simp only [hd, beq_self_eq_true, Bool.not_true, Bool.false_or, Bool.or_eq_true] at h1
   rcases h1 with h1 | h1
   · rw [Nat.eq_of_beq_eq_true h1]; exact hi
   cases hb : b k with
   | false => rfl
   | true => have := hcl k hk hb i h1; rw [hi] at this; cases this
 | (t, some j) :: r, h => by
  simp only [J0, Bool.and_eq_true, beq_iff_eq] at h
  refine Yq ?_ (Qbs hI him hlen hi hm hcl hlt h.2)
  exact hI.got j t (by have := hlt j h.1.2; omega) (hm j h.1.2) h.1.1
theorem Jg : ∀ (l : List Oper) (Ts : List Ty) (Γ : Env) (t : Nat) (T : Ty), l.length = Ts.length → find (U1 l Ts Γ) t = some T → (∃ k, k < l.length ∧ Z3 l k = some t ∧ T = Ts.getD k Yu) ∨ (find Γ t = some T ∧ ∀ k, k < l.length → Z3 l k ≠ some t)
 | [], [], Γ, t, T, _, h => .inr ⟨h, fun k hk => by simp at hk⟩
 | o :: l, U :: Ts, Γ, t, T, hl, h => by
  rcases Jg l Ts (upd o.dst U Γ) t T (by simpa using hl) h with ⟨k, hk, hd, hT⟩ | ⟨h1, h2⟩
  · exact .inl ⟨k + 1, by simp; omega, by simpa [Z3] using hd, by simpa using hT⟩
  cases hd : o.dst with
  | none =>
   rw [hd] at h1
   refine .inr ⟨h1, fun k hk => ?_⟩
   cases k with
   | zero => simp [Z3, hd]
   | succ k => simpa [Z3] using h2 k (by simpa using hk)
  | some d =>
   rw [hd] at h1
   simp only [upd, find] at h1
   cases hb : Nat.beq d t with
   | true =>
    rw [hb] at h1
    cases h1
    exact .inl ⟨0, by simp, by simp [Z3, hd, Nat.eq_of_beq_eq_true hb], by simp⟩
   | false =>
    rw [hb] at h1
    refine .inr ⟨h1, fun k hk => ?_⟩
    cases k with
    | zero =>
     simp only [Z3, List.getElem?_cons_zero, Option.bind_some, hd]
     intro e
     rw [Option.some.inj e, Nat.beq_refl] at hb; cases hb
    | succ k => simpa [Z3] using h2 k (by simpa using hk)
theorem Qrn {P : Program} {ops : Array Oper} {o : Oper} {rest : List Oper} {i : Nat} (ho : ops[i]? = some o) : wpList P ops Q (o :: rest) = wpOp P ops Q i (wpList P ops Q rest) := by
 funext a w
 simp [wpList, wpOp, ho]
theorem Vb {b : Array Bool} (hpos : ∀ k o, l[k]? = some o → ∀ e ∈ Jx o, e < k) (hch : ∀ k, m ≤ k → k < l.length → ∀ j, j < k → ((X0 l []).getD k 0).testBit j = true) :
 ∀ (fuel k : Nat) (listed : Array Bool) (a : Act) (w : World), m ≤ k → k ≤ l.length → listed.size = l.length → l.length - k ≤ fuel → (∀ i, i < k → listed.getD i true = true) → (∀ i, k ≤ i → i < l.length → listed.getD i true = false) →
  wpList C.P l.toArray Q (l.drop k) a w → wpAny C.P .any l.toArray Q fuel listed a w := by
 intro fuel
 induction fuel with
 | zero =>
  intro k listed a w hm hk hs hf h1 h2 h
  have : k = l.length := by omega
  subst this
  rw [List.drop_length] at h
  refine ⟨?_, h⟩
  unfold Region.ready
  rw [List.filter_eq_nil_iff]
  intro i hi
  have hi' : i < l.length := by simpa using List.mem_range.1 hi
  rw [h1 i hi']; simp
 | succ fuel ih =>
  intro k listed a w hm hk hs hf h1 h2 h
  refine ⟨fun hr => ?_, fun i hi => ?_⟩
  · rcases Nat.lt_or_ge k l.length with hlt | hge
    · exfalso
      have : k ∈ Region.ready .any l.toArray listed := by
       unfold Region.ready
       rw [List.mem_filter]
       refine ⟨by simpa using hlt, ?_⟩
       rw [h2 k (Nat.le_refl _) hlt]
       have ho : l[k]? = some l[k] := List.getElem?_eq_getElem hlt
       simp only [List.getElem?_toArray, ho, Option.map_some, Option.getD_some, Bool.not_false, Bool.true_and]
       rw [← Array.all_toList, List.all_eq_true]
       intro e he
       by_cases hb : Region.binds .any e = true
       · have hmem : e.on ∈ Jx l[k] := List.mem_map.2 ⟨e, List.mem_filter.2 ⟨he, hb⟩, rfl⟩
         have hek := hpos k _ ho _ hmem
         have h3 := h1 e.on hek
         have h4 : e.on < listed.size := by omega
         simp [Array.getD_eq_getD_getElem?, Array.getElem?_eq_getElem h4] at h3 ⊢
         simp [h3]
       simp [hb]
      rw [hr] at this; cases this
    have : k = l.length := by omega
    subst this
    rw [List.drop_length] at h
    exact h
  unfold Region.ready at hi
  rw [List.mem_filter] at hi
  obtain ⟨hi1, hi2⟩ := hi
  have hil : i < l.length := by simpa using hi1
  simp only [Bool.and_eq_true, Bool.not_eq_true'] at hi2
  have hki : k ≤ i := by
   rcases Nat.lt_or_ge i k with h3 | h3
   · rw [h1 i h3] at hi2; cases hi2.1
   exact h3
  have ho : l[i]? = some l[i] := List.getElem?_eq_getElem hil
  have hik : i = k := by
   rcases Nat.lt_or_ge k i with h3 | h3
   · exfalso
     have hr : ∀ e ∈ Jx l[i], (fun j => listed.getD j false) e = true := by
      intro e he
      obtain ⟨ed, hed, rfl⟩ := List.mem_map.1 he
      rw [List.mem_filter] at hed
      have h4 := hi2.2
      simp only [List.getElem?_toArray, ho, Option.map_some, Option.getD_some, ← Array.all_toList, List.all_eq_true] at h4
      have h5 := h4 ed hed.1
      simpa [hed.2] using h5
     have hc : Qas l (fun j => listed.getD j false) := by
      intro k' o' ho' hb' e he
      have hek := hpos k' o' ho' e he
      have hk'l := (List.getElem?_eq_some_iff.1 ho').1
      have hk' : k' < k := by
       rcases Nat.lt_or_ge k' k with h6 | h6
       · exact h6
       have h7 := h2 k' h6 hk'l
       have h8 : k' < listed.size := by omega
       simp [Array.getD_eq_getD_getElem?, Array.getElem?_eq_getElem h8] at h7 hb'
       rw [h7] at hb'; cases hb'
      have h7 := h1 e (by omega)
      have h8 : e < listed.size := by omega
      simp [Array.getD_eq_getD_getElem?, Array.getElem?_eq_getElem h8] at h7 ⊢
      exact h7
     have h9 := Ub hc ho hr k (hch i (by omega) hil k h3)
     have h10 := h2 k (Nat.le_refl _) (by omega)
     have h11 : k < listed.size := by omega
     simp [Array.getD_eq_getD_getElem?, Array.getElem?_eq_getElem h11] at h9 h10
     rw [h10] at h9; cases h9
   omega
  subst hik
  have hd : l.drop i = l[i] :: l.drop (i + 1) := List.drop_eq_getElem_cons hil
  rw [hd, Qrn (i := i) (by simp)] at h
  refine wpOp_mono (fun a w h => ?_) h
  refine ih (i + 1) _ a w (by omega) (by omega) (by simpa using hs) (by omega) (fun j hj => ?_) (fun j hj hjl => ?_) h
  · simp only [Array.getD_eq_getD_getElem?, Array.getElem?_setIfInBounds]
    by_cases hji : i = j
    · subst hji; simp [show i < listed.size from by omega]
    have := h1 j (by omega)
    simp only [Array.getD_eq_getD_getElem?] at this
    simp [hji, this]
  have := h2 j (by omega) hjl
  simp only [Array.getD_eq_getD_getElem?] at this
  simp only [Array.getD_eq_getD_getElem?, Array.getElem?_setIfInBounds]
  simp [show ¬ i = j from by omega, this]
theorem Xs {id : Nat} (hm : C.P.follows .mixedOrders = true) (hok : Qf6 C.N l m ns = true) (hT : Ts.length = m) (hops : Qoj C Γ L l.toArray Ts l ns Ts) (h : Tr C (U1 (l.take m) Ts Γ) L (wpList C.P l.toArray Q (l.drop m))) : Tr C Γ L ((Code.region id l.toArray true).wp C.P Q) := by
 simp only [Qf6, Bool.and_eq_true, decide_eq_true_eq] at hok
 obtain ⟨⟨⟨hok1, hnd⟩, hnl⟩, hml⟩ := hok
 have hml : m ≤ l.length := Nat.le_of_ble_eq_true hml
 have hrow : ∀ k o, l[k]? = some o → (∀ e ∈ Jx o, e < k) ∧ (o.dst.all fun d => decide (d < C.N)) = true ∧ (k < m → J0 l (X0 l []) k (ns.getD k []) = true) ∧ (m ≤ k → ∀ j, j < k → ((X0 l []).getD k 0).testBit j = true) := by
  intro k o ho
  have hk := (List.getElem?_eq_some_iff.1 ho).1
  have h1 := List.all_eq_true.1 hok1 k (List.mem_range.2 hk)
  rw [ho] at h1
  simp only [Bool.and_eq_true, List.all_eq_true, decide_eq_true_eq] at h1
  refine ⟨h1.1.1, h1.1.2, fun hkm => ?_, fun hkm j hj => ?_⟩
  · have h2 := h1.2; rw [if_pos hkm] at h2; exact h2
  have h2 := h1.2; rw [if_neg (by omega)] at h2; exact List.all_eq_true.1 h2 j (List.mem_range.2 hj)
 have hpos : ∀ k o, l[k]? = some o → ∀ e ∈ Jx o, e < k := fun k o ho => (hrow k o ho).1
 have hlt : ∀ i, i < l.length → ∀ j, ((X0 l []).getD i 0).testBit j = true → j < i := by
  intro i
  induction i using Nat.strongRecOn with
  | _ i ih =>
   intro hi j hj
   have ho : l[i]? = some l[i] := List.getElem?_eq_getElem hi
   have hm' := U9 l [] i _ ho
   simp only [List.length_nil, Nat.zero_add] at hm'
   rw [List.getD_eq_getElem?_getD, hm', Option.getD_some] at hj
   obtain ⟨e, he, h⟩ := Qaa hj
   have hei := hpos i _ ho e he
   rcases h with rfl | h
   · exact hei
   rw [List.getD_eq_getElem?_getD, List.getElem?_take, if_pos hei, ← List.getD_eq_getElem?_getD] at h
   have := ih e hei (by omega) j h
   omega
 intro a w H f s ow
 refine wp_region_any hm ?_
 have main : ∀ (fuel : Nat) (listed : Array Bool) (a : Act) (w : World) (H : FH), listed.size = l.length → ((List.range l.length).filter fun i => !listed.getD i true).length ≤ fuel →
  (∀ i, m ≤ i → i < l.length → listed.getD i true = false) → Qas l (fun j => listed.getD j false) → Inv C Γ L l Ts m (fun j => listed.getD j false) a w H → wpAny C.P .any l.toArray Q fuel listed a w := by
  intro fuel
  induction fuel with
  | zero =>
   intro listed a w H hs hf hsuf hc hI
   have hall : ∀ i, i < l.length → listed.getD i true = true := by
    intro i hi
    cases hb : listed.getD i true with
    | true => rfl
    | false =>
     have : i ∈ (List.range l.length).filter fun i => !listed.getD i true := List.mem_filter.2 ⟨List.mem_range.2 hi, by rw [hb]; rfl⟩
     have h0 : (List.range l.length).filter (fun i => !listed.getD i true) = [] := List.eq_nil_of_length_eq_zero (by omega)
     rw [h0] at this; cases this
   have hmn : m = l.length := by
    rcases Nat.lt_or_ge m l.length with h1 | h1
    · have h2 := hsuf m (Nat.le_refl _) h1; rw [hall m h1] at h2; cases h2
    omega
   refine Vb (m := m) (b := listed) hpos (fun k h1 h2 => (hrow k _ (List.getElem?_eq_getElem h2)).2.2.2 h1) 0 l.length listed a w (by omega) (Nat.le_refl _) hs (by omega) hall (fun i h1 h2 => by omega) ?_
   refine (by rw [hmn] at h; exact h : Tr C (U1 (l.take l.length) Ts Γ) L (wpList C.P l.toArray Q (l.drop l.length))) a w H ⟨hI.defers, hI.size, fun t T e => ?_⟩ hI.st hI.ow
   rw [List.take_length] at e
   rcases Jg l Ts Γ t T (by rw [hT, hmn]) e with ⟨k, hk, hd, rfl⟩ | ⟨h1, h2⟩
   · exact hI.got k t (by omega) (by have := hall k hk; have h8 : k < listed.size := by omega
                                     simp [Array.getD_eq_getD_getElem?, Array.getElem?_eq_getElem h8] at this ⊢; exact this) hd
   exact hI.old t T h1 fun k hk hd => absurd hd (h2 k hk)
  | succ fuel ih =>
   intro listed a w H hs hf hsuf hc hI
   by_cases hpre : ∀ i, i < m → listed.getD i true = true
   · -- the open part is done
     refine Vb (m := m) (b := listed) hpos (fun k h1 h2 => (hrow k _ (List.getElem?_eq_getElem h2)).2.2.2 h1) (fuel + 1) m listed a w (Nat.le_refl _) hml hs ?_ hpre hsuf ?_
     · have : (List.range' m (l.length - m)).length ≤ ((List.range l.length).filter fun i => !listed.getD i true).length := by
        refine List.Sublist.length_le (l₁ := List.range' m (l.length - m)) ?_
        have e1 : (List.range l.length).filter (fun i => !listed.getD i true) = List.range' m (l.length - m) := by
         have e2 : List.range l.length = List.range' 0 m ++ List.range' m (l.length - m) := by
          rw [List.range_eq_range', show l.length = m + (l.length - m) from by omega, ← List.range'_append]
          simp
         rw [e2, List.filter_append]
         have e3 : (List.range' 0 m).filter (fun i => !listed.getD i true) = [] := by
          rw [List.filter_eq_nil_iff]
          intro i hi
          have := (List.mem_range'_1.1 hi).2
          rw [hpre i (by omega)]; simp
         have e4 : (List.range' m (l.length - m)).filter (fun i => !listed.getD i true) = List.range' m (l.length - m) := by
          rw [List.filter_eq_self]
          intro i hi
          have := List.mem_range'_1.1 hi
          rw [hsuf i (by omega) (by omega)]; rfl
         rw [e3, e4, List.nil_append]
        rw [e1]
        exact List.Sublist.refl _
       rw [List.length_range'] at this
       omega
     refine h a w H ⟨hI.defers, hI.size, fun t T e => ?_⟩ hI.st hI.ow
     rcases Jg (l.take m) Ts Γ t T (by rw [hT, List.length_take]; omega) e with ⟨k, hk, hd, rfl⟩ | ⟨h1, h2⟩
     · rw [List.length_take] at hk
       refine hI.got k t (by omega) ?_ (by unfold Z3 at hd ⊢; rw [List.getElem?_take, if_pos (by omega)] at hd; exact hd)
       have := hpre k (by omega)
       have h8 : k < listed.size := by omega
       simp [Array.getD_eq_getD_getElem?, Array.getElem?_eq_getElem h8] at this ⊢; exact this
     refine hI.old t T h1 fun k hk hd => ?_
     rcases Nat.lt_or_ge k m with h3 | h3
     · exact absurd (by unfold Z3 at hd ⊢; rw [List.getElem?_take, if_pos h3]; exact hd) (h2 k (by rw [List.length_take]; omega))
     have := hsuf k h3 hk
     have h8 : k < listed.size := by omega
     simp [Array.getD_eq_getD_getElem?, Array.getElem?_eq_getElem h8] at this ⊢; exact this
   refine ⟨fun hr => ?_, fun i hi => ?_⟩
   · -- something is always ready
     exfalso
     have hex : ∃ i, i < l.length ∧ listed.getD i true = false := by
      apply Classical.byContradiction
      intro hno
      refine hpre fun i hi => ?_
      cases hb : listed.getD i true with
      | true => rfl
      | false => exact absurd ⟨i, by omega, hb⟩ hno
     have hmin : ∀ n i, i < n → i < l.length → listed.getD i true = false → ∃ j, j < l.length ∧ listed.getD j true = false ∧ ∀ k, k < j → listed.getD k true = true := by
      intro n
      induction n with
      | zero => intro i h; omega
      | succ n ihn =>
       intro i hi hl hb
       by_cases hk : ∀ k, k < i → listed.getD k true = true
       · exact ⟨i, hl, hb, hk⟩
       have : ∃ k, k < i ∧ listed.getD k true = false := by
        apply Classical.byContradiction
        intro hno
        refine hk fun k hki => ?_
        cases hbk : listed.getD k true with
        | true => rfl
        | false => exact absurd ⟨k, hki, hbk⟩ hno
       obtain ⟨k, hk1, hk2⟩ := this
       exact ihn k (by omega) (by omega) hk2
     obtain ⟨i, hi, hb⟩ := hex
     obtain ⟨j, hj1, hj2, hj3⟩ := hmin (i + 1) i (by omega) hi hb
     have : j ∈ Region.ready .any l.toArray listed := by
      unfold Region.ready
      rw [List.mem_filter]
      refine ⟨by simpa using hj1, ?_⟩
      rw [hj2]
      have ho : l[j]? = some l[j] := List.getElem?_eq_getElem hj1
      simp only [List.getElem?_toArray, ho, Option.map_some, Option.getD_some, Bool.not_false, Bool.true_and]
      rw [← Array.all_toList, List.all_eq_true]
      intro e he
      by_cases hbe : Region.binds .any e = true
      · have hmem : e.on ∈ Jx l[j] := List.mem_map.2 ⟨e, List.mem_filter.2 ⟨he, hbe⟩, rfl⟩
        have h3 := hj3 e.on (hpos j _ ho _ hmem)
        have h4 : e.on < listed.size := by have := hpos j _ ho _ hmem; omega
        simp [Array.getD_eq_getD_getElem?, Array.getElem?_eq_getElem h4] at h3 ⊢
        simp [h3]
      simp [hbe]
     rw [hr] at this; cases this
   unfold Region.ready at hi
   rw [List.mem_filter] at hi
   obtain ⟨hi1, hi2⟩ := hi
   have hil : i < l.length := by simpa using hi1
   simp only [Bool.and_eq_true, Bool.not_eq_true'] at hi2
   have ho : l[i]? = some l[i] := List.getElem?_eq_getElem hil
   have hr : ∀ e ∈ Jx l[i], (fun j => listed.getD j false) e = true := by
    intro e he
    obtain ⟨ed, hed, rfl⟩ := List.mem_map.1 he
    rw [List.mem_filter] at hed
    have h4 := hi2.2
    simp only [List.getElem?_toArray, ho, Option.map_some, Option.getD_some, ← Array.all_toList, List.all_eq_true] at h4
    have h5 := h4 ed hed.1
    simpa [hed.2] using h5
   have hbi : (fun j => listed.getD j false) i = false := by
    have h8 : i < listed.size := by omega
    have := hi2.1
    simp [Array.getD_eq_getD_getElem?, Array.getElem?_eq_getElem h8] at this ⊢; exact this
   have hmk := Ub hc ho hr
   have him : i < m := by
    rcases Nat.lt_or_ge i m with h1 | h1
    · exact h1
    exfalso
    refine hpre fun j hj => ?_
    have := hmk j ((hrow i _ ho).2.2.2 h1 j (by omega))
    have h8 : j < listed.size := by omega
    simp [Array.getD_eq_getD_getElem?, Array.getElem?_eq_getElem h8] at this ⊢; exact this
   obtain ⟨o, ho2, hop⟩ := Qjf hops i (by omega)
   have hoo : o = l[i] := by rw [ho] at ho2; exact (Option.some.inj ho2).symm
   subst hoo
   have hcl : ∀ k, k < l.length → listed.getD k false = true → ∀ j, ((X0 l []).getD k 0).testBit j = true → listed.getD j false = true := fun k hk hb j hj => Va hc (k + 1) k (by omega) hk hb j hj
   have hfit := Qbs hI him hml hbi hmk hcl (hlt i hil) ((hrow i _ ho).2.2.1 him)
   have hop2 := hop a w H hfit hI.st hI.ow Q (wpAny C.P .any l.toArray Q fuel (listed.setIfInBounds i true)) ?_
   · unfold wpOp
     have : l.toArray[i]? = some l[i] := by simp
     rw [this]
     simp only
     split
     · rename_i hw; rw [if_pos hw] at hop2; exact .inl hop2
     rename_i hw; rw [if_neg hw] at hop2; exact hop2
   intro v w' H' s' hv
   refine ih _ _ w' H' (by simpa using hs) ?_ ?_ ?_ ?_
   · have : ((List.range l.length).filter fun j => !(listed.setIfInBounds i true).getD j true).length < ((List.range l.length).filter fun j => !listed.getD j true).length := by
      have hsub : (List.range l.length).filter (fun j => !(listed.setIfInBounds i true).getD j true) = ((List.range l.length).filter fun j => !listed.getD j true).filter (fun j => !(Nat.beq i j)) := by
       rw [List.filter_filter]
       apply List.filter_congr
       intro j hj
       simp only [Array.getD_eq_getD_getElem?, Array.getElem?_setIfInBounds]
       by_cases hij : i = j
       · subst hij; simp [show i < listed.size from by omega]
       have : Nat.beq i j = false := by
        cases hb : Nat.beq i j with
        | false => rfl
        | true => exact absurd (Nat.eq_of_beq_eq_true hb) hij
       simp [hij, this]
      rw [hsub]
      have hmem : i ∈ (List.range l.length).filter fun j => !listed.getD j true := List.mem_filter.2 ⟨List.mem_range.2 hil, by rw [hi2.1]; rfl⟩
      exact List.length_filter_lt_length_iff_exists.2 ⟨i, hmem, by simp⟩
     omega
   · intro j hj hjl
     have := hsuf j hj hjl
     simp only [Array.getD_eq_getD_getElem?] at this
     simp only [Array.getD_eq_getD_getElem?, Array.getElem?_setIfInBounds]
     simp [show ¬ i = j from by omega, this]
   · intro k o' ho' hb' e he
     simp only [Array.getD_eq_getD_getElem?, Array.getElem?_setIfInBounds] at hb' ⊢
     by_cases hie : i = e
     · subst hie; simp [show i < listed.size from by omega]
     simp only [if_neg hie]
     have h8 : ∀ e, (listed[e]?).getD false = listed.getD e false := fun e => by simp [Array.getD_eq_getD_getElem?]
     rw [h8]
     by_cases hik : i = k
     · subst hik
       have : l[i] = o' := by rw [ho] at ho'; exact Option.some.inj ho'
       subst this
       exact hr e he
     simp only [if_neg hik] at hb'
     rw [h8] at hb'
     exact hc k o' ho' hb' e he
   have hdd : ∀ t, (a.put l[i].dst v).tmps.getD t undef = if l[i].dst = some t then v else a.tmps.getD t undef := by
    intro t
    cases hd : l[i].dst with
    | none => simp [Act.put]
    | some d =>
     rw [Qbo]
     have hdN : d < C.N := by
      have := (hrow i _ ho).2.1
      rw [hd] at this; simpa using this
     by_cases hdt : d = t
     · subst hdt; simp [hI.size, hdN]
     simp [hdt]
   refine ⟨?_, ?_, hI.st.trans0 s', hI.ow.st0 s', ?_, ?_⟩
   · cases hd : l[i].dst <;> simp [Act.put, hI.defers]
   · cases hd : l[i].dst <;> simp [Act.put, hI.size]
   · intro t T hf hall
     have hbt : ∀ k, k < l.length → Z3 l k = some t → listed.getD k false = false ∧ k ≠ i := by
      intro k hk hd
      have := hall k hk hd
      simp only [Array.getD_eq_getD_getElem?, Array.getElem?_setIfInBounds] at this ⊢
      by_cases hik : i = k
      · subst hik; simp [show i < listed.size from by omega] at this
      simp [hik] at this; exact ⟨this, fun e => hik e.symm⟩
     have hne : ¬ l[i].dst = some t := fun e => (hbt i hil (by simp [Z3, ho, e])).2 rfl
     rw [hdd, if_neg hne]
     exact T.mono s'.sub (hI.old t T hf fun k hk hd => (hbt k hk hd).1)
   intro k t hkm hb hd
   rw [hdd]
   simp only [Array.getD_eq_getD_getElem?, Array.getElem?_setIfInBounds] at hb
   by_cases hik : i = k
   · subst hik
     have : l[i].dst = some t := by simpa [Z3, ho] using hd
     rw [if_pos this]
     exact hv
   simp only [if_neg hik] at hb
   have hb' : listed.getD k false = true := by simpa [Array.getD_eq_getD_getElem?] using hb
   have hne : ¬ l[i].dst = some t := by
    intro e
    have h1 : (l.take m)[i]? = some l[i] := by rw [List.getElem?_take, if_pos him]; exact ho
    have hkl : k < l.length := by omega
    have h2 : (l.take m)[k]? = some l[k] := by rw [List.getElem?_take, if_pos hkm]; exact List.getElem?_eq_getElem hkl
    have h3 : l[k].dst = some t := by simpa [Z3, List.getElem?_eq_getElem hkl] using hd
    exact hik (nodup_filterMap hnd h1 h2 e h3)
   rw [if_neg hne]
   exact (Ts.getD k Yu).mono s'.sub (hI.got k t hkm hb' hd)
 refine main l.length (Array.replicate l.length false) a { w with drawn := w.drawn + 1 } H (by simp) (by
  refine Nat.le_trans (List.length_filter_le _ _) (by simp)) (fun i _ hi => by simp [Array.getD_eq_getD_getElem?, hi]) ?_ ?_ |> fun h => by simpa using h
 · intro k o ho hb e he
   simp [Array.getD_eq_getD_getElem?, Array.getElem?_replicate] at hb
   split at hb <;> simp at hb
 · refine ⟨f.defers, f.size, ⟨s.sub, fun k o e => s.on k o e, s.os, s.tape, s.output, s.size, s.keep, s.new⟩, ⟨fun i hi => i.st (w := w) (w' := { w with drawn := w.drawn + 1 }) (fun _ _ => rfl) (Sub.refl _) (ow.all i hi), ow.nodup, ow.own⟩, fun t T hf _ => f.get t T hf, fun k t _ hb => ?_⟩
   simp [Array.getD_eq_getD_getElem?, Array.getElem?_replicate] at hb
   split at hb <;> simp at hb
where
 nodup_filterMap {l : List Oper} (h : (l.filterMap (·.dst)).Nodup) {i k : Nat} {o o' : Oper} {t : Nat} (hi : l[i]? = some o) (hk : l[k]? = some o') (ho : o.dst = some t) (ho' : o'.dst = some t) : i = k := by
  induction l generalizing i k with
  | nil => simp at hi
  | cons q l ih =>
   cases i with
   | zero =>
    cases k with
    | zero => rfl
    | succ k =>
     exfalso
     have : q = o := by simpa using hi
     subst this
     rw [List.filterMap_cons_some ho] at h
     exact (List.nodup_cons.1 h).1 (List.mem_filterMap.2 ⟨o', List.mem_of_getElem? (by simpa using hk), ho'⟩)
   | succ i =>
    cases k with
    | zero =>
     exfalso
     have : q = o' := by simpa using hk
     subst this
     rw [List.filterMap_cons_some ho'] at h
     exact (List.nodup_cons.1 h).1 (List.mem_filterMap.2 ⟨o, List.mem_of_getElem? (by simpa using hi), ho⟩)
    | succ k =>
     have hn : (l.filterMap (·.dst)).Nodup := by
      cases hq : q.dst with
      | none => rwa [List.filterMap_cons_none hq] at h
      | some d => rw [List.filterMap_cons_some hq] at h; exact (List.nodup_cons.1 h).2
     exact congrArg (· + 1) (ih hn (i := i) (k := k) (by simpa using hi) (by simpa using hk))
end
end Go.Gw
namespace Go.Gw
open Go
theorem Qq : ∀ {L : List It} (i : Nat) {x : It}, L[i]? = some x → List.Perm L (x :: L.eraseIdx i)
 | [], i, x, h => by simp at h
 | y :: L, 0, x, h => by
  have : y = x := by simpa using h
  subst this; exact List.Perm.refl _
 | y :: L, i + 1, x, h => ((Qq i (x := x) (by simpa using h)).cons y).trans (List.Perm.swap x y _)
theorem Zz {L : List It} (i : Nat) {x : It} (h : L[i]? = some x) : x ∈ L := List.mem_of_getElem? h
theorem OT.eq {N : Nat} {Γ : Env} {x : Operand} {T T' : Ty} (h : OT N Γ x T) (e : T = T') : OT N Γ x T' := e ▸ h
theorem Pure.val {C : Cx} {Γ : Env} {L : List It} {o : Oper} {u v : Value} (h : Pure C Γ L o (IsV u)) (e : u = v) : Pure C Γ L o (IsV v) := e ▸ h
theorem OT.val {N : Nat} {Γ : Env} {x : Operand} {u v : Value} (h : OT N Γ x (IsV u)) (e : u = v) : OT N Γ x (IsV v) := e ▸ h
section
variable {C : Cx} {Γ : Env} {L R : List It} {Q : Exit → Act → World → Prop} {ops : Array Oper} {rest : List Oper}
variable {dst : Option Tmp} {ty : TypeId} {pos : String} {after : Array Edge} {guard : Option (Nat × Bool)} {x y z : Operand}
variable {α β : Type} {d : Kd α} {e : Kd β}
def Xi (P : Program) (t : TypeId) (i off : Nat) (agg : Bool) (sz : Nat) : Bool := match P.underlying t with
 | some (.struct fs) => match fs[i]? with
  | some f => Nat.beq f.offset off && Xy P f.type agg sz && Nat.ble 1 sz
  | none => false
 | _ => false
theorem Qd2 {P : Program} {t : TypeId} {i off : Nat} {agg : Bool} {sz : Nat} (h : Xi P t i off agg sz = true) : ∃ fs f, P.underlying t = some (.struct fs) ∧ fs[i]? = some f ∧ f.offset = off ∧ Xy P f.type agg sz = true ∧ 0 < sz := by
 unfold Xi at h
 cases hu : P.underlying t with
 | none => rw [hu] at h; cases h
 | some D =>
  rw [hu] at h
  cases D with
  | struct fs =>
   cases hf : fs[i]? with
   | none => simp only [hf] at h; cases h
   | some f =>
    simp only [hf, Bool.and_eq_true] at h
    exact ⟨fs, f, rfl, hf, Nat.eq_of_beq_eq_true h.1.1, h.1.2, Nat.le_of_ble_eq_true h.2⟩
  | _ => cases h
theorem Qbt {P : Program} {w : World} {g off : Nat} {f : Field} {agg : Bool} {sz : Nat} (ht : Xy P f.type agg sz = true) (hs : 0 < sz) : (fieldPlace ⟨g, off, none⟩ f).run P w = .ok ⟨g, off + f.offset, none⟩ w := by
 simp [fieldPlace, run_sizeOf ht, show ¬ sz = 0 from by omega, add_plain]
theorem Qum {t : TypeId} {i off b fo : Nat} {agg : Bool} {sz : Nat} (hx : OT C.N Γ x (IsV (pt b off))) (hf : Xi C.P t i fo agg sz = true) :
 Pure C Γ L ⟨dst, .fieldAddr t x i, ty, pos, after, guard⟩ (IsV (pt b (off + fo))) := fun a w H f s ow => by
 have hv : a.eval x = pt b off := hx a H f
 obtain ⟨fs, fd, hu, hfi, hoff, hty, hpos⟩ := Qd2 hf
 refine ⟨_, ?_, rfl⟩
 have := Qbt (w := w) (g := b) (off := off) hty hpos
 simp [execOp, Instr.fieldAt, run_underlying hu, hfi, hv, pt, Instr.sureAddr, this, hoff]
theorem Qr {t : TypeId} {i off : Nat} {v : α} {g : β} {set : β → α} (hx : OT C.N Γ x (AtT d v)) (hl : Qf d e off v g set) (hf : Xi C.P t i off e.agg e.sz = true) :
 Pure C Γ L ⟨dst, .fieldAddr t x i, ty, pos, after, guard⟩ (AtT e g) := fun a w H f s ow => by
 obtain ⟨b, o, cells, t', fr, cs, hv, hb, hk, hS⟩ := hx a H f
 obtain ⟨fs, fd, hu, hfi, hoff, hty, hpos⟩ := Qd2 hf
 have := Qbt (w := w) (g := b) (off := o) hty hpos
 rw [hoff] at this
 refine ⟨.pointer (some ⟨b, o + off, none⟩), ?_, b, o + off, cells, t', fr, _, rfl, hb, hl.get hk, hS.drop _ _⟩
 simp [execOp, Instr.fieldAt, run_underlying hu, hfi, hv, Instr.sureAddr, this]
theorem Qgn {H : FH} {A : Option Addr} {xs : List α} {lo hi c : Nat} (h : Row d H A xs) (hlo : lo ≤ hi) (hhi : hi ≤ xs.length) (hc : xs.length ≤ c) : Row d H (if c = lo then A else A.map (·.add (lo * d.sz))) ((xs.take hi).drop lo) := by
 intro hn
 rw [List.length_drop, List.length_take] at hn
 obtain ⟨ad, cells, e, fr, cs, rfl, h2, h3, h4, h5⟩ := h (by omega)
 have h6 := (h4.take hi hhi).drop lo (by rw [List.length_take]; omega)
 refine ⟨ad.add (lo * d.sz), cells, e, fr, _, by rw [if_neg (by omega)]; rfl, ?_, ?_, h6, ?_⟩
 · rw [Addr.plain h2, add_plain]
 · rw [Addr.plain h2, add_plain]; exact h3
 rw [Addr.plain h2, add_plain]
 intro i u e
 rw [List.getElem?_drop, List.getElem?_take] at e
 split at e
 · rw [Nat.add_assoc]; exact h5 _ u e
 cases e
theorem Qun {t el : TypeId} {xs : List α} {k1 k2 : IntKind} {i j : Int} (hx : OT C.N Γ x (SlT d xs)) (hy : OT C.N Γ y (Zy k1 i)) (hz : OT C.N Γ z (Zy k2 j)) (ht : C.P.underlying t = some (.slice el)) (he : Xy C.P el d.agg d.sz = true) (h0 : 0 ≤ i) (h1 : i ≤ j) (h2 : j ≤ xs.length) :
 Pure C Γ L ⟨dst, .slice t x (some y) (some z) none, ty, pos, after, guard⟩ (SlT d ((xs.take j.toNat).drop i.toNat)) := fun a w H f s ow => by
 obtain ⟨A, c, hv, hc, hm, hr⟩ := hx a H f
 have hi : a.eval y = .int k1 i := hy a H f
 have hj : a.eval z = .int k2 j := hz a H f
 have hcut := Qgn (lo := i.toNat) (hi := j.toNat) hr (by omega) (by omega) hc
 have hjc : j ≤ (c : Int) := by omega
 refine ⟨.slice (if c = i.toNat then A else A.map (·.add (i.toNat * d.sz))) (j.toNat - i.toNat) (c - i.toNat), ?_, _, _, by rw [List.length_drop, List.length_take, Nat.min_eq_left (by omega)], by rw [List.length_drop, List.length_take]; omega, by rw [List.length_drop, List.length_take]; omega, hcut⟩
 have hij : i ≤ ((j.toNat : Nat) : Int) := by omega
 have h0j : 0 ≤ j := by omega
 have hmx : max j 0 = j := by omega
 simp [execOp, Instr.sliceAt, Instr.slice, Instr.sliceBounds, Instr.sliceBound, run_underlying ht, hv, hi, hj, asIntOf, h0, h0j, hjc, hij, run_sizeOf he, hmx, h1]
theorem K7 {t el : TypeId} {xs : List α} {k1 : IntKind} {i : Int} (hx : OT C.N Γ x (SlT d xs)) (hy : OT C.N Γ y (Zy k1 i)) (ht : C.P.underlying t = some (.slice el)) (he : Xy C.P el d.agg d.sz = true) (h0 : 0 ≤ i) (h1 : i ≤ xs.length) :
 Pure C Γ L ⟨dst, .slice t x (some y) none none, ty, pos, after, guard⟩ (SlT d (xs.drop i.toNat)) := fun a w H f s ow => by
 obtain ⟨A, c, hv, hc, hm, hr⟩ := hx a H f
 have hi : a.eval y = .int k1 i := hy a H f
 have hcut := Qgn (lo := i.toNat) (hi := xs.length) hr (by omega) (by omega) hc
 rw [List.take_length] at hcut
 refine ⟨.slice (if c = i.toNat then A else A.map (·.add (i.toNat * d.sz))) (xs.length - i.toNat) (c - i.toNat), ?_, _, _, by rw [List.length_drop], by rw [List.length_drop]; omega, by rw [List.length_drop]; omega, hcut⟩
 simp [execOp, Instr.sliceAt, Instr.slice, Instr.sliceBounds, Instr.sliceBound, run_underlying ht, hv, hi, asIntOf, h0, run_sizeOf he, h1]
theorem Qbu {t el : TypeId} {xs : List α} {k2 : IntKind} {j : Int} (hx : OT C.N Γ x (SlT d xs)) (hz : OT C.N Γ z (Zy k2 j)) (ht : C.P.underlying t = some (.slice el)) (he : Xy C.P el d.agg d.sz = true) (h0 : 0 ≤ j) (h2 : j ≤ xs.length) :
 Pure C Γ L ⟨dst, .slice t x none (some z) none, ty, pos, after, guard⟩ (SlT d (xs.take j.toNat)) := fun a w H f s ow => by
 obtain ⟨A, c, hv, hc, hm, hr⟩ := hx a H f
 have hj : a.eval z = .int k2 j := hz a H f
 have hcut := Qgn (lo := 0) (hi := j.toNat) hr (by omega) (by omega) hc
 rw [List.drop_zero] at hcut
 have hjc : j ≤ (c : Int) := by omega
 refine ⟨.slice (if c = 0 then A else A.map (·.add (0 * d.sz))) j.toNat c, ?_, _, _, by rw [List.length_take, Nat.min_eq_left (by omega)], by rw [List.length_take]; omega, by rw [List.length_take]; omega, hcut⟩
 simp [execOp, Instr.sliceAt, Instr.slice, Instr.sliceBounds, Instr.sliceBound, run_underlying ht, hv, hj, asIntOf, h0, hjc, run_sizeOf he]
end
end Go.Gw
namespace Go.Gw
section
variable {C : Cx} {Γ : Env} {L : List It} {Q : Exit → Act → World → Prop}
theorem Z5 {Γ' : Env} {φ : Act → World → Prop} (h : Yy C.N Γ Γ') (k : Tr C Γ' L φ) : Tr C Γ L φ := fun a w H f s o => k a w H (h a H f) s o
theorem Qt {σ : Type} {Γk : Env} (hk : Yy C.N Γ Γk) (Δ : σ → Env) (Ll : σ → List It) (I : σ → Prop) (μ : σ → Nat) {c : Code} (s0 : σ) (h0 : I s0) (hd : Yy C.N Γ (Δ s0)) (hL : ∀ w H, Xu C.ok w H L → Xu C.ok w H (Ll s0))
 (hround : ∀ s, I s → Tr C (Δ s ++ Γk) (Ll s) (c.wp C.P (Exit.then (Round C (fun s => Δ s ++ Γk) Ll I μ (μ s)) Q))) : Tr C Γ L ((Code.loop c).wp C.P Q) :=
 Qy2 (fun s => Δ s ++ Γk) Ll I μ s0 h0 (fun a w H f o => ⟨Qcf hd hk a H f, hL w H o⟩) hround
end
end Go.Gw
namespace Go.Gw
def Jp (L L' : List It) : Prop := ∃ R, List.Perm L (L' ++ R)
theorem Jc {L : List It} : Jp L [] := ⟨L, List.Perm.refl _⟩
theorem Zd {L L' : List It} (i : Nat) {x : It} (h : L[i]? = some x) (hp : Jp (L.eraseIdx i) L') : Jp L (x :: L') :=
 let ⟨R, hR⟩ := hp; ⟨R, (Qq i h).trans (hR.cons x)⟩
theorem Qfg {ok : Nat → Prop} {L L' : List It} (h : Jp L L') : ∀ w H, Xu ok w H L → Xu ok w H L' := fun _ _ o => let ⟨_, hR⟩ := h; (o.perm hR).left
end Go.Gw
namespace Go.Gw
open Go
def CtV (P : Program) (fv : Value) (As : List Ty) (J : List It) (ρ : Type) (T : ρ → Ty) (I : ρ → List It) (φ : ρ → Prop) : Prop :=
 ∃ (f : FuncId) (cap : List Value), fv = .func (.func f) #[] cap.toArray ∧ enters P f = true ∧ ∀ (H : FH) (w : World) (args : List Value), On H w → Kc H As args → Xu (fun _ => True) w H J → Calls P f (args ++ cap).toArray w (post J H w ρ T I φ)
theorem Qf7 {H : FH} : ∀ {As : List Ty} {vs : List Value} {caps : List Value}, Kc H As vs → Kc H (As ++ caps.map IsV) (vs ++ caps)
 | [], [], caps, _ => by
  show Kc H (caps.map IsV) caps
  induction caps with
  | nil => trivial
  | cons c cs ih => exact ⟨rfl, ih⟩
 | _ :: _, _ :: _, caps, h => ⟨h.1, Qf7 h.2⟩
theorem CtV.of {P : Program} {f : FuncId} {As : List Ty} {J : List It} {ρ : Type} {T : ρ → Ty} {I : ρ → List It} {φ : ρ → Prop} (caps : List Value) (h : Ct P f (As ++ caps.map IsV) J ρ T I φ) (hin : enters P f = true) : CtV P (.func (.func f) #[] caps.toArray) As J ρ T I φ :=
 ⟨f, caps, rfl, hin, fun H w args hon hA hO => h H w (args ++ caps) hon (Qf7 hA) hO⟩
theorem CtV.of0 {P : Program} {f : FuncId} {As : List Ty} {J : List It} {ρ : Type} {T : ρ → Ty} {I : ρ → List It} {φ : ρ → Prop} (h : Ct P f As J ρ T I φ) (hin : enters P f = true) : CtV P (.func (.func f) #[] #[]) As J ρ T I φ :=
 CtV.of [] (by simpa using h) hin
section
variable {C : Cx} {Γ : Env} {L R J : List It} {Q : Exit → Act → World → Prop} {ops : Array Oper} {rest : List Oper}
variable {dst : Option Tmp} {ty : TypeId} {pos : String} {after : Array Edge} {guard : Option (Nat × Bool)} {x y z : Operand}
variable {α β : Type} {d : Kd α} {e : Kd β}
theorem Z6 {fv : Value} {t : Tmp} {As : List Ty} {ρ : Type} {T : ρ → Ty} {I : ρ → List It} {φ : ρ → Prop} {xs : List Operand} {ats : Array TypeId}
 (hf : OT C.N Γ (.tmp t) (IsV fv)) (hF : CtV C.P fv As J ρ T I φ) (hxs : OTs C.N Γ xs As) (hL : List.Perm L (J ++ R)) :
 Yp C Γ L { dst, op := .call { callee := .value (.tmp t), args := xs.toArray, argTypes := ats }, type := ty, pos, after, guard } J ρ T I φ := by
 intro a w H fi s ow Q K hK
 obtain ⟨f, cap, rfl, hin, hc⟩ := hF
 have hv : a.eval (.tmp t) = .func (.func f) #[] cap.toArray := hf a H fi
 have hrun : (execOp a.eval { dst, op := .call { callee := .value (.tmp t), args := xs.toArray, argTypes := ats }, type := ty, pos, after, guard }).run C.P w = .ok (.enter f ((xs.map a.eval) ++ cap).toArray) w := by
  simp only [execOp, resolve, hv, Deferred.ofValue, Sem.run_bind, Sem.run_pure, Result.andThen_ok, invoke]
  rw [show ((#[] : Array Value) ++ Array.map a.eval xs.toArray ++ cap.toArray) = ((xs.map a.eval) ++ cap).toArray from by simp]
  exact Wp hin _ _
 simp only [Oper.wp, hrun, Oper.upon_enter]
 refine Calls.mono (hc H w _ s.on (OTs.all fi hxs) ((ow.perm hL).left.mono fun _ _ _ => trivial)) ?_
 rintro e w' ⟨r, v, H', rfl, hφ, s', hv, ho⟩
 exact hK r v w' H' hφ s' hv ho
def Qfh (N : Nat) (Γ : Env) : List Operand → List Value → Prop
 | [], [] => True
 | x :: xs, v :: vs => OT N Γ x (IsV v) ∧ Qfh N Γ xs vs
 | _, _ => False
theorem Qg8 {N : Nat} {a : Act} {H : FH} (f : Fits N Γ H a) : ∀ {xs : List Operand} {vs : List Value}, Qfh N Γ xs vs → xs.map a.eval = vs
 | [], [], _ => rfl
 | _ :: _, _ :: _, h => by rw [List.map_cons, Qg8 f h.2, show a.eval _ = _ from h.1 a H f]
theorem Vc {f : FuncId} {xs : List Operand} {vs : List Value} (h : Qfh C.N Γ xs vs) : Pure C Γ L ⟨dst, .makeFunc (.func f) #[] xs.toArray, ty, pos, after, guard⟩ (IsV (.func (.func f) #[] vs.toArray)) := fun a w H fi s ow => by
 refine ⟨_, ?_, rfl⟩
 have := Qg8 fi h
 simp [execOp, Instr.makeFunc, this]
theorem Qlt {fn : Func} {ρ : Type} {T : ρ → Ty} {I : ρ → List It} {φ : ρ → Prop} {P : Program} {N : Nat} {H0 : FH} {w0 : World} (e : Exit) (he : e = .ret ∨ e = .normal) {t : Nat} {tt t' : TypeId} {b : Nat} {v : α} (hres : fn.results = #[.cell t tt]) (r : ρ) (hx : OT N Γ (.tmp t) (IsV (pt b 0))) (hm : Qb b t' d v ∈ L) (ht : Xy P tt d.agg d.sz = true) (hT : d.T v = T r) (hφ : φ r) (hI : ∃ R, List.Perm L (I r ++ R)) :
 Tr ⟨P, N, fun g => g ∈ X8 J, H0, w0⟩ Γ L (bodyPost P fn (post J H0 w0 ρ T I φ) e) :=
 V7 e he r hφ hI fun a w H f s ow => by
  have hv : a.eval (.tmp t) = pt b 0 := hx a H f
  obtain ⟨cs, hK, hb⟩ := ow.all _ hm
  have hl := d.len hK
  have hload := K6 (P := P) (w := w) (t := tt) (agg := d.agg) (cs := cs) (g := b) (off := 0) (by rw [hl]; exact ht) (fun h => by rw [hl]; exact d.szone h) hb (fun i u h => by simpa using h)
  refine ⟨mkV d.agg cs, ?_, hT ▸ d.toT hK⟩
  simp only [Act.eval] at hv
  simp only [Array.getD_eq_getD_getElem?] at hv
  simp [results, hres, hv, asAddr, hload, pt]
abbrev kP2 (d : Kd α) : Kd (α × α) := Q4o (Qdx 2 d) fun e => [e.1, e.2]
theorem Qf.p0 {v : α × α} : Qf (kP2 d) d 0 v v.1 (fun y => (y, v.2)) :=
 Qf.iso (s := fun y => [y, v.2]) (by have := Qf.at_ (d := d) (n := 2) (xs := [v.1, v.2]) 0 (x := v.1) rfl (by omega); simpa using this) fun _ => rfl
theorem Qf.p1 {v : α × α} : Qf (kP2 d) d d.sz v v.2 (fun y => (v.1, y)) :=
 Qf.iso (s := fun y => [v.1, y]) (by have := Qf.at_ (d := d) (n := 2) (xs := [v.1, v.2]) 1 (x := v.2) rfl (by omega); simpa using this) fun _ => rfl
theorem Zj {t el t' : TypeId} {b : Nat} {v : α × α} (hx : OT C.N Γ x (IsV (pt b 0))) (hm : Qb b t' (kP2 d) v ∈ L) (ht : C.P.underlying t = some (.array 2 el)) (he : Xy C.P el d.agg d.sz = true) : Pure C Γ L ⟨dst, .indexAddr t x (.const (.int .i64 0)), ty, pos, after, guard⟩ (IsV (pt b 0)) := by
 have := Qdz (C := C) (L := L) (dst := dst) (ty := ty) (pos := pos) (after := after) (guard := guard) hx (OT.const (v := .int .i64 0)) ht he (by omega : (0 : Int) ≤ 0) (by omega)
 simpa using this
theorem Zk {t el t' : TypeId} {b : Nat} {v : α × α} (hx : OT C.N Γ x (IsV (pt b 0))) (hm : Qb b t' (kP2 d) v ∈ L) (ht : C.P.underlying t = some (.array 2 el)) (he : Xy C.P el d.agg d.sz = true) : Pure C Γ L ⟨dst, .indexAddr t x (.const (.int .i64 1)), ty, pos, after, guard⟩ (IsV (pt b d.sz)) := by
 have := Qdz (C := C) (L := L) (dst := dst) (ty := ty) (pos := pos) (after := after) (guard := guard) hx (OT.const (v := .int .i64 1)) ht he (by omega : (0 : Int) ≤ 1) (by omega)
 simpa using this
theorem Z7 {t t' : TypeId} {b : Nat} {v : α × α} (hx : OT C.N Γ x (IsV (pt b 0))) (hm : Qb b t' (kP2 d) v ∈ L) (ht : Xy C.P t d.agg d.sz = true) : Pure C Γ L ⟨dst, .load t x, ty, pos, after, guard⟩ (d.T v.1) := W9 hx hm Qf.p0 ht
theorem Z8 {t t' : TypeId} {b : Nat} {v : α × α} (hx : OT C.N Γ x (IsV (pt b d.sz))) (hm : Qb b t' (kP2 d) v ∈ L) (ht : Xy C.P t d.agg d.sz = true) : Pure C Γ L ⟨dst, .load t x, ty, pos, after, guard⟩ (d.T v.2) := W9 hx hm Qf.p1 ht
end
end Go.Gw
namespace Go.Gw
open Go
section
variable {C : Cx} {Γ : Env} {L R : List It} {Q : Exit → Act → World → Prop} {ops : Array Oper} {rest : List Oper}
variable {dst : Option Tmp} {ty : TypeId} {pos : String} {after : Array Edge} {guard : Option (Nat × Bool)} {x y z : Operand}
variable {α β : Type} {d : Kd α} {e : Kd β}
theorem Xu.swap1 {ok : Nat → Prop} {w : World} {H : FH} {I J : It} (h : Xu ok w H (I :: R)) (hb : J.blk = I.blk) (hp : J.p w H) : Xu ok w H (J :: R) where
 all := fun i hi => by
  rcases List.mem_cons.1 hi with rfl | hi
  · exact hp
  exact h.all i (List.mem_cons_of_mem _ hi)
 nodup := by
  have := h.nodup
  unfold X8 at this ⊢
  cases hI : I.blk with
  | none => rw [List.filterMap_cons_none (hb.trans hI)]; rwa [List.filterMap_cons_none hI] at this
  | some g => rw [List.filterMap_cons_some (hb.trans hI)]; rwa [List.filterMap_cons_some hI] at this
 own := fun g hg => h.own g (by
  unfold X8 at hg ⊢
  cases hI : I.blk with
  | none => rw [List.filterMap_cons_none (hb.trans hI)] at hg; rwa [List.filterMap_cons_none hI]
  | some g => rw [List.filterMap_cons_some (hb.trans hI)] at hg; rwa [List.filterMap_cons_some hI])
theorem Qro {M : Nat → Prop} {H : FH} {w : World} {I J : It} (h : Xu C.ok w H (I :: R)) (hb : J.blk = I.blk) (hp : J.p w H) : Xu (fun g => g ∈ X8 [I] ∨ w.heap.size ≤ g) w H [J] where
 all := fun i hi => by rw [List.mem_singleton.1 hi]; exact hp
 nodup := by
  unfold X8
  cases hJ : J.blk with
  | none => rw [List.filterMap_cons_none hJ]; exact List.nodup_nil
  | some g => rw [List.filterMap_cons_some hJ]; simp
 own := fun g hg => by
  obtain ⟨it, hit, h1⟩ := List.mem_filterMap.1 hg
  rw [List.mem_singleton.1 hit, hb] at h1
  have h2 := h.own g (Xn (i := I) List.mem_cons_self h1)
  exact ⟨h2.1, h2.2.1, .inl (Xn (i := I) List.mem_cons_self h1)⟩
theorem Quo {c : Code} (h : Tr C Γ L (c.wp C.P (Exit.noGoto Q))) : Tr C Γ L ((Code.scope c).wp C.P Q) := h.imp fun _ _ => wp_scope_straight
theorem Qrp (h : Tr C Γ L (Q .ret)) : Tr C Γ L (Exit.noGoto Q .ret) := h
theorem Xt {t el : TypeId} {n sz : Nat} {agg : Bool} {v0 v : α} {parts : List (Nat × Operand)} (ht : C.P.underlying t = some (.array n el)) (hs : Xy C.P el agg sz = true) (hz : Xw C.P t d v0) (hagg : d.agg = true) (hf : Qbf C.N Γ d (fun i => some (i * sz, sz)) v0 parts v) :
 Pure C Γ L ⟨dst, .build t parts.toArray, ty, pos, after, guard⟩ (d.T v) := fun a w H f s ow => by
 obtain ⟨zv, h1, h2⟩ := Kq (w := w) hz
 obtain ⟨cs, h3, _, h4⟩ := Ke (h2 H)
 obtain ⟨cells', h5, h6⟩ := Qcj f (cells := cs.toArray) hf h3
 have h7 := d.toT h6
 rw [hagg] at h7
 refine ⟨.agg cells', ?_, by simpa [mkV] using h7⟩
 have h5' : Instr.fill (fun i => some (i * sz, sz)) cs.toArray ((parts.toArray.map fun p => (p.1, a.eval p.2)).toList) = some cells' := by simpa using h5
 simp only [execOp, Instr.build, Sem.run_bind, h1, Result.andThen_ok, run_underlying ht, run_sizeOf hs, h4, h5']
 simp
def Q2z [DecidableEq α] (P : Program) (t : TypeId) (d : Kd α) : Prop := ∀ (H : FH) (w : World) (u v : α) (a b : Value) (x y : Operand), (d.T u).p H a → (d.T v).p H b →
 (eqGuard .eql t x y a b).run P w = .ok () w ∧ (eqGuard .neq t x y a b).run P w = .ok () w ∧ (binOp .eql t a b).run P w = .ok (.bool (decide (u = v))) w ∧ (binOp .neq t a b).run P w = .ok (.bool (!decide (u = v))) w
theorem Qg9 [DecidableEq α] {t t2 : TypeId} {u v : α} (he : Q2z C.P t d) (hx : OT C.N Γ x (d.T u)) (hy : OT C.N Γ y (d.T v)) : Pure C Γ L ⟨dst, .binOp .eql t x y t2, ty, pos, after, guard⟩ (Xe (decide (u = v))) := fun a w H f s ow => by
 obtain ⟨h1, _, h2, _⟩ := he H w u v _ _ x y (hx a H f) (hy a H f)
 exact ⟨_, by simp [execOp, h1, h2], rfl⟩
end
end Go.Gw
namespace Go.Gw
open Go
def Qok (C : Cx) (Γ : Env) (L L' : List It) (ops : Array Oper) (o : Oper) (T : Ty) : Prop :=
 ∀ a w H, Fits C.N Γ H a → St C.M C.H0 C.w0 H w → Xu C.ok w H L → ∀ (Q : Exit → Act → World → Prop) (K : Act → World → Prop),
  (∀ (v : Value) (w' : World) (H' : FH), Sub H H' → St C.M C.H0 C.w0 H' w' → Xu C.ok w' H' L' → T.p H' v → K (a.put o.dst v) w') → if Region.wanted o (yielded ops a.tmps) = true then o.wp C.P a w K Q else K (a.put o.dst undef) w
section
variable {C : Cx} {Γ : Env} {L R : List It} {ops : Array Oper}
theorem Qy4 {o : Oper} {T : Ty} (h : ROp C Γ L ops o T) : Qok C Γ L L ops o T := fun a w H f s ow Q K hK =>
 h a w H f s ow Q K fun v w' H' s' hv => hK v w' H' s'.sub (s.trans0 s') (ow.st0 s') hv
theorem Qfi {J L' : List It} {o : Oper} {ρ : Type} {T : ρ → Ty} {I : ρ → List It} {φ : ρ → Prop} {T' : Ty} (hg : o.guard = none) (hp : Yp C Γ L o J ρ T I φ) (hL : List.Perm L (J ++ R)) (hL' : ∀ r, List.Perm (I r ++ R) L') (hT : ∀ r, φ r → ∀ H v, (T r).p H v → T'.p H v) : Qok C Γ L L' ops o T' := fun a w H f s ow Q K hK => by
 rw [if_pos (by simp [Region.wanted, hg])]
 refine hp a w H f s ow Q K fun r v w' H' hφ s' hv ho => hK v w' H' s'.sub ?_ ?_ (hT r hφ H' v hv)
 · exact s.trans s' fun k hk => ((ow.perm hL).left.own k hk).2.2
 have ow' := ow.perm hL
 have hM : ∀ k, k ∈ X8 J → C.M k ∨ C.w0.heap.size ≤ k := fun k hk => (ow'.left.own k hk).2.2
 refine Xu.perm ?_ (hL' r)
 refine Xu.append (ho.mono fun g _ hg => ?_) (ow'.right.st s' fun g hg hj => ow'.apart g hj hg) fun g hg hr => ?_
 · rcases hg with hg | hg
   · exact hM g hg
   exact .inr (Nat.le_trans s.size hg)
 rcases (ho.own g hg).2.2 with h1 | h1
 · exact ow'.apart g h1 hr
 have := (ow'.right.own g hr).1; omega
end
def Jl (l : List Oper) (p i : Nat) (c : Bool) : Bool := if c then !((X0 l []).getD p 0).testBit i && !(Nat.beq i p) else !((X0 l []).getD i 0).testBit p
def Qgo (C : Cx) (Γ : Env) (Lf : Bool → List It) (p : Nat) (all : List Oper) (ops : Array Oper) (Ts : List Ty) : Nat → List Oper → List Vp → List Ty → Prop
 | i, o :: l, n :: ns, T :: Us => (∀ c, Jl all p i c = true → Qok C (Qab Γ Ts n) (Lf c) (Lf (c || Nat.beq i p)) ops o T) ∧ Qgo C Γ Lf p all ops Ts (i + 1) l ns Us
 | _, _, [], [] => True
 | _, _, _, _ => False
theorem Qd3 {C : Cx} {Γ : Env} {Lf : Bool → List It} {p : Nat} {all : List Oper} {ops : Array Oper} {Ts : List Ty} : ∀ {n : Nat} {l : List Oper} {ns : List Vp} {Us : List Ty}, Qgo C Γ Lf p all ops Ts n l ns Us → ∀ i, i < ns.length → ∃ o, l[i]? = some o ∧ ∀ c, Jl all p (n + i) c = true → Qok C (Qab Γ Ts (ns.getD i [])) (Lf c) (Lf (c || Nat.beq (n + i) p)) ops o (Us.getD i Yu)
 | n, o :: l, m :: ns, T :: Us, h, 0, _ => ⟨o, rfl, h.1⟩
 | n, o :: l, m :: ns, T :: Us, h, i + 1, hi => by
  obtain ⟨o', h1, h2⟩ := Qd3 h.2 i (by simpa using hi)
  exact ⟨o', by simpa using h1, by rw [Nat.add_right_comm, Nat.add_assoc] at h2; simpa using h2⟩
 | _, [], [], [], _, i, hi => by simp at hi
 | _, _ :: _, [], [], _, i, hi => by simp at hi
theorem Qol {C : Cx} {Γ : Env} {Lf : Bool → List It} {p : Nat} {all : List Oper} {ops : Array Oper} {Ts : List Ty} {l : List Oper} {ns : List Vp} {Us : List Ty} (h : Qgo C Γ Lf p all ops Ts 0 l ns Us) (i : Nat) (hi : i < ns.length) : ∃ o, l[i]? = some o ∧ ∀ c, Jl all p i c = true → Qok C (Qab Γ Ts (ns.getD i [])) (Lf c) (Lf (c || Nat.beq i p)) ops o (Us.getD i Yu) := by
 have := Qd3 h i hi
 simpa using this
section
variable {C : Cx} {Γ : Env} {L : List It} {Q : Exit → Act → World → Prop} {l : List Oper} {ns : List Vp} {Ts : List Ty} {m : Nat}
structure Q4p (C : Cx) (Γ : Env) (Lf : Bool → List It) (p : Nat) (l : List Oper) (Ts : List Ty) (m : Nat) (b : Nat → Bool) (a : Act) (w : World) (H : FH) : Prop where
 defers : a.defers = []
 size : a.tmps.size = C.N
 st : St C.M C.H0 C.w0 H w
 ow : Xu C.ok w H (Lf (b p))
 old : ∀ t T, find Γ t = some T → (∀ k, k < l.length → Z3 l k = some t → b k = false) → T.p H (a.tmps.getD t undef)
 got : ∀ k t, k < m → b k = true → Z3 l k = some t → (Ts.getD k Yu).p H (a.tmps.getD t undef)
theorem Qat {Lf : Bool → List It} {p : Nat} {i : Nat} {b : Nat → Bool} {a : Act} {w : World} {H : FH} (hI : Q4p C Γ Lf p l Ts m b a w H) (him : i < m) (hlen : m ≤ l.length) (hi : b i = false) (hm : ∀ j, ((X0 l []).getD i 0).testBit j = true → b j = true) (hcl : ∀ k, k < l.length → b k = true → ∀ j, ((X0 l []).getD k 0).testBit j = true → b j = true) (hlt : ∀ j, ((X0 l []).getD i 0).testBit j = true → j < i) :
 ∀ {n : Vp}, J0 l (X0 l []) i n = true → Fits C.N (Qab Γ Ts n) H a
 | [], _ => ⟨hI.defers, hI.size, fun t T h => by cases h⟩
 | (t, none) :: r, h => by
  simp only [J0, Bool.and_eq_true] at h
  refine Yq ?_ (Qat hI him hlen hi hm hcl hlt h.2)
  cases hf : find Γ t with
  | none => exact trivial
  | some T =>
   refine hI.old t T hf fun k hk hd => ?_
   have h1 := List.all_eq_true.1 h.1 k (List.mem_range.2 hk)
   simp only [hd, beq_self_eq_true, Bool.not_true, Bool.false_or, Bool.or_eq_true] at h1
   rcases h1 with h1 | h1
   · rw [Nat.eq_of_beq_eq_true h1]; exact hi
   cases hb : b k with
   | false => rfl
   | true => have := hcl k hk hb i h1; rw [hi] at this; cases this
 | (t, some j) :: r, h => by
  simp only [J0, Bool.and_eq_true, beq_iff_eq] at h
  refine Yq ?_ (Qat hI him hlen hi hm hcl hlt h.2)
  exact hI.got j t (by have := hlt j h.1.2; omega) (hm j h.1.2) h.1.1
theorem Qkj {id : Nat} {p : Nat} {Lf : Bool → List It} (hp : Nat.ble (p + 1) m = true) (hm : C.P.follows .mixedOrders = true) (hok : Qf6 C.N l m ns = true) (hT : Ts.length = m) (hops : Qgo C Γ Lf p l l.toArray Ts 0 l ns Ts) (h : Tr C (U1 (l.take m) Ts Γ) (Lf true) (wpList C.P l.toArray Q (l.drop m))) : Tr C Γ (Lf false) ((Code.region id l.toArray true).wp C.P Q) := by
 simp only [Qf6, Bool.and_eq_true, decide_eq_true_eq] at hok
 obtain ⟨⟨⟨hok1, hnd⟩, hnl⟩, hml⟩ := hok
 have hml : m ≤ l.length := Nat.le_of_ble_eq_true hml
 have hpm : p < m := Nat.le_of_ble_eq_true hp
 have hrow : ∀ k o, l[k]? = some o → (∀ e ∈ Jx o, e < k) ∧ (o.dst.all fun d => decide (d < C.N)) = true ∧ (k < m → J0 l (X0 l []) k (ns.getD k []) = true) ∧ (m ≤ k → ∀ j, j < k → ((X0 l []).getD k 0).testBit j = true) := by
  intro k o ho
  have hk := (List.getElem?_eq_some_iff.1 ho).1
  have h1 := List.all_eq_true.1 hok1 k (List.mem_range.2 hk)
  rw [ho] at h1
  simp only [Bool.and_eq_true, List.all_eq_true, decide_eq_true_eq] at h1
  refine ⟨h1.1.1, h1.1.2, fun hkm => ?_, fun hkm j hj => ?_⟩
  · have h2 := h1.2; rw [if_pos hkm] at h2; exact h2
  have h2 := h1.2; rw [if_neg (by omega)] at h2; exact List.all_eq_true.1 h2 j (List.mem_range.2 hj)
 have hpos : ∀ k o, l[k]? = some o → ∀ e ∈ Jx o, e < k := fun k o ho => (hrow k o ho).1
 have hlt : ∀ i, i < l.length → ∀ j, ((X0 l []).getD i 0).testBit j = true → j < i := by
  intro i
  induction i using Nat.strongRecOn with
  | _ i ih =>
   intro hi j hj
   have ho : l[i]? = some l[i] := List.getElem?_eq_getElem hi
   have hm' := U9 l [] i _ ho
   simp only [List.length_nil, Nat.zero_add] at hm'
   rw [List.getD_eq_getElem?_getD, hm', Option.getD_some] at hj
   obtain ⟨e, he, h⟩ := Qaa hj
   have hei := hpos i _ ho e he
   rcases h with rfl | h
   · exact hei
   rw [List.getD_eq_getElem?_getD, List.getElem?_take, if_pos hei, ← List.getD_eq_getElem?_getD] at h
   have := ih e hei (by omega) j h
   omega
 intro a w H f s ow
 refine wp_region_any hm ?_
 have main : ∀ (fuel : Nat) (listed : Array Bool) (a : Act) (w : World) (H : FH), listed.size = l.length → ((List.range l.length).filter fun i => !listed.getD i true).length ≤ fuel →
  (∀ i, m ≤ i → i < l.length → listed.getD i true = false) → Qas l (fun j => listed.getD j false) → Q4p C Γ Lf p l Ts m (fun j => listed.getD j false) a w H → wpAny C.P .any l.toArray Q fuel listed a w := by
  intro fuel
  induction fuel with
  | zero =>
   intro listed a w H hs hf hsuf hc hI
   have hall : ∀ i, i < l.length → listed.getD i true = true := by
    intro i hi
    cases hb : listed.getD i true with
    | true => rfl
    | false =>
     have : i ∈ (List.range l.length).filter fun i => !listed.getD i true := List.mem_filter.2 ⟨List.mem_range.2 hi, by rw [hb]; rfl⟩
     have h0 : (List.range l.length).filter (fun i => !listed.getD i true) = [] := List.eq_nil_of_length_eq_zero (by omega)
     rw [h0] at this; cases this
   have hmn : m = l.length := by
    rcases Nat.lt_or_ge m l.length with h1 | h1
    · have h2 := hsuf m (Nat.le_refl _) h1; rw [hall m h1] at h2; cases h2
    omega
   have hpd : listed.getD p false = true := by
    have := hall p (by omega); have h8 : p < listed.size := by omega
    simp [Array.getD_eq_getD_getElem?, Array.getElem?_eq_getElem h8] at this ⊢; exact this
   refine Vb (m := m) (b := listed) hpos (fun k h1 h2 => (hrow k _ (List.getElem?_eq_getElem h2)).2.2.2 h1) 0 l.length listed a w (by omega) (Nat.le_refl _) hs (by omega) hall (fun i h1 h2 => by omega) ?_
   refine (by rw [hmn] at h; exact h : Tr C (U1 (l.take l.length) Ts Γ) (Lf true) (wpList C.P l.toArray Q (l.drop l.length))) a w H ⟨hI.defers, hI.size, fun t T e => ?_⟩ hI.st (by have := hI.ow; rw [hpd] at this; exact this)
   rw [List.take_length] at e
   rcases Jg l Ts Γ t T (by rw [hT, hmn]) e with ⟨k, hk, hd, rfl⟩ | ⟨h1, h2⟩
   · exact hI.got k t (by omega) (by have := hall k hk; have h8 : k < listed.size := by omega
                                     simp [Array.getD_eq_getD_getElem?, Array.getElem?_eq_getElem h8] at this ⊢; exact this) hd
   exact hI.old t T h1 fun k hk hd => absurd hd (h2 k hk)
  | succ fuel ih =>
   intro listed a w H hs hf hsuf hc hI
   by_cases hpre : ∀ i, i < m → listed.getD i true = true
   · -- the open part is done
     have hpd : listed.getD p false = true := by
      have := hpre p (by omega); have h8 : p < listed.size := by omega
      simp [Array.getD_eq_getD_getElem?, Array.getElem?_eq_getElem h8] at this ⊢; exact this
     refine Vb (m := m) (b := listed) hpos (fun k h1 h2 => (hrow k _ (List.getElem?_eq_getElem h2)).2.2.2 h1) (fuel + 1) m listed a w (Nat.le_refl _) hml hs ?_ hpre hsuf ?_
     · have : (List.range' m (l.length - m)).length ≤ ((List.range l.length).filter fun i => !listed.getD i true).length := by
        refine List.Sublist.length_le (l₁ := List.range' m (l.length - m)) ?_
        have e1 : (List.range l.length).filter (fun i => !listed.getD i true) = List.range' m (l.length - m) := by
         have e2 : List.range l.length = List.range' 0 m ++ List.range' m (l.length - m) := by
          rw [List.range_eq_range', show l.length = m + (l.length - m) from by omega, ← List.range'_append]
          simp
         rw [e2, List.filter_append]
         have e3 : (List.range' 0 m).filter (fun i => !listed.getD i true) = [] := by
          rw [List.filter_eq_nil_iff]
          intro i hi
          have := (List.mem_range'_1.1 hi).2
          rw [hpre i (by omega)]; simp
         have e4 : (List.range' m (l.length - m)).filter (fun i => !listed.getD i true) = List.range' m (l.length - m) := by
          rw [List.filter_eq_self]
          intro i hi
          have := List.mem_range'_1.1 hi
          rw [hsuf i (by omega) (by omega)]; rfl
         rw [e3, e4, List.nil_append]
        rw [e1]
        exact List.Sublist.refl _
       rw [List.length_range'] at this
       omega
     refine h a w H ⟨hI.defers, hI.size, fun t T e => ?_⟩ hI.st (by have := hI.ow; rw [hpd] at this; exact this)
     rcases Jg (l.take m) Ts Γ t T (by rw [hT, List.length_take]; omega) e with ⟨k, hk, hd, rfl⟩ | ⟨h1, h2⟩
     · rw [List.length_take] at hk
       refine hI.got k t (by omega) ?_ (by unfold Z3 at hd ⊢; rw [List.getElem?_take, if_pos (by omega)] at hd; exact hd)
       have := hpre k (by omega)
       have h8 : k < listed.size := by omega
       simp [Array.getD_eq_getD_getElem?, Array.getElem?_eq_getElem h8] at this ⊢; exact this
     refine hI.old t T h1 fun k hk hd => ?_
     rcases Nat.lt_or_ge k m with h3 | h3
     · exact absurd (by unfold Z3 at hd ⊢; rw [List.getElem?_take, if_pos h3]; exact hd) (h2 k (by rw [List.length_take]; omega))
     have := hsuf k h3 hk
     have h8 : k < listed.size := by omega
     simp [Array.getD_eq_getD_getElem?, Array.getElem?_eq_getElem h8] at this ⊢; exact this
   refine ⟨fun hr => ?_, fun i hi => ?_⟩
   · -- something is always ready
     exfalso
     have hex : ∃ i, i < l.length ∧ listed.getD i true = false := by
      apply Classical.byContradiction
      intro hno
      refine hpre fun i hi => ?_
      cases hb : listed.getD i true with
      | true => rfl
      | false => exact absurd ⟨i, by omega, hb⟩ hno
     have hmin : ∀ n i, i < n → i < l.length → listed.getD i true = false → ∃ j, j < l.length ∧ listed.getD j true = false ∧ ∀ k, k < j → listed.getD k true = true := by
      intro n
      induction n with
      | zero => intro i h; omega
      | succ n ihn =>
       intro i hi hl hb
       by_cases hk : ∀ k, k < i → listed.getD k true = true
       · exact ⟨i, hl, hb, hk⟩
       have : ∃ k, k < i ∧ listed.getD k true = false := by
        apply Classical.byContradiction
        intro hno
        refine hk fun k hki => ?_
        cases hbk : listed.getD k true with
        | true => rfl
        | false => exact absurd ⟨k, hki, hbk⟩ hno
       obtain ⟨k, hk1, hk2⟩ := this
       exact ihn k (by omega) (by omega) hk2
     obtain ⟨i, hi, hb⟩ := hex
     obtain ⟨j, hj1, hj2, hj3⟩ := hmin (i + 1) i (by omega) hi hb
     have : j ∈ Region.ready .any l.toArray listed := by
      unfold Region.ready
      rw [List.mem_filter]
      refine ⟨by simpa using hj1, ?_⟩
      rw [hj2]
      have ho : l[j]? = some l[j] := List.getElem?_eq_getElem hj1
      simp only [List.getElem?_toArray, ho, Option.map_some, Option.getD_some, Bool.not_false, Bool.true_and]
      rw [← Array.all_toList, List.all_eq_true]
      intro e he
      by_cases hbe : Region.binds .any e = true
      · have hmem : e.on ∈ Jx l[j] := List.mem_map.2 ⟨e, List.mem_filter.2 ⟨he, hbe⟩, rfl⟩
        have h3 := hj3 e.on (hpos j _ ho _ hmem)
        have h4 : e.on < listed.size := by have := hpos j _ ho _ hmem; omega
        simp [Array.getD_eq_getD_getElem?, Array.getElem?_eq_getElem h4] at h3 ⊢
        simp [h3]
      simp [hbe]
     rw [hr] at this; cases this
   unfold Region.ready at hi
   rw [List.mem_filter] at hi
   obtain ⟨hi1, hi2⟩ := hi
   have hil : i < l.length := by simpa using hi1
   simp only [Bool.and_eq_true, Bool.not_eq_true'] at hi2
   have ho : l[i]? = some l[i] := List.getElem?_eq_getElem hil
   have hr : ∀ e ∈ Jx l[i], (fun j => listed.getD j false) e = true := by
    intro e he
    obtain ⟨ed, hed, rfl⟩ := List.mem_map.1 he
    rw [List.mem_filter] at hed
    have h4 := hi2.2
    simp only [List.getElem?_toArray, ho, Option.map_some, Option.getD_some, ← Array.all_toList, List.all_eq_true] at h4
    have h5 := h4 ed hed.1
    simpa [hed.2] using h5
   have hbi : (fun j => listed.getD j false) i = false := by
    have h8 : i < listed.size := by omega
    have := hi2.1
    simp [Array.getD_eq_getD_getElem?, Array.getElem?_eq_getElem h8] at this ⊢; exact this
   have hmk := Ub hc ho hr
   have him : i < m := by
    rcases Nat.lt_or_ge i m with h1 | h1
    · exact h1
    exfalso
    refine hpre fun j hj => ?_
    have := hmk j ((hrow i _ ho).2.2.2 h1 j (by omega))
    have h8 : j < listed.size := by omega
    simp [Array.getD_eq_getD_getElem?, Array.getElem?_eq_getElem h8] at this ⊢; exact this
   obtain ⟨o, ho2, hop⟩ := Qol hops i (by omega)
   have hoo : o = l[i] := by rw [ho] at ho2; exact (Option.some.inj ho2).symm
   subst hoo
   have hcl : ∀ k, k < l.length → listed.getD k false = true → ∀ j, ((X0 l []).getD k 0).testBit j = true → listed.getD j false = true := fun k hk hb j hj => Va hc (k + 1) k (by omega) hk hb j hj
   have hfit := Qat hI him hml hbi hmk hcl (hlt i hil) ((hrow i _ ho).2.2.1 him)
   have hfl : Jl l p i (listed.getD p false) = true := by
    unfold Jl
    cases hbp : listed.getD p false with
    | false =>
     simp only [Bool.false_eq_true, if_false, Bool.not_eq_true']
     cases hq : ((X0 l []).getD i 0).testBit p with
     | false => rfl
     | true => have h8 := hmk p hq; exact absurd (h8.symm.trans hbp) (by simp)
    | true =>
     simp only [if_true, Bool.and_eq_true, Bool.not_eq_true']
     refine ⟨?_, ?_⟩
     · cases hq : ((X0 l []).getD p 0).testBit i with
       | false => rfl
       | true => have h8 := hcl p (by omega) hbp i hq; exact absurd (h8.symm.trans hbi) (by simp)
     cases hq : Nat.beq i p with
     | false => rfl
     | true => have h8 := Nat.eq_of_beq_eq_true hq; subst h8; exact absurd (hbp.symm.trans hbi) (by simp)
   have hop2 := hop (listed.getD p false) hfl a w H hfit hI.st hI.ow Q (wpAny C.P .any l.toArray Q fuel (listed.setIfInBounds i true)) ?_
   · unfold wpOp
     have : l.toArray[i]? = some l[i] := by simp
     rw [this]
     simp only
     split
     · rename_i hw; rw [if_pos hw] at hop2; exact .inl hop2
     rename_i hw; rw [if_neg hw] at hop2; exact hop2
   intro v w' H' hsub hst' how' hv
   refine ih _ _ w' H' (by simpa using hs) ?_ ?_ ?_ ?_
   · have : ((List.range l.length).filter fun j => !(listed.setIfInBounds i true).getD j true).length < ((List.range l.length).filter fun j => !listed.getD j true).length := by
      have hsub : (List.range l.length).filter (fun j => !(listed.setIfInBounds i true).getD j true) = ((List.range l.length).filter fun j => !listed.getD j true).filter (fun j => !(Nat.beq i j)) := by
       rw [List.filter_filter]
       apply List.filter_congr
       intro j hj
       simp only [Array.getD_eq_getD_getElem?, Array.getElem?_setIfInBounds]
       by_cases hij : i = j
       · subst hij; simp [show i < listed.size from by omega]
       have : Nat.beq i j = false := by
        cases hb : Nat.beq i j with
        | false => rfl
        | true => exact absurd (Nat.eq_of_beq_eq_true hb) hij
       simp [hij, this]
      rw [hsub]
      have hmem : i ∈ (List.range l.length).filter fun j => !listed.getD j true := List.mem_filter.2 ⟨List.mem_range.2 hil, by rw [hi2.1]; rfl⟩
      exact List.length_filter_lt_length_iff_exists.2 ⟨i, hmem, by simp⟩
     omega
   · intro j hj hjl
     have := hsuf j hj hjl
     simp only [Array.getD_eq_getD_getElem?] at this
     simp only [Array.getD_eq_getD_getElem?, Array.getElem?_setIfInBounds]
     simp [show ¬ i = j from by omega, this]
   · intro k o' ho' hb' e he
     simp only [Array.getD_eq_getD_getElem?, Array.getElem?_setIfInBounds] at hb' ⊢
     by_cases hie : i = e
     · subst hie; simp [show i < listed.size from by omega]
     simp only [if_neg hie]
     have h8 : ∀ e, (listed[e]?).getD false = listed.getD e false := fun e => by simp [Array.getD_eq_getD_getElem?]
     rw [h8]
     by_cases hik : i = k
     · subst hik
       have : l[i] = o' := by rw [ho] at ho'; exact Option.some.inj ho'
       subst this
       exact hr e he
     simp only [if_neg hik] at hb'
     rw [h8] at hb'
     exact hc k o' ho' hb' e he
   have hdd : ∀ t, (a.put l[i].dst v).tmps.getD t undef = if l[i].dst = some t then v else a.tmps.getD t undef := by
    intro t
    cases hd : l[i].dst with
    | none => simp [Act.put]
    | some d =>
     rw [Qbo]
     have hdN : d < C.N := by
      have := (hrow i _ ho).2.1
      rw [hd] at this; simpa using this
     by_cases hdt : d = t
     · subst hdt; simp [hI.size, hdN]
     simp [hdt]
   refine ⟨?_, ?_, hst', ?_, ?_, ?_⟩
   · cases hd : l[i].dst <;> simp [Act.put, hI.defers]
   · cases hd : l[i].dst <;> simp [Act.put, hI.size]
   · have e : (listed.setIfInBounds i true).getD p false = (listed.getD p false || Nat.beq i p) := by
      simp only [Array.getD_eq_getD_getElem?, Array.getElem?_setIfInBounds]
      by_cases hip : i = p
      · subst hip; simp [show i < listed.size from by omega]
      have : Nat.beq i p = false := by
       cases hb : Nat.beq i p with
       | false => rfl
       | true => exact absurd (Nat.eq_of_beq_eq_true hb) hip
      simp [hip, this]
     rw [e]; exact how'
   · intro t T hf hall
     have hbt : ∀ k, k < l.length → Z3 l k = some t → listed.getD k false = false ∧ k ≠ i := by
      intro k hk hd
      have := hall k hk hd
      simp only [Array.getD_eq_getD_getElem?, Array.getElem?_setIfInBounds] at this ⊢
      by_cases hik : i = k
      · subst hik; simp [show i < listed.size from by omega] at this
      simp [hik] at this; exact ⟨this, fun e => hik e.symm⟩
     have hne : ¬ l[i].dst = some t := fun e => (hbt i hil (by simp [Z3, ho, e])).2 rfl
     rw [hdd, if_neg hne]
     exact T.mono hsub (hI.old t T hf fun k hk hd => (hbt k hk hd).1)
   intro k t hkm hb hd
   rw [hdd]
   simp only [Array.getD_eq_getD_getElem?, Array.getElem?_setIfInBounds] at hb
   by_cases hik : i = k
   · subst hik
     have : l[i].dst = some t := by simpa [Z3, ho] using hd
     rw [if_pos this]
     exact hv
   simp only [if_neg hik] at hb
   have hb' : listed.getD k false = true := by simpa [Array.getD_eq_getD_getElem?] using hb
   have hne : ¬ l[i].dst = some t := by
    intro e
    have h1 : (l.take m)[i]? = some l[i] := by rw [List.getElem?_take, if_pos him]; exact ho
    have hkl : k < l.length := by omega
    have h2 : (l.take m)[k]? = some l[k] := by rw [List.getElem?_take, if_pos hkm]; exact List.getElem?_eq_getElem hkl
    have h3 : l[k].dst = some t := by simpa [Z3, List.getElem?_eq_getElem hkl] using hd
    exact hik (nodup_filterMap hnd h1 h2 e h3)
   rw [if_neg hne]
   exact (Ts.getD k Yu).mono hsub (hI.got k t hkm hb' hd)
 refine main l.length (Array.replicate l.length false) a { w with drawn := w.drawn + 1 } H (by simp) (by
  refine Nat.le_trans (List.length_filter_le _ _) (by simp)) (fun i _ hi => by simp [Array.getD_eq_getD_getElem?, hi]) ?_ ?_ |> fun h => by simpa using h
 · intro k o ho hb e he
   simp [Array.getD_eq_getD_getElem?, Array.getElem?_replicate] at hb
   split at hb <;> simp at hb
 · refine ⟨f.defers, f.size, ⟨s.sub, fun k o e => s.on k o e, s.os, s.tape, s.output, s.size, s.keep, s.new⟩, ?_, fun t T hf _ => f.get t T hf, fun k t _ hb => ?_⟩
   · have e0 : (Array.replicate l.length false).getD p false = false := by simp only [Array.getD_eq_getD_getElem?, Array.getElem?_replicate]; split <;> rfl
     rw [e0]
     exact ⟨fun i hi => i.st (w := w) (w' := { w with drawn := w.drawn + 1 }) (fun _ _ => rfl) (Sub.refl _) (ow.all i hi), ow.nodup, ow.own⟩
   simp [Array.getD_eq_getD_getElem?, Array.getElem?_replicate] at hb
   split at hb <;> simp at hb
where
 nodup_filterMap {l : List Oper} (h : (l.filterMap (·.dst)).Nodup) {i k : Nat} {o o' : Oper} {t : Nat} (hi : l[i]? = some o) (hk : l[k]? = some o') (ho : o.dst = some t) (ho' : o'.dst = some t) : i = k := by
  induction l generalizing i k with
  | nil => simp at hi
  | cons q l ih =>
   cases i with
   | zero =>
    cases k with
    | zero => rfl
    | succ k =>
     exfalso
     have : q = o := by simpa using hi
     subst this
     rw [List.filterMap_cons_some ho] at h
     exact (List.nodup_cons.1 h).1 (List.mem_filterMap.2 ⟨o', List.mem_of_getElem? (by simpa using hk), ho'⟩)
   | succ i =>
    cases k with
    | zero =>
     exfalso
     have : q = o' := by simpa using hk
     subst this
     rw [List.filterMap_cons_some ho'] at h
     exact (List.nodup_cons.1 h).1 (List.mem_filterMap.2 ⟨o, List.mem_of_getElem? (by simpa using hi), ho⟩)
    | succ k =>
     have hn : (l.filterMap (·.dst)).Nodup := by
      cases hq : q.dst with
      | none => rwa [List.filterMap_cons_none hq] at h
      | some d => rw [List.filterMap_cons_some hq] at h; exact (List.nodup_cons.1 h).2
     exact congrArg (· + 1) (ih hn (i := i) (k := k) (by simpa using hi) (by simpa using hk))
end
theorem OT.gu_in {N : Nat} {Γ : Env} {x : Operand} {p : Prop} {T : Ty} (h : OT N Γ x T) (hp : p) : OT N Γ x (GuT p T) := fun a H f => ⟨fun _ => h a H f, fun hn => absurd hp hn⟩
end Go.Gw
namespace Go.Gw
open Go Go.ChangeShapes Go.WideShapes Go.RowKit
abbrev U2 (w : World) : FH := fun k => w.heap[k]?
theorem Qrq (w : World) : On (U2 w) w := fun k o e => e
def Opn {α : Type} (P : Program) (t : TypeId) (d : Kd α) (good : α → Prop) : Prop :=
 ∀ (Hh : Type) (enc : TypeId × Value → Hh) (w : World) (fuel : Nat) (cs : List Value) (x : DataW Hh × List MemPlace), DataW.trod enc P w 0 (fun _ => true) true fuel t cs = some x → ∃ v, d.K (U2 w) v cs ∧ good v
section
variable {P : Program} {α β : Type} {d : Kd α} {good : α → Prop}
theorem Q5l {t : TypeId} {k : IntKind} (ht : P.underlying t = some (.int k)) : Opn P t (Jw k) (fun n => (Lit.int k n).wf = true) := fun Hh enc w fuel cs x h => by
 obtain ⟨n, rfl, _, hw⟩ := DataW.trod_int ht h
 exact ⟨n, rfl, hw⟩
theorem Qgp {p : Nat → α → Prop} : ∀ (n : Nat), (∀ i, i < n → ∃ v, p i v) → ∃ xs : List α, xs.length = n ∧ ∀ i x, xs[i]? = some x → p i x
 | 0, _ => ⟨[], rfl, fun i x h => by simp at h⟩
 | n + 1, h => by
  obtain ⟨xs, h1, h2⟩ := Qgp n fun i hi => h i (by omega)
  obtain ⟨v, hv⟩ := h n (by omega)
  refine ⟨xs ++ [v], by simp [h1], fun i x e => ?_⟩
  rcases Nat.lt_or_ge i n with hi | hi
  · rw [List.getElem?_append_left (by omega)] at e; exact h2 i x e
  have hl := (List.getElem?_eq_some_iff.1 e).1
  simp at hl
  obtain rfl : i = n := by omega
  rw [List.getElem?_append_right (by omega), h1, Nat.sub_self] at e
  have : v = x := by simpa using e
  exact this ▸ hv
theorem Q4j {t el : TypeId} (hd : Opn P el d good) (ht : P.underlying t = some (.slice el)) (hs : P.cellsOf el = d.sz) (h0 : 0 < d.sz) : Opn P t (ksl d) (fun xs => ∀ x ∈ xs, good x) := fun Hh enc w fuel cs x h => by
 rcases DataW.trod_slice ht h with ⟨rfl, _⟩ | ⟨a, len, cap, elems, rest, m, _, rfl, _, _, hlc, hcm, hel, hi, _, _⟩
 · exact ⟨[], ⟨_, rfl, none, 0, rfl, by simp, by simp, fun h => by simp at h⟩, by simp⟩
 obtain ⟨xs, h1, h2⟩ := Qgp (p := fun i v => ∃ cs', d.K (U2 w) v cs' ∧ cs'.length = d.sz ∧ (∀ j, j < d.sz → w.cell? ((a.add (i * d.sz)).add j) = cs'[j]?) ∧ good v) len fun i hin => by
  have h3 := hi i hin
  rw [hs, List.getElem?_eq_getElem (by omega), Option.bind_eq_some_iff] at h3
  obtain ⟨cs', hc, ht'⟩ := h3
  obtain ⟨v, hv, hg⟩ := hd Hh enc w m _ _ ht'
  obtain ⟨_, hl, hat⟩ := World.cells?_some hc
  exact ⟨v, cs', hv, hl, hat, hg⟩
 refine ⟨xs, ⟨_, rfl, some a, cap, by rw [h1], by rw [h1]; exact hlc, by rw [h1]; exact Nat.le_trans hlc hcm, fun hpos => ?_⟩, fun x hx => ?_⟩
 · obtain ⟨cs0, _, hl0, hat0, _⟩ := h2 0 _ (List.getElem?_eq_getElem (by omega : 0 < xs.length))
   have hc0 : w.cell? ((a.add (0 * d.sz)).add 0) = some cs0[0] := by rw [hat0 0 h0, List.getElem?_eq_getElem (by omega)]
   obtain ⟨b, off, spot⟩ := a
   have hspot : spot = none := by
    cases spot with
    | none => rfl
    | some q => simpa [Addr.add] using World.cell?_spot hc0
   subst hspot
   have hblk : ∃ cells e fr, w.heap[b]? = some (.cells cells e fr) := by
    unfold World.cell? at hc0
    simp only [add_plain] at hc0
    split at hc0
    · rename_i c e fr hb; exact ⟨c, e, fr, hb⟩
    cases hc0
   obtain ⟨cells, e, fr, hb⟩ := hblk
   have hcell : ∀ k, w.cell? ⟨b, k, none⟩ = cells[k]? := fun k => by unfold World.cell?; rw [hb]; simp
   have hat : ∀ i x, xs[i]? = some x → ∃ cs', d.K (U2 w) x cs' ∧ cs'.length = d.sz ∧ ∀ j, j < d.sz → cells[off + i * d.sz + j]? = cs'[j]? := fun i x e' => by
    obtain ⟨cs', k1, k2, k3, _⟩ := h2 i x e'
    exact ⟨cs', k1, k2, fun j hj => by rw [← hcell, ← k3 j hj, add_plain, add_plain]⟩
   have hfit : off + xs.length * d.sz ≤ cells.size := by
    have hlt : xs.length - 1 < xs.length := by omega
    obtain ⟨cs', k1, k2, k3⟩ := hat (xs.length - 1) _ (List.getElem?_eq_getElem hlt)
    have h5 := k3 (d.sz - 1) (by omega)
    rw [List.getElem?_eq_getElem (by omega)] at h5
    have h6 := (Array.getElem?_eq_some_iff.1 h5).1
    have h7 : (xs.length - 1) * d.sz + d.sz = xs.length * d.sz := by rw [← Nat.succ_mul]; congr 1; omega
    omega
   refine ⟨⟨b, off, none⟩, cells, e, fr, (cells.toList.drop off).take (xs.length * d.sz), rfl, rfl, hb, ⟨?_, fun j x e' => ?_⟩, fun i u e' => ?_⟩
   · have e9 : cells.toList.length = cells.size := Array.length_toList
     rw [List.length_take, List.length_drop, e9]; omega
   · obtain ⟨cs', k1, k2, k3⟩ := hat j x e'
     have hj := (List.getElem?_eq_some_iff.1 e').1
     have hle : j * d.sz + d.sz ≤ xs.length * d.sz := by rw [← Nat.succ_mul]; exact Nat.mul_le_mul_right _ hj
     have : (((cells.toList.drop off).take (xs.length * d.sz)).drop (j * d.sz)).take d.sz = cs' := by
      apply List.ext_getElem?
      intro i
      rw [List.getElem?_take]
      by_cases hi' : i < d.sz
      · rw [if_pos hi', List.getElem?_drop, List.getElem?_take, if_pos (by omega), List.getElem?_drop, ← Nat.add_assoc, Array.getElem?_toList, k3 i hi']
      rw [if_neg hi', List.getElem?_eq_none (by omega)]
     rw [this]; exact k1
   rw [List.getElem?_take] at e'
   split at e'
   · rw [List.getElem?_drop, Array.getElem?_toList] at e'; exact e'
   cases e'
 obtain ⟨i, hi⟩ := List.getElem?_of_mem hx
 obtain ⟨_, _, _, _, hg⟩ := h2 i x hi
 exact hg
end
theorem Q4k {Hh : Type} {enc : TypeId × Value → Hh} {P : Program} {W : World} {t e : TypeId} {a : Option Addr} {len cap : Nat} {d : DataW Hh} {ps : List MemPlace} {ts : List TypeId} {ds : List (DataW Hh)} {j : Nat}
 (hsz : (DataW.weightsEach P ts ds).all (· ≤ reachBytes) = true) (ht : ts[j]? = some t) (hd : ds[j]? = some d) (hu : P.underlying t = some (.slice e)) {B : Nat} (hB : P.bytesOf e = B)
 (h : DataW.Trod enc P W 0 (fun _ => true) true t (.slice a len cap) d ps) : len * B ≤ 140737488351232 := by
 obtain ⟨fuel, hf⟩ := h
 rcases DataW.trod_slice hu hf with ⟨hcs, _⟩ | ⟨x, l, c, elems, rest, m, _, hcs, hx, _, _, _, hl, _⟩
 · simp [Value.cells] at hcs
   obtain ⟨rfl, rfl, rfl⟩ := hcs
   simp
 simp [Value.cells] at hcs
 obtain ⟨rfl, rfl, rfl⟩ := hcs
 obtain ⟨hx, _⟩ := Prod.mk.inj hx
 subst hx
 have z := sized_slice hsz ht hd hu
 rw [hB] at z
 simp only [List.length_map] at z
 exact Nat.le_trans (Nat.mul_le_mul_right _ (by omega)) z
theorem Ct.weak {P : Program} {f : FuncId} {As : List Ty} {J : List It} {ρ : Type} {T T' : ρ → Ty} {I : ρ → List It} {φ φ' : ρ → Prop} (h : Ct P f As J ρ T I φ) (hT : ∀ r, φ r → ∀ H v, (T r).p H v → (T' r).p H v) (hφ : ∀ r, φ r → φ' r) : Ct P f As J ρ T' I φ' :=
 fun H w args a b c => (h H w args a b c).mono fun e w' ⟨r, v, H', h1, h2, h3, h4, h5⟩ => ⟨r, v, H', h1, hφ r h2, h3, hT r h2 H' v h4, h5⟩
end Go.Gw
namespace Go.Gw
open Go
section
variable {C : Cx} {Γ : Env} {L : List It} {dst : Option Tmp} {ty : TypeId} {pos : String} {after : Array Edge} {guard : Option (Nat × Bool)} {x : Operand}
theorem Qe {b off : Nat} (hx : OT C.N Γ x (IsV (pt b off))) : Pure C Γ L ⟨dst, .nilCheck x, ty, pos, after, guard⟩ (IsV (pt b off)) := fun a w H f s ow => by
 have hv : a.eval x = pt b off := hx a H f
 exact ⟨_, by simp [execOp, hv], rfl⟩
end
end Go.Gw
namespace Go.Gw
open Go
end Go.Gw
namespace Go.Gw
open Go
section
variable {C : Cx} {Γ : Env} {L : List It} {dst : Option Tmp} {ty : TypeId} {pos : String} {after : Array Edge} {guard : Option (Nat × Bool)} {x y : Operand}
theorem Qau {s t : TypeId} {us : TypeDesc} {k k' : IntKind} {n : Int} (hx : OT C.N Γ x (Zy k n)) (hs : C.P.underlying s = some us) (ht : C.P.underlying t = some (.int k')) : Pure C Γ L ⟨dst, .convert s t x, ty, pos, after, guard⟩ (Zy k' (k'.wrap n)) := fun a w H f s' ow => by
 have h1 : a.eval x = .int k n := hx a H f
 refine ⟨.int k' (k'.wrap n), ?_, rfl⟩
 simp only [execOp, convert, h1, Sem.run_bind, run_underlying hs, run_underlying ht, Result.andThen_ok]
 cases us <;> rfl
theorem Qy5 {k : IntKind} {n : Int} (h0 : 0 ≤ n) (h1 : n < 2 ^ (k.bits - 1)) : k.wrap n = n := by
 have hp : (2 : Int) ^ k.bits = 2 * 2 ^ (k.bits - 1) := by cases k <;> rfl
 have hm : n % 2 ^ k.bits = n := Int.emod_eq_of_lt h0 (by omega)
 simp only [IntKind.wrap, hm]
 rw [if_neg]
 simp only [Bool.and_eq_true, decide_eq_true_eq, not_and]
 intro _; omega
theorem Qlu {s t : TypeId} {us : TypeDesc} {k k' : IntKind} {n : Int} (hx : OT C.N Γ x (Zy k n)) (hs : C.P.underlying s = some us) (ht : C.P.underlying t = some (.int k')) (h0 : 0 ≤ n) (h1 : n < 9223372036854775808) (hb : k'.bits = 64) : Pure C Γ L ⟨dst, .convert s t x, ty, pos, after, guard⟩ (Zy k' n) := by
 have := Qau (C := C) (L := L) (dst := dst) (ty := ty) (pos := pos) (after := after) (guard := guard) hx hs ht
 rwa [Qy5 h0 (by rw [hb]; exact h1)] at this
end
end Go.Gw
namespace Go.Gw
open Go
section
variable {C : Cx} {Γ : Env} {L : List It} {Q : Exit → Act → World → Prop}
def Joined (C : Cx) {σ : Type} (Γ : σ → Env) (L : σ → List It) (I : σ → Prop) : Act → World → Prop := fun a w =>
 ∃ s H, I s ∧ Fits C.N (Γ s) H a ∧ St C.M C.H0 C.w0 H w ∧ Xu C.ok w H (L s)
theorem Qac {σ : Type} {Γk : Env} (hk : Yy C.N Γ Γk) (Δ : σ → Env) (Lj : σ → List It) (I : σ → Prop) {x y : Code}
 (h1 : Tr C Γ L (x.wp C.P (Exit.then (Joined C (fun s => Δ s ++ Γk) Lj I) Q)))
 (h2 : ∀ s, I s → Tr C (Δ s ++ Γk) (Lj s) (y.wp C.P Q)) : Tr C Γ L ((Code.seq x y).wp C.P Q) := by
 refine Zi (h1.imp fun a w h => ?_)
 intro b k cs
 obtain ⟨e, a', w', hq, harr⟩ := h b k cs
 refine ⟨e, a', w', ?_, harr⟩
 cases e with
 | normal =>
  obtain ⟨s, H, hI, hf, hs, ho⟩ := hq
  exact h2 s hI a' w' H hf hs ho
 | _ => exact hq
theorem Y2 {σ : Type} {Γj : σ → Env} {Lj : σ → List It} {I : σ → Prop} (s : σ) (hI : I s) (hΓ : Yy C.N Γ (Γj s)) (hL : ∀ w H, Xu C.ok w H L → Xu C.ok w H (Lj s)) :
 Tr C Γ L (Joined C Γj Lj I) := fun a w H f st o => ⟨s, H, hI, hΓ a H f, st, hL w H o⟩
end
end Go.Gw
namespace Go.Gw
open Go
section
variable {C : Cx} {Γ : Env} {L : List It} {dst : Option Tmp} {ty : TypeId} {pos : String} {after : Array Edge} {guard : Option (Nat × Bool)} {x y : Operand}
end
end Go.Gw
namespace Go.Gw
open Go
def Qup (C : Cx) (Γ : Env) (L : List It) {ρ : Type} (L' : ρ → List It) (φ : ρ → Prop) (ops : Array Oper) (o : Oper) (T : ρ → Ty) : Prop :=
 ∀ a w H, Fits C.N Γ H a → St C.M C.H0 C.w0 H w → Xu C.ok w H L → ∀ (Q : Exit → Act → World → Prop) (K : Act → World → Prop),
  (∀ (r : ρ) (v : Value) (w' : World) (H' : FH), φ r → Sub H H' → St C.M C.H0 C.w0 H' w' → Xu C.ok w' H' (L' r) → (T r).p H' v → K (a.put o.dst v) w') → if Region.wanted o (yielded ops a.tmps) = true then o.wp C.P a w K Q else K (a.put o.dst undef) w
section
variable {C : Cx} {Γ : Env} {L R : List It} {ops : Array Oper}
theorem Qy6 {o : Oper} {ρ : Type} {T : ρ → Ty} {ψ : ρ → Prop} (r : ρ) {L' : ρ → List It} (hL : L' r = L) (hψ : ψ r) (h : ROp C Γ L ops o (T r)) : Qup C Γ L L' ψ ops o T := fun a w H f s ow Q K hK =>
 h a w H f s ow Q K fun v w' H' s' hv => hK r v w' H' hψ s'.sub (s.trans0 s') (hL ▸ ow.st0 s') hv
theorem Zg {J : List It} {o : Oper} {ρ : Type} {T : ρ → Ty} {I : ρ → List It} {φ ψ : ρ → Prop} {T' : ρ → Ty} {L' : ρ → List It} (hg : o.guard = none) (hp : Yp C Γ L o J ρ T I φ) (hL : List.Perm L (J ++ R)) (hL' : ∀ r, List.Perm (I r ++ R) (L' r)) (hψ : ∀ r, φ r → ψ r) (hT : ∀ r, φ r → ∀ H v, (T r).p H v → (T' r).p H v) : Qup C Γ L L' ψ ops o T' := fun a w H f s ow Q K hK => by
 rw [if_pos (by simp [Region.wanted, hg])]
 refine hp a w H f s ow Q K fun r v w' H' hφ s' hv ho => hK r v w' H' (hψ r hφ) s'.sub ?_ ?_ (hT r hφ H' v hv)
 · exact s.trans s' fun k hk => ((ow.perm hL).left.own k hk).2.2
 have ow' := ow.perm hL
 have hM : ∀ k, k ∈ X8 J → C.M k ∨ C.w0.heap.size ≤ k := fun k hk => (ow'.left.own k hk).2.2
 refine Xu.perm ?_ (hL' r)
 refine Xu.append (ho.mono fun g _ hg => ?_) (ow'.right.st s' fun g hg hj => ow'.apart g hj hg) fun g hg hr => ?_
 · rcases hg with hg | hg
   · exact hM g hg
   exact .inr (Nat.le_trans s.size hg)
 rcases (ho.own g hg).2.2 with h1 | h1
 · exact ow'.apart g h1 hr
 have := (ow'.right.own g hr).1; omega
end
def OpG (C : Cx) (Γ : Env) {ρ : Type} (Lf : Bool → ρ → List It) (p : Nat) (all : List Oper) (ops : Array Oper) (Ts : ρ → List Ty) (φ : ρ → Prop) (i : Nat) (o : Oper) (n : Vp) : Prop :=
 (∀ c r, Jl all p i c = true → Qup C (Qab Γ (Ts r) n) (Lf c r) (fun r' => Lf (c || Nat.beq i p) r') (fun r' => cond (Nat.beq i p) (∀ _ : true = true, φ r') (r' = r ∧ True)) ops o (fun r' => (Ts r').getD i Yu)) ∧
 (Jl all p i false = true → Nat.beq i p = false → ∀ r r', (Ts r).getD i Yu = (Ts r').getD i Yu)
def Qgq (C : Cx) (Γ : Env) {ρ : Type} (Lf : Bool → ρ → List It) (p : Nat) (all : List Oper) (ops : Array Oper) (Ts : ρ → List Ty) (φ : ρ → Prop) : Nat → List Oper → List Vp → Prop
 | i, o :: l, n :: ns => OpG C Γ Lf p all ops Ts φ i o n ∧ Qgq C Γ Lf p all ops Ts φ (i + 1) l ns
 | _, _, [] => True
 | _, [], _ :: _ => False
theorem Qd4 {C : Cx} {Γ : Env} {ρ : Type} {Lf : Bool → ρ → List It} {p : Nat} {all : List Oper} {ops : Array Oper} {Ts : ρ → List Ty} {φ : ρ → Prop} : ∀ {n : Nat} {l : List Oper} {ns : List Vp}, Qgq C Γ Lf p all ops Ts φ n l ns → ∀ i, i < ns.length → ∃ o, l[i]? = some o ∧ OpG C Γ Lf p all ops Ts φ (n + i) o (ns.getD i [])
 | n, o :: l, m :: ns, h, 0, _ => ⟨o, rfl, h.1⟩
 | n, o :: l, m :: ns, h, i + 1, hi => by
  obtain ⟨o', h1, h2⟩ := Qd4 h.2 i (by simpa using hi)
  exact ⟨o', by simpa using h1, by rw [Nat.add_right_comm, Nat.add_assoc] at h2; simpa using h2⟩
 | _, [], [], _, i, hi => by simp at hi
 | _, _ :: _, [], _, i, hi => by simp at hi
theorem Qha {C : Cx} {Γ : Env} {ρ : Type} {Lf : Bool → ρ → List It} {p : Nat} {all : List Oper} {ops : Array Oper} {Ts : ρ → List Ty} {φ : ρ → Prop} {l : List Oper} {ns : List Vp} (h : Qgq C Γ Lf p all ops Ts φ 0 l ns) (i : Nat) (hi : i < ns.length) : ∃ o, l[i]? = some o ∧ OpG C Γ Lf p all ops Ts φ i o (ns.getD i []) := by
 have := Qd4 h i hi
 simpa using this
section
variable {C : Cx} {Γ : Env} {L : List It} {Q : Exit → Act → World → Prop} {l : List Oper} {ns : List Vp} {ρ : Type} {Ts : ρ → List Ty} {φ : ρ → Prop} {m : Nat}
structure Q4q {ρ : Type} (C : Cx) (Γ : Env) (Lf : Bool → ρ → List It) (p : Nat) (l : List Oper) (Ts : ρ → List Ty) (φ : ρ → Prop) (m : Nat) (r : ρ) (b : Nat → Bool) (a : Act) (w : World) (H : FH) : Prop where
 defers : a.defers = []
 size : a.tmps.size = C.N
 st : St C.M C.H0 C.w0 H w
 ow : Xu C.ok w H (Lf (b p) r)
 phi : b p = true → φ r
 old : ∀ t T, find Γ t = some T → (∀ k, k < l.length → Z3 l k = some t → b k = false) → T.p H (a.tmps.getD t undef)
 got : ∀ k t, k < m → b k = true → Z3 l k = some t → ((Ts r).getD k Yu).p H (a.tmps.getD t undef)
theorem Qav {Lf : Bool → ρ → List It} {r : ρ} {p : Nat} {i : Nat} {b : Nat → Bool} {a : Act} {w : World} {H : FH} (hI : Q4q C Γ Lf p l Ts φ m r b a w H) (him : i < m) (hlen : m ≤ l.length) (hi : b i = false) (hm : ∀ j, ((X0 l []).getD i 0).testBit j = true → b j = true) (hcl : ∀ k, k < l.length → b k = true → ∀ j, ((X0 l []).getD k 0).testBit j = true → b j = true) (hlt : ∀ j, ((X0 l []).getD i 0).testBit j = true → j < i) :
 ∀ {n : Vp}, J0 l (X0 l []) i n = true → Fits C.N (Qab Γ (Ts r) n) H a
 | [], _ => ⟨hI.defers, hI.size, fun t T h => by cases h⟩
 | (t, none) :: nr, h => by
  simp only [J0, Bool.and_eq_true] at h
  refine Yq ?_ (Qav hI him hlen hi hm hcl hlt h.2)
  cases hf : find Γ t with
  | none => exact trivial
  | some T =>
   refine hI.old t T hf fun k hk hd => ?_
   have h1 := List.all_eq_true.1 h.1 k (List.mem_range.2 hk)
   simp only [hd, beq_self_eq_true, Bool.not_true, Bool.false_or, Bool.or_eq_true] at h1
   rcases h1 with h1 | h1
   · rw [Nat.eq_of_beq_eq_true h1]; exact hi
   cases hb : b k with
   | false => rfl
   | true => have := hcl k hk hb i h1; rw [hi] at this; cases this
 | (t, some j) :: nr, h => by
  simp only [J0, Bool.and_eq_true, beq_iff_eq] at h
  refine Yq ?_ (Qav hI him hlen hi hm hcl hlt h.2)
  exact hI.got j t (by have := hlt j h.1.2; omega) (hm j h.1.2) h.1.1
theorem Yg {id : Nat} {p : Nat} {Lf : Bool → ρ → List It} (r0 : ρ) (hp : Nat.ble (p + 1) m = true) (hm : C.P.follows .mixedOrders = true) (hok : Qf6 C.N l m ns = true) (hT : ∀ r, (Ts r).length = m) (hops : Qgq C Γ Lf p l l.toArray Ts φ 0 l ns) (h : ∀ r, φ r → Tr C (U1 (l.take m) (Ts r) Γ) (Lf true r) (wpList C.P l.toArray Q (l.drop m))) : Tr C Γ (Lf false r0) ((Code.region id l.toArray true).wp C.P Q) := by
 simp only [Qf6, Bool.and_eq_true, decide_eq_true_eq] at hok
 obtain ⟨⟨⟨hok1, hnd⟩, hnl⟩, hml⟩ := hok
 have hml : m ≤ l.length := Nat.le_of_ble_eq_true hml
 have hpm : p < m := Nat.le_of_ble_eq_true hp
 have hrow : ∀ k o, l[k]? = some o → (∀ e ∈ Jx o, e < k) ∧ (o.dst.all fun d => decide (d < C.N)) = true ∧ (k < m → J0 l (X0 l []) k (ns.getD k []) = true) ∧ (m ≤ k → ∀ j, j < k → ((X0 l []).getD k 0).testBit j = true) := by
  intro k o ho
  have hk := (List.getElem?_eq_some_iff.1 ho).1
  have h1 := List.all_eq_true.1 hok1 k (List.mem_range.2 hk)
  rw [ho] at h1
  simp only [Bool.and_eq_true, List.all_eq_true, decide_eq_true_eq] at h1
  refine ⟨h1.1.1, h1.1.2, fun hkm => ?_, fun hkm j hj => ?_⟩
  · have h2 := h1.2; rw [if_pos hkm] at h2; exact h2
  have h2 := h1.2; rw [if_neg (by omega)] at h2; exact List.all_eq_true.1 h2 j (List.mem_range.2 hj)
 have hpos : ∀ k o, l[k]? = some o → ∀ e ∈ Jx o, e < k := fun k o ho => (hrow k o ho).1
 have hlt : ∀ i, i < l.length → ∀ j, ((X0 l []).getD i 0).testBit j = true → j < i := by
  intro i
  induction i using Nat.strongRecOn with
  | _ i ih =>
   intro hi j hj
   have ho : l[i]? = some l[i] := List.getElem?_eq_getElem hi
   have hm' := U9 l [] i _ ho
   simp only [List.length_nil, Nat.zero_add] at hm'
   rw [List.getD_eq_getElem?_getD, hm', Option.getD_some] at hj
   obtain ⟨e, he, h⟩ := Qaa hj
   have hei := hpos i _ ho e he
   rcases h with rfl | h
   · exact hei
   rw [List.getD_eq_getElem?_getD, List.getElem?_take, if_pos hei, ← List.getD_eq_getElem?_getD] at h
   have := ih e hei (by omega) j h
   omega
 intro a w H f s ow
 refine wp_region_any hm ?_
 have main : ∀ (fuel : Nat) (listed : Array Bool) (a : Act) (w : World) (H : FH) (r : ρ), listed.size = l.length → ((List.range l.length).filter fun i => !listed.getD i true).length ≤ fuel →
  (∀ i, m ≤ i → i < l.length → listed.getD i true = false) → Qas l (fun j => listed.getD j false) → Q4q C Γ Lf p l Ts φ m r (fun j => listed.getD j false) a w H → wpAny C.P .any l.toArray Q fuel listed a w := by
  intro fuel
  induction fuel with
  | zero =>
   intro listed a w H r hs hf hsuf hc hI
   have hall : ∀ i, i < l.length → listed.getD i true = true := by
    intro i hi
    cases hb : listed.getD i true with
    | true => rfl
    | false =>
     have : i ∈ (List.range l.length).filter fun i => !listed.getD i true := List.mem_filter.2 ⟨List.mem_range.2 hi, by rw [hb]; rfl⟩
     have h0 : (List.range l.length).filter (fun i => !listed.getD i true) = [] := List.eq_nil_of_length_eq_zero (by omega)
     rw [h0] at this; cases this
   have hmn : m = l.length := by
    rcases Nat.lt_or_ge m l.length with h1 | h1
    · have h2 := hsuf m (Nat.le_refl _) h1; rw [hall m h1] at h2; cases h2
    omega
   have hpd : listed.getD p false = true := by
    have := hall p (by omega); have h8 : p < listed.size := by omega
    simp [Array.getD_eq_getD_getElem?, Array.getElem?_eq_getElem h8] at this ⊢; exact this
   refine Vb (m := m) (b := listed) hpos (fun k h1 h2 => (hrow k _ (List.getElem?_eq_getElem h2)).2.2.2 h1) 0 l.length listed a w (by omega) (Nat.le_refl _) hs (by omega) hall (fun i h1 h2 => by omega) ?_
   refine (by have h5 := h r (hI.phi hpd); rw [hmn] at h5; exact h5 : Tr C (U1 (l.take l.length) (Ts r) Γ) (Lf true r) (wpList C.P l.toArray Q (l.drop l.length))) a w H ⟨hI.defers, hI.size, fun t T e => ?_⟩ hI.st (by have := hI.ow; rw [hpd] at this; exact this)
   rw [List.take_length] at e
   rcases Jg l (Ts r) Γ t T (by rw [hT, hmn]) e with ⟨k, hk, hd, rfl⟩ | ⟨h1, h2⟩
   · exact hI.got k t (by omega) (by have := hall k hk; have h8 : k < listed.size := by omega
                                     simp [Array.getD_eq_getD_getElem?, Array.getElem?_eq_getElem h8] at this ⊢; exact this) hd
   exact hI.old t T h1 fun k hk hd => absurd hd (h2 k hk)
  | succ fuel ih =>
   intro listed a w H r hs hf hsuf hc hI
   by_cases hpre : ∀ i, i < m → listed.getD i true = true
   · -- the open part is done
     have hpd : listed.getD p false = true := by
      have := hpre p (by omega); have h8 : p < listed.size := by omega
      simp [Array.getD_eq_getD_getElem?, Array.getElem?_eq_getElem h8] at this ⊢; exact this
     refine Vb (m := m) (b := listed) hpos (fun k h1 h2 => (hrow k _ (List.getElem?_eq_getElem h2)).2.2.2 h1) (fuel + 1) m listed a w (Nat.le_refl _) hml hs ?_ hpre hsuf ?_
     · have : (List.range' m (l.length - m)).length ≤ ((List.range l.length).filter fun i => !listed.getD i true).length := by
        refine List.Sublist.length_le (l₁ := List.range' m (l.length - m)) ?_
        have e1 : (List.range l.length).filter (fun i => !listed.getD i true) = List.range' m (l.length - m) := by
         have e2 : List.range l.length = List.range' 0 m ++ List.range' m (l.length - m) := by
          rw [List.range_eq_range', show l.length = m + (l.length - m) from by omega, ← List.range'_append]
          simp
         rw [e2, List.filter_append]
         have e3 : (List.range' 0 m).filter (fun i => !listed.getD i true) = [] := by
          rw [List.filter_eq_nil_iff]
          intro i hi
          have := (List.mem_range'_1.1 hi).2
          rw [hpre i (by omega)]; simp
         have e4 : (List.range' m (l.length - m)).filter (fun i => !listed.getD i true) = List.range' m (l.length - m) := by
          rw [List.filter_eq_self]
          intro i hi
          have := List.mem_range'_1.1 hi
          rw [hsuf i (by omega) (by omega)]; rfl
         rw [e3, e4, List.nil_append]
        rw [e1]
        exact List.Sublist.refl _
       rw [List.length_range'] at this
       omega
     refine h r (hI.phi hpd) a w H ⟨hI.defers, hI.size, fun t T e => ?_⟩ hI.st (by have := hI.ow; rw [hpd] at this; exact this)
     rcases Jg (l.take m) (Ts r) Γ t T (by rw [hT, List.length_take]; omega) e with ⟨k, hk, hd, rfl⟩ | ⟨h1, h2⟩
     · rw [List.length_take] at hk
       refine hI.got k t (by omega) ?_ (by unfold Z3 at hd ⊢; rw [List.getElem?_take, if_pos (by omega)] at hd; exact hd)
       have := hpre k (by omega)
       have h8 : k < listed.size := by omega
       simp [Array.getD_eq_getD_getElem?, Array.getElem?_eq_getElem h8] at this ⊢; exact this
     refine hI.old t T h1 fun k hk hd => ?_
     rcases Nat.lt_or_ge k m with h3 | h3
     · exact absurd (by unfold Z3 at hd ⊢; rw [List.getElem?_take, if_pos h3]; exact hd) (h2 k (by rw [List.length_take]; omega))
     have := hsuf k h3 hk
     have h8 : k < listed.size := by omega
     simp [Array.getD_eq_getD_getElem?, Array.getElem?_eq_getElem h8] at this ⊢; exact this
   refine ⟨fun hr => ?_, fun i hi => ?_⟩
   · -- something is always ready
     exfalso
     have hex : ∃ i, i < l.length ∧ listed.getD i true = false := by
      apply Classical.byContradiction
      intro hno
      refine hpre fun i hi => ?_
      cases hb : listed.getD i true with
      | true => rfl
      | false => exact absurd ⟨i, by omega, hb⟩ hno
     have hmin : ∀ n i, i < n → i < l.length → listed.getD i true = false → ∃ j, j < l.length ∧ listed.getD j true = false ∧ ∀ k, k < j → listed.getD k true = true := by
      intro n
      induction n with
      | zero => intro i h; omega
      | succ n ihn =>
       intro i hi hl hb
       by_cases hk : ∀ k, k < i → listed.getD k true = true
       · exact ⟨i, hl, hb, hk⟩
       have : ∃ k, k < i ∧ listed.getD k true = false := by
        apply Classical.byContradiction
        intro hno
        refine hk fun k hki => ?_
        cases hbk : listed.getD k true with
        | true => rfl
        | false => exact absurd ⟨k, hki, hbk⟩ hno
       obtain ⟨k, hk1, hk2⟩ := this
       exact ihn k (by omega) (by omega) hk2
     obtain ⟨i, hi, hb⟩ := hex
     obtain ⟨j, hj1, hj2, hj3⟩ := hmin (i + 1) i (by omega) hi hb
     have : j ∈ Region.ready .any l.toArray listed := by
      unfold Region.ready
      rw [List.mem_filter]
      refine ⟨by simpa using hj1, ?_⟩
      rw [hj2]
      have ho : l[j]? = some l[j] := List.getElem?_eq_getElem hj1
      simp only [List.getElem?_toArray, ho, Option.map_some, Option.getD_some, Bool.not_false, Bool.true_and]
      rw [← Array.all_toList, List.all_eq_true]
      intro e he
      by_cases hbe : Region.binds .any e = true
      · have hmem : e.on ∈ Jx l[j] := List.mem_map.2 ⟨e, List.mem_filter.2 ⟨he, hbe⟩, rfl⟩
        have h3 := hj3 e.on (hpos j _ ho _ hmem)
        have h4 : e.on < listed.size := by have := hpos j _ ho _ hmem; omega
        simp [Array.getD_eq_getD_getElem?, Array.getElem?_eq_getElem h4] at h3 ⊢
        simp [h3]
      simp [hbe]
     rw [hr] at this; cases this
   unfold Region.ready at hi
   rw [List.mem_filter] at hi
   obtain ⟨hi1, hi2⟩ := hi
   have hil : i < l.length := by simpa using hi1
   simp only [Bool.and_eq_true, Bool.not_eq_true'] at hi2
   have ho : l[i]? = some l[i] := List.getElem?_eq_getElem hil
   have hr : ∀ e ∈ Jx l[i], (fun j => listed.getD j false) e = true := by
    intro e he
    obtain ⟨ed, hed, rfl⟩ := List.mem_map.1 he
    rw [List.mem_filter] at hed
    have h4 := hi2.2
    simp only [List.getElem?_toArray, ho, Option.map_some, Option.getD_some, ← Array.all_toList, List.all_eq_true] at h4
    have h5 := h4 ed hed.1
    simpa [hed.2] using h5
   have hbi : (fun j => listed.getD j false) i = false := by
    have h8 : i < listed.size := by omega
    have := hi2.1
    simp [Array.getD_eq_getD_getElem?, Array.getElem?_eq_getElem h8] at this ⊢; exact this
   have hmk := Ub hc ho hr
   have him : i < m := by
    rcases Nat.lt_or_ge i m with h1 | h1
    · exact h1
    exfalso
    refine hpre fun j hj => ?_
    have := hmk j ((hrow i _ ho).2.2.2 h1 j (by omega))
    have h8 : j < listed.size := by omega
    simp [Array.getD_eq_getD_getElem?, Array.getElem?_eq_getElem h8] at this ⊢; exact this
   obtain ⟨o, ho2, hop⟩ := Qha hops i (by omega)
   have hoo : o = l[i] := by rw [ho] at ho2; exact (Option.some.inj ho2).symm
   subst hoo
   have hcl : ∀ k, k < l.length → listed.getD k false = true → ∀ j, ((X0 l []).getD k 0).testBit j = true → listed.getD j false = true := fun k hk hb j hj => Va hc (k + 1) k (by omega) hk hb j hj
   have hfit := Qav hI him hml hbi hmk hcl (hlt i hil) ((hrow i _ ho).2.2.1 him)
   have hfl : Jl l p i (listed.getD p false) = true := by
    unfold Jl
    cases hbp : listed.getD p false with
    | false =>
     simp only [Bool.false_eq_true, if_false, Bool.not_eq_true']
     cases hq : ((X0 l []).getD i 0).testBit p with
     | false => rfl
     | true => have h8 := hmk p hq; exact absurd (h8.symm.trans hbp) (by simp)
    | true =>
     simp only [if_true, Bool.and_eq_true, Bool.not_eq_true']
     refine ⟨?_, ?_⟩
     · cases hq : ((X0 l []).getD p 0).testBit i with
       | false => rfl
       | true => have h8 := hcl p (by omega) hbp i hq; exact absurd (h8.symm.trans hbi) (by simp)
     cases hq : Nat.beq i p with
     | false => rfl
     | true => have h8 := Nat.eq_of_beq_eq_true hq; subst h8; exact absurd (hbp.symm.trans hbi) (by simp)
   have hop2 := (hop.1 (listed.getD p false) r hfl) a w H hfit hI.st hI.ow Q (wpAny C.P .any l.toArray Q fuel (listed.setIfInBounds i true)) ?_
   · unfold wpOp
     have : l.toArray[i]? = some l[i] := by simp
     rw [this]
     simp only
     split
     · rename_i hw; rw [if_pos hw] at hop2; exact .inl hop2
     rename_i hw; rw [if_neg hw] at hop2; exact hop2
   intro r' v w' H' hφ' hsub hst' how' hv
   refine ih _ _ w' H' r' (by simpa using hs) ?_ ?_ ?_ ?_
   · have : ((List.range l.length).filter fun j => !(listed.setIfInBounds i true).getD j true).length < ((List.range l.length).filter fun j => !listed.getD j true).length := by
      have hsub : (List.range l.length).filter (fun j => !(listed.setIfInBounds i true).getD j true) = ((List.range l.length).filter fun j => !listed.getD j true).filter (fun j => !(Nat.beq i j)) := by
       rw [List.filter_filter]
       apply List.filter_congr
       intro j hj
       simp only [Array.getD_eq_getD_getElem?, Array.getElem?_setIfInBounds]
       by_cases hij : i = j
       · subst hij; simp [show i < listed.size from by omega]
       have : Nat.beq i j = false := by
        cases hb : Nat.beq i j with
        | false => rfl
        | true => exact absurd (Nat.eq_of_beq_eq_true hb) hij
       simp [hij, this]
      rw [hsub]
      have hmem : i ∈ (List.range l.length).filter fun j => !listed.getD j true := List.mem_filter.2 ⟨List.mem_range.2 hil, by rw [hi2.1]; rfl⟩
      exact List.length_filter_lt_length_iff_exists.2 ⟨i, hmem, by simp⟩
     omega
   · intro j hj hjl
     have := hsuf j hj hjl
     simp only [Array.getD_eq_getD_getElem?] at this
     simp only [Array.getD_eq_getD_getElem?, Array.getElem?_setIfInBounds]
     simp [show ¬ i = j from by omega, this]
   · intro k o' ho' hb' e he
     simp only [Array.getD_eq_getD_getElem?, Array.getElem?_setIfInBounds] at hb' ⊢
     by_cases hie : i = e
     · subst hie; simp [show i < listed.size from by omega]
     simp only [if_neg hie]
     have h8 : ∀ e, (listed[e]?).getD false = listed.getD e false := fun e => by simp [Array.getD_eq_getD_getElem?]
     rw [h8]
     by_cases hik : i = k
     · subst hik
       have : l[i] = o' := by rw [ho] at ho'; exact Option.some.inj ho'
       subst this
       exact hr e he
     simp only [if_neg hik] at hb'
     rw [h8] at hb'
     exact hc k o' ho' hb' e he
   have hdd : ∀ t, (a.put l[i].dst v).tmps.getD t undef = if l[i].dst = some t then v else a.tmps.getD t undef := by
    intro t
    cases hd : l[i].dst with
    | none => simp [Act.put]
    | some d =>
     rw [Qbo]
     have hdN : d < C.N := by
      have := (hrow i _ ho).2.1
      rw [hd] at this; simpa using this
     by_cases hdt : d = t
     · subst hdt; simp [hI.size, hdN]
     simp [hdt]
   refine ⟨?_, ?_, hst', ?_, ?_, ?_, ?_⟩
   · cases hd : l[i].dst <;> simp [Act.put, hI.defers]
   · cases hd : l[i].dst <;> simp [Act.put, hI.size]
   · have e : (listed.setIfInBounds i true).getD p false = (listed.getD p false || Nat.beq i p) := by
      simp only [Array.getD_eq_getD_getElem?, Array.getElem?_setIfInBounds]
      by_cases hip : i = p
      · subst hip; simp [show i < listed.size from by omega]
      have : Nat.beq i p = false := by
       cases hb : Nat.beq i p with
       | false => rfl
       | true => exact absurd (Nat.eq_of_beq_eq_true hb) hip
      simp [hip, this]
     rw [e]; exact how'
   · intro hb
     have e : (listed.setIfInBounds i true).getD p false = (listed.getD p false || Nat.beq i p) := by
      simp only [Array.getD_eq_getD_getElem?, Array.getElem?_setIfInBounds]
      by_cases hip : i = p
      · subst hip; simp [show i < listed.size from by omega]
      have : Nat.beq i p = false := by
       cases hb : Nat.beq i p with
       | false => rfl
       | true => exact absurd (Nat.eq_of_beq_eq_true hb) hip
      simp [hip, this]
     have hb2 : (listed.setIfInBounds i true).getD p false = true := hb
     rw [e] at hb2
     cases hip : Nat.beq i p with
     | true => rw [hip] at hφ'; exact hφ' rfl
     | false => rw [hip] at hφ'; obtain rfl := hφ'.1; rw [hip, Bool.or_false] at hb2; exact hI.phi hb2
   · intro t T hf hall
     have hbt : ∀ k, k < l.length → Z3 l k = some t → listed.getD k false = false ∧ k ≠ i := by
      intro k hk hd
      have := hall k hk hd
      simp only [Array.getD_eq_getD_getElem?, Array.getElem?_setIfInBounds] at this ⊢
      by_cases hik : i = k
      · subst hik; simp [show i < listed.size from by omega] at this
      simp [hik] at this; exact ⟨this, fun e => hik e.symm⟩
     have hne : ¬ l[i].dst = some t := fun e => (hbt i hil (by simp [Z3, ho, e])).2 rfl
     rw [hdd, if_neg hne]
     exact T.mono hsub (hI.old t T hf fun k hk hd => (hbt k hk hd).1)
   intro k t hkm hb hd
   rw [hdd]
   simp only [Array.getD_eq_getD_getElem?, Array.getElem?_setIfInBounds] at hb
   by_cases hik : i = k
   · subst hik
     have : l[i].dst = some t := by simpa [Z3, ho] using hd
     rw [if_pos this]
     exact hv
   simp only [if_neg hik] at hb
   have hb' : listed.getD k false = true := by simpa [Array.getD_eq_getD_getElem?] using hb
   have hne : ¬ l[i].dst = some t := by
    intro e
    have h1 : (l.take m)[i]? = some l[i] := by rw [List.getElem?_take, if_pos him]; exact ho
    have hkl : k < l.length := by omega
    have h2 : (l.take m)[k]? = some l[k] := by rw [List.getElem?_take, if_pos hkm]; exact List.getElem?_eq_getElem hkl
    have h3 : l[k].dst = some t := by simpa [Z3, List.getElem?_eq_getElem hkl] using hd
    exact hik (nodup_filterMap hnd h1 h2 e h3)
   rw [if_neg hne]
   have hgot := hI.got k t hkm hb' hd
   have hcohk : (Ts r).getD k Yu = (Ts r').getD k Yu := by
    cases hip : Nat.beq i p with
    | false => rw [hip] at hφ'; rw [hφ'.1]
    | true =>
     have hie := Nat.eq_of_beq_eq_true hip
     obtain ⟨o3, _, hop3⟩ := Qha hops k (by omega)
     refine hop3.2 ?_ ?_ r r'
     · unfold Jl
       simp only [Bool.false_eq_true, if_false, Bool.not_eq_true']
       cases hq : ((X0 l []).getD k 0).testBit p with
       | false => rfl
       | true =>
        have h8 := hcl k (by omega) hb' p hq
        rw [← hie] at h8
        exact absurd (h8.symm.trans hbi) (by simp)
     cases hq : Nat.beq k p with
     | false => rfl
     | true => exact absurd (hie.trans (Nat.eq_of_beq_eq_true hq).symm) hik
   rw [← hcohk]
   exact ((Ts r).getD k Yu).mono hsub hgot
 refine main l.length (Array.replicate l.length false) a { w with drawn := w.drawn + 1 } H r0 (by simp) (by
  refine Nat.le_trans (List.length_filter_le _ _) (by simp)) (fun i _ hi => by simp [Array.getD_eq_getD_getElem?, hi]) ?_ ?_ |> fun h => by simpa using h
 · intro k o ho hb e he
   simp [Array.getD_eq_getD_getElem?, Array.getElem?_replicate] at hb
   split at hb <;> simp at hb
 · refine ⟨f.defers, f.size, ⟨s.sub, fun k o e => s.on k o e, s.os, s.tape, s.output, s.size, s.keep, s.new⟩, ?_, fun hb => ?_, fun t T hf _ => f.get t T hf, fun k t _ hb => ?_⟩
   · have e0 : (Array.replicate l.length false).getD p false = false := by simp only [Array.getD_eq_getD_getElem?, Array.getElem?_replicate]; split <;> rfl
     rw [e0]
     exact ⟨fun i hi => i.st (w := w) (w' := { w with drawn := w.drawn + 1 }) (fun _ _ => rfl) (Sub.refl _) (ow.all i hi), ow.nodup, ow.own⟩
   · have e0 : (Array.replicate l.length false).getD p false = false := by simp only [Array.getD_eq_getD_getElem?, Array.getElem?_replicate]; split <;> rfl
     exact absurd (e0.symm.trans hb) (by simp)
   simp [Array.getD_eq_getD_getElem?, Array.getElem?_replicate] at hb
   split at hb <;> simp at hb
where
 nodup_filterMap {l : List Oper} (h : (l.filterMap (·.dst)).Nodup) {i k : Nat} {o o' : Oper} {t : Nat} (hi : l[i]? = some o) (hk : l[k]? = some o') (ho : o.dst = some t) (ho' : o'.dst = some t) : i = k := by
  induction l generalizing i k with
  | nil => simp at hi
  | cons q l ih =>
   cases i with
   | zero =>
    cases k with
    | zero => rfl
    | succ k =>
     exfalso
     have : q = o := by simpa using hi
     subst this
     rw [List.filterMap_cons_some ho] at h
     exact (List.nodup_cons.1 h).1 (List.mem_filterMap.2 ⟨o', List.mem_of_getElem? (by simpa using hk), ho'⟩)
   | succ i =>
    cases k with
    | zero =>
     exfalso
     have : q = o' := by simpa using hk
     subst this
     rw [List.filterMap_cons_some ho'] at h
     exact (List.nodup_cons.1 h).1 (List.mem_filterMap.2 ⟨o, List.mem_of_getElem? (by simpa using hi), ho⟩)
    | succ k =>
     have hn : (l.filterMap (·.dst)).Nodup := by
      cases hq : q.dst with
      | none => rwa [List.filterMap_cons_none hq] at h
      | some d => rw [List.filterMap_cons_some hq] at h; exact (List.nodup_cons.1 h).2
     exact congrArg (· + 1) (ih hn (i := i) (k := k) (by simpa using hi) (by simpa using hk))
end
end Go.Gw
namespace Go.Gw
open Go
def Quq (K0 : FH) (n0 : Nat) : Value → Prop
 | .slice (some p) _ c => c = 0 ∨ (K0 p.block = none ∧ n0 ≤ p.block)
 | _ => True
def Qlv (H : FH) (sz : Nat) : Value → Prop
 | .slice (some p) _ c => 0 < c → p.spot = none ∧ ∃ cells e, H p.block = some (.cells cells e (0, 0)) ∧ p.off + c * sz ≤ cells.size
 | _ => True
theorem Qlv.mono {H H' : FH} {sz : Nat} (hs : Sub H H') {v : Value} (h : Qlv H sz v) : Qlv H' sz v := by
 cases v with
 | slice A n c =>
  cases A with
  | none => trivial
  | some p => exact fun hc => let ⟨h1, cells, e, h2, h3⟩ := h hc; ⟨h1, cells, e, hs _ _ h2, h3⟩
 | _ => trivial
def Yz {α : Type} (K0 : FH) (n0 : Nat) (d : Kd α) (xs : List α) : Ty := ⟨fun H v => (SlT d xs).p H v ∧ Quq K0 n0 v ∧ Qlv H d.sz v, fun hs h => ⟨(SlT d xs).mono hs h.1, h.2.1, h.2.2.mono hs⟩⟩
def Qhb {α : Type} (K0 : FH) (n0 : Nat) (d : Kd α) (xs : List α) : Ty := ⟨fun H v => (Yz K0 n0 d xs).p H v ∧ ∃ A, v = .slice A xs.length xs.length, fun hs h => ⟨(Yz K0 n0 d xs).mono hs h.1, h.2⟩⟩
def kty {α : Type} (T : α → Ty) (hT : ∀ {x H v}, (T x).p H v → ∃ A n c, v = .slice A n c) : Kd α where
 sz := 1
 agg := false
 K := fun H xs cs => ∃ v, cs = [v] ∧ (T xs).p H v
 T := T
 len := by rintro H x cs ⟨v, rfl, _⟩; rfl
 one := by rintro H x cs ⟨v, rfl, h⟩ u hu; obtain ⟨A, n, c, rfl⟩ := hT h; rw [List.mem_singleton.1 hu]; rfl
 mono := by rintro H H' x cs hs ⟨v, rfl, h⟩; exact ⟨v, rfl, (T x).mono hs h⟩
 toT := by rintro H x cs ⟨v, rfl, h⟩; exact h
 ofT := fun {H x v} h => ⟨[v], ⟨v, rfl, h⟩, rfl⟩
 szone := fun _ => rfl
def kfr {α : Type} (K0 : FH) (n0 : Nat) (d : Kd α) : Kd (List α) := kty (fun xs => Yz K0 n0 d xs) fun {x H v} h => let ⟨A, c, h1, _⟩ := h.1; ⟨A, _, c, h1⟩
def kcl {α : Type} (K0 : FH) (n0 : Nat) (d : Kd α) : Kd (List α) := kty (fun xs => Qhb K0 n0 d xs) fun {x H v} h => let ⟨A, h1⟩ := h.2; ⟨A, _, _, h1⟩
def CtM (K0 : FH) (n0 : Nat) (P : Program) (f : FuncId) (As : List Ty) (J : List It) (ρ : Type) (T : ρ → Ty) (I : ρ → List It) (φ : ρ → Prop) : Prop :=
 ∀ (H : FH) (w : World) (args : List Value), Sub K0 H → n0 ≤ w.heap.size → On H w → Kc H As args → Xu (fun _ => True) w H J → Calls P f args.toArray w (post J H w ρ T I φ)
theorem Ct.toM {K0 : FH} {n0 : Nat} {P : Program} {f : FuncId} {As : List Ty} {J : List It} {ρ : Type} {T : ρ → Ty} {I : ρ → List It} {φ : ρ → Prop} (h : Ct P f As J ρ T I φ) : CtM K0 n0 P f As J ρ T I φ := fun H w args _ _ hon hA hO => h H w args hon hA hO
theorem Vy {K0 : FH} {n0 : Nat} {P : Program} {f : FuncId} {fn : Func} {c : Code} {As : List Ty} {J : List It} {ρ : Type} {T : ρ → Ty} {I : ρ → List It} {φ : ρ → Prop} (hf : P.funcs[f]? = some fn) (hb : fn.body = some c) (hN : decide (As.length ≤ fn.ntmps) = true)
 (h : ∀ (H : FH) (w : World), Sub K0 H → n0 ≤ w.heap.size → Tr ⟨P, fn.ntmps, fun g => g ∈ X8 J, H, w⟩ (Qfd 0 As) J (c.wp P (bodyPost P fn (post J H w ρ T I φ)))) : CtM K0 n0 P f As J ρ T I φ := by
 intro H w args hK hn hon hA hO
 have hlen := Qdv hA
 have hN' : As.length ≤ fn.ntmps := of_decide_eq_true hN
 refine calls_of_wp hf hb (h H w hK hn _ w H ⟨rfl, by simp; omega, fun t T' e => ?_⟩ (St.refl hon) (hO.mono fun g hg _ => .inl hg))
 obtain ⟨_, h2, h3⟩ := Qce hA e
 have h4 : (args.toArray ++ Array.replicate (fn.ntmps - args.toArray.size) undef).getD t undef = args.getD (t - 0) undef := by
  simp only [Nat.sub_zero] at h3 ⊢
  simp [Array.getD_eq_getD_getElem?, List.getD_eq_getElem?_getD, Array.getElem?_append, h3]
 rw [h4]; exact h2
def Qkk (C : Cx) (Γ : Env) (K0 : FH) (n0 : Nat) : Prop := (∀ a H, Fits C.N Γ H a → Sub C.H0 H → Sub K0 H) ∧ n0 ≤ C.w0.heap.size
theorem Qc8 {C : Cx} {Γ : Env} {K0 : FH} {n0 : Nat} (hK : Sub K0 C.H0) (hn : n0 ≤ C.w0.heap.size) : Qkk C Γ K0 n0 := ⟨fun _ _ _ hs => hK.trans hs, hn⟩
abbrev noK : FH := fun _ => none
theorem J1 {C : Cx} {Γ : Env} : Qkk C Γ noK 0 := ⟨fun _ _ _ _ k o h => (by cases h), Nat.zero_le _⟩
section
variable {C : Cx} {Γ : Env} {L R : List It} {Q : Exit → Act → World → Prop} {ops : Array Oper} {rest : List Oper}
variable {dst : Option Tmp} {ty : TypeId} {pos : String} {after : Array Edge} {guard : Option (Nat × Bool)} {x y z : Operand}
variable {α β : Type} {d : Kd α} {e : Kd β}
theorem Zo {K0 : FH} {n0 : Nat} {J : List It} {f : FuncId} {As : List Ty} {ρ : Type} {T : ρ → Ty} {I : ρ → List It} {φ : ρ → Prop} {xs : List Operand} {ats : Array TypeId}
 (hF : CtM K0 n0 C.P f As J ρ T I φ) (hk : Qkk C Γ K0 n0) (hin : enters C.P f = true) (hxs : OTs C.N Γ xs As) (hL : List.Perm L (J ++ R)) :
 Yp C Γ L { dst, op := .call { callee := .value (.func f), args := xs.toArray, argTypes := ats }, type := ty, pos, after, guard } J ρ T I φ := by
 intro a w H fi s ow Q K hK
 have he : execOp a.eval { dst, op := .call { callee := .value (.func f), args := xs.toArray, argTypes := ats }, type := ty, pos, after, guard } = callFunc f (xs.map a.eval).toArray := by
  rw [execOp_call_go]; simp
 simp only [Oper.wp, he, Wp hin, Oper.upon_enter]
 refine Calls.mono (hF H w _ (hk.1 a H fi s.sub) (Nat.le_trans hk.2 s.size) s.on (OTs.all fi hxs) ((ow.perm hL).left.mono fun _ _ _ => trivial)) ?_
 rintro e w' ⟨r, v, H', rfl, hφ, s', hv, ho⟩
 exact hK r v w' H' hφ s' hv ho
theorem Qlw {w : World} {H : FH} {t : TypeId} {v : Value} {xs : List α} (h : (Qh t d v xs).p w H) (hn : ∀ g, v.ownBlock = some g → H g = none) (hon : On H w) :
 ∃ H', Sub H H' ∧ On H' w ∧ (∀ k o, H' k = some o → H k = some o ∨ v.ownBlock = some k) ∧ (SlT d xs).p H' v ∧ Qlv H' d.sz v := by
 obtain ⟨H', h1, h2, h3, h4⟩ := Qdc h hn hon
 obtain ⟨inner, ⟨_, h5⟩, _⟩ := h
 rcases h5 with ⟨rfl, h0⟩ | ⟨g, cap, cur, rfl, _, hb, hc, hm, hs, _⟩
 · exact ⟨H', h1, h2, h3, h4, trivial⟩
 by_cases hg' : H' g = none
 · have hg : H g = none := hn g rfl
   refine ⟨Up H' g (.cells cur t (0, 0)), h1.trans (V9 hg'), Qdy h2 hb, fun k o e => ?_, (SlT d xs).mono (V9 hg') h4, fun _ => ⟨rfl, cur, t, by simp [Up], by rw [hs]; simp⟩⟩
   unfold Up at e
   by_cases hk : k = g
   · subst hk; exact .inr rfl
   rw [if_neg hk] at e; exact h3 k o e
 obtain ⟨o, ho⟩ := Option.ne_none_iff_exists'.1 hg'
 have := h2 g o ho
 rw [hb] at this
 have ho' : o = .cells cur t (0, 0) := (Option.some.inj this).symm
 subst ho'
 exact ⟨H', h1, h2, h3, h4, fun _ => ⟨rfl, cur, t, ho, by rw [hs]; simp⟩⟩
theorem Kx {K0 : FH} {n0 : Nat} {t : TypeId} {v : Value} {xs : List α} {φ : Act → World → Prop} (hk : Qkk C Γ K0 n0) (hM : ∀ g, ¬ C.M g) (hp : List.Perm L (Qh t d v xs :: R)) (sl : Nat) (hv : OT C.N Γ (.tmp sl) (IsV v)) (h : Tr C ((sl, Yz K0 n0 d xs) :: Γ) R φ) : Tr C Γ L φ := by
 intro a w H f s o
 have o' := o.perm hp
 have hb : ∀ g, v.ownBlock = some g → g < w.heap.size ∧ H g = none ∧ C.ok g := fun g hg => o'.own g (Xn (i := Qh t d v xs) List.mem_cons_self hg)
 have hfr : Quq K0 n0 v := by
  obtain ⟨inner, ⟨_, h2⟩, _⟩ := o'.all _ List.mem_cons_self
  rcases h2 with ⟨rfl, _⟩ | ⟨g, cap, cur, rfl, _⟩
  · exact trivial
  obtain ⟨_, h4, h5⟩ := hb g rfl
  refine .inr ⟨?_, Nat.le_trans hk.2 (h5.resolve_left (hM g))⟩
  have hs := hk.1 a H f s.sub
  show K0 g = none
  cases e : K0 g with
  | none => rfl
  | some o => have := hs g o e; rw [h4] at this; cases this
 obtain ⟨H', h1, h2, h3, h4, h5⟩ := Qlw (o'.all _ List.mem_cons_self) (fun g hg => (hb g hg).2.1) s.on
 refine h a w H' (Yq ?_ (f.mono h1)) ⟨s.sub.trans h1, h2, s.os, s.tape, s.output, s.size, s.keep, fun k o e => ?_⟩ (Qaq o' h1 h3)
 · have : a.eval (.tmp sl) = v := hv a H f
   simp only [Act.eval] at this
   rw [this]; exact ⟨h4, hfr, h5⟩
 rcases h3 k o e with e | e
 · exact s.new k o e
 rcases (hb k e).2.2 with h5 | h5
 · exact .inr (.inr h5)
 exact .inr (.inl h5)
theorem Zt {T : Ty} {φ : Act → World → Prop} (sl : Nat) (hv : OT C.N Γ (.tmp sl) T) (h : Tr C ((sl, T) :: Γ) L φ) : Tr C Γ L φ := Z5 (fun a H f => Yq (hv a H f) f) h
theorem OT.fresh {N : Nat} {K0 : FH} {n0 : Nat} {xs : List α} (h : OT N Γ x (Yz K0 n0 d xs)) : OT N Γ x (SlT d xs) := fun a H f => (h a H f).1
theorem Qrr {d e : Kd α} (hsz : d.sz = e.sz) {H : FH} {xs : List α} {cs : List Value} (hw : ∀ {H x cs}, d.K H x cs → e.K H x cs) (h : Ja d H xs cs) : Ja e H xs cs := ⟨by rw [← hsz]; exact h.1, fun j x e => by rw [← hsz]; exact hw (h.2 j x e)⟩
theorem Qhc {d e : Kd α} (hsz : d.sz = e.sz) (hw : ∀ {H x cs}, d.K H x cs → e.K H x cs) {H : FH} {v : Value} {xs : List α} (h : (SlT d xs).p H v) : (SlT e xs).p H v := by
 obtain ⟨A, c, h1, h2, h3, h4⟩ := h
 refine ⟨A, c, h1, h2, h3, fun hn => ?_⟩
 obtain ⟨ad, cells, el, fr, cs, e1, e2, e3, e4, e5⟩ := h4 hn
 exact ⟨ad, cells, el, fr, cs, e1, e2, e3, Qrr hsz hw e4, e5⟩
theorem Qkl {K0 : FH} {n0 : Nat} {H : FH} {xs : List α} {cs : List Value} (h : (kcl K0 n0 d).K H xs cs) : (ksl d).K H xs cs := let ⟨v, h1, h2⟩ := h; ⟨v, h1, h2.1.1⟩
theorem OT.unclip {N : Nat} {K0 : FH} {n0 : Nat} {xs : List α} (h : OT N Γ x (Qhb K0 n0 d xs)) : OT N Γ x (Yz K0 n0 d xs) := fun a H f => (h a H f).1
theorem OT.unfr {N : Nat} {K0 : FH} {n0 : Nat} {xs : List (List α)} (h : OT N Γ x (SlT (kcl K0 n0 d) xs)) : OT N Γ x (SlT (ksl d) xs) := fun a H f => Qhc (d := kcl K0 n0 d) (e := ksl d) rfl Qkl (h a H f)
theorem OT.unfr2 {N : Nat} {K0 : FH} {n0 : Nat} {xs : List (List α)} (h : OT N Γ x (Yz K0 n0 (kcl K0 n0 d) xs)) : OT N Γ x (SlT (ksl d) xs) := OT.unfr h.fresh
theorem Wr {t t2 el : TypeId} {xs : List α} (hx : OT C.N Γ x (SlT d xs)) (ht : C.P.underlying t = some (.slice el)) :
 Yp C Γ L ⟨dst, .binOp .eql t x (.const Qo) t2, ty, pos, after, guard⟩ [] Bool (fun b => Xe b) (fun _ => []) (fun b => b = true → xs = []) := by
 intro a w H f s ow Q K hK
 obtain ⟨A, c, hv, hc, hm, hr⟩ := hx a H f
 have hrun : (execOp a.eval ⟨dst, .binOp .eql t x (.const Qo) t2, ty, pos, after, guard⟩).run C.P w = .ok (.value (.bool A.isNone)) w := by
  have h1 := Lib.run_eql_slice_nil (P := C.P) w t el A xs.length c 0 0 ht
  simp only [execOp, hv, show a.eval (.const Qo) = Qo from rfl, Sem.run_bind]
  rw [show (eqGuard .eql t x (.const Qo) (.slice A xs.length c) Qo).run C.P w = .ok () w from by simp [eqGuard]]
  simp only [Result.andThen_ok, h1, Sem.run_pure]
 simp only [Oper.wp, hrun, Oper.upon_value]
 refine hK A.isNone _ w H (fun hb => ?_) (St.refl s.on) rfl Xu.nil
 cases xs with
 | nil => rfl
 | cons y ys =>
  obtain ⟨ad, _, _, _, _, e1, _⟩ := hr (by simp)
  rw [e1] at hb; cases hb
theorem Qrs {t el : TypeId} {bytes : Nat} {k1 k2 : IntKind} {n : Int} (hx : OT C.N Γ x (Zy k1 0)) (hy : OT C.N Γ y (Zy k2 n)) (ht : Uq C.P t el d.sz bytes = true) (h0 : 0 ≤ n) (h1 : n * bytes ≤ 281474976710656) (h2 : n ≤ maxLen) :
 Yp C Γ L ⟨dst, .makeSlice t x y, ty, pos, after, guard⟩ [] Value (fun r => IsV r) (fun r => [Qh el d r []]) (fun _ => True) := by
 intro a w H f s ow Q K hK
 obtain ⟨hu, i, z, hi, hz, hsz, hby, hzs, hpos⟩ := Qch ht
 have hv : a.eval x = .int k1 0 := hx a H f
 have hw : a.eval y = .int k2 n := hy a H f
 obtain ⟨c, rfl⟩ : ∃ c : Nat, n = c := ⟨n.toNat, by omega⟩
 obtain ⟨w', h3, h4, h5⟩ := run_make_own (P := C.P) w 0 t el i z d.sz hu hi hz hsz k1 k2 c (by rw [hby, Nat.mul_comm]; omega) (by omega) (Nat.zero_le _)
 have hrun : (execOp a.eval ⟨dst, .makeSlice t x y, ty, pos, after, guard⟩).run C.P w = .ok (.value (.slice (some ⟨w.heap.size, 0, none⟩) 0 c)) w' := by
  simp only [execOp, hv, hw, Sem.run_bind, h3, Result.andThen_ok, Sem.run_pure]
 simp only [Oper.wp, hrun, Oper.upon_value]
 have hsz' : w.heap.size < w'.heap.size := by
  rcases h4.2 with ⟨h6, _⟩ | ⟨g, cap, cur, h6, _, hh, _⟩
  · cases h6
  have : g = w.heap.size := by injection h6 with h7; injection h7 with h8; injection h8 with h9; exact h9.symm
  subst this
  exact (Array.getElem?_eq_some_iff.1 hh).1
 exact hK _ _ w' H trivial (Y4 (row := none) s.on h5 fun g h => by cases h) rfl (Kp (J := Qh el d (.slice (some ⟨w.heap.size, 0, none⟩) 0 c) []) ⟨[], h4, Ja.nil⟩ (.inr rfl) hsz' s.on)
theorem Qd5 {t el : TypeId} {k1 k2 : IntKind} {xs : List α} {K0 : FH} {n0 : Nat} (hx : OT C.N Γ x (Yz K0 n0 d xs)) (hy : OT C.N Γ y (Zy k1 xs.length)) (hz : OT C.N Γ z (Zy k2 xs.length)) (ht : C.P.underlying t = some (.slice el)) (he : Xy C.P el d.agg d.sz = true) :
 Pure C Γ L ⟨dst, .slice t x none (some y) (some z), ty, pos, after, guard⟩ (Qhb K0 n0 d xs) := fun a w H f s ow => by
 obtain ⟨⟨A, c, hv, hc, hm, hr⟩, hfr, hrm⟩ := hx a H f
 have hi : a.eval y = .int k1 xs.length := hy a H f
 have hj : a.eval z = .int k2 xs.length := hz a H f
 have hcut := Qgn (lo := 0) (hi := xs.length) hr (by omega) (by omega) hc
 rw [List.take_length, List.drop_zero] at hcut
 have hcc : (xs.length : Int) ≤ (c : Int) := by omega
 have hadd : ∀ q : Addr, q.add (0 * d.sz) = q := fun q => by cases q; simp [Addr.add]
 have hA : (if xs.length = 0 then A else A.map (·.add (0 * d.sz))) = A := by
  split
  · rfl
  cases A with
  | none => rfl
  | some q => rw [Option.map_some, hadd]
 refine ⟨.slice (if xs.length = 0 then A else A.map (·.add (0 * d.sz))) xs.length xs.length, ?_, ⟨⟨A, xs.length, by rw [hA], Nat.le_refl _, hm, hr⟩, ?_, ?_⟩, A, by rw [hA]⟩
 · simp [execOp, Instr.sliceAt, Instr.slice, Instr.sliceBounds, Instr.sliceBound, run_underlying ht, hv, hi, hj, asIntOf, hc, run_sizeOf he]
 · rw [hA]
   rw [show a.eval x = .slice A xs.length c from hv] at hfr
   cases A with
   | none => exact trivial
   | some q =>
    rcases hfr with h0 | h0
    · exact .inl (by omega)
    exact .inr h0
 rw [hA]
 rw [show a.eval x = .slice A xs.length c from hv] at hrm
 cases A with
 | none => exact trivial
 | some q =>
  intro h0
  obtain ⟨h1, cells, e, h2, h3⟩ := hrm (by omega)
  have : xs.length * d.sz ≤ c * d.sz := Nat.mul_le_mul_right _ hc
  exact ⟨h1, cells, e, h2, by omega⟩
def Qfj (v : Value) (i sz : Nat) : Value := match v with
 | .slice (some a) n c => .slice (some ⟨a.block, i * sz, none⟩) (n - i) (c - i)
 | _ => undef
theorem Qaw {t el t' : TypeId} {k : IntKind} {v : Value} {xs : List α} {i : Int} (hx : OT C.N Γ x (IsV v)) (hm : Qh t' d v xs ∈ L) (hy : OT C.N Γ y (Zy k i)) (ht : C.P.underlying t = some (.slice el)) (he : Xy C.P el d.agg d.sz = true) (h0 : 0 ≤ i) (h1 : i < xs.length) :
 Pure C Γ L ⟨dst, .slice t x (some y) none none, ty, pos, after, guard⟩ (IsV (Qfj v i.toNat d.sz)) := fun a w H f s ow => by
 have hv : a.eval x = v := hx a H f
 have hi : a.eval y = .int k i := hy a H f
 obtain ⟨inner, ⟨h2, h3⟩, _⟩ := ow.all _ hm
 rcases h3 with ⟨rfl, hl⟩ | ⟨g, cap, cur, rfl, _, hb, hc, hmx, _⟩
 · omega
 refine ⟨_, ?_, rfl⟩
 have hne : ¬ cap = i.toNat := by omega
 have hle : i ≤ (xs.length : Int) := by omega
 simp [execOp, Instr.sliceAt, Instr.slice, Instr.sliceBounds, Instr.sliceBound, run_underlying ht, hv, hi, asIntOf, h0, run_sizeOf he, hle, Qfj, add_plain, hne]
theorem Qom {t el t' : TypeId} {v : Value} {xs : List α} {j sz : Nat} (hx : OT C.N Γ x (IsV (Qfj v j sz))) (hm : Qh t' d v xs ∈ L) (ht : C.P.underlying t = some (.slice el)) (hj : j < xs.length) : Pure C Γ L ⟨dst, .call ⟨.builtin .len, #[x], #[t]⟩, ty, pos, after, guard⟩ (I64 ((xs.length : Int) - j)) := fun a w H f s ow => by
 have h0 : a.eval x = Qfj v j sz := hx a H f
 obtain ⟨inner, ⟨h2, h3⟩, _⟩ := ow.all _ hm
 rcases h3 with ⟨rfl, hl⟩ | ⟨g, cap, cur, rfl, _⟩
 · omega
 refine ⟨.int .i64 ((xs.length - j : Nat) : Int), by simp [execOp, resolve, invoke, builtin, Builtin.len_, h0, Qfj, run_underlying ht, goInt], ?_⟩
 show Value.int _ _ = Value.int _ _
 congr 1; omega
theorem Qax {t el t' : TypeId} {k : IntKind} {v : Value} {xs : List α} {i : Int} {j : Nat} (hx : OT C.N Γ x (IsV (Qfj v j d.sz))) (hm : Qh t' d v xs ∈ L) (hy : OT C.N Γ y (Zy k i)) (ht : C.P.underlying t = some (.slice el)) (he : Xy C.P el d.agg d.sz = true) (h0 : 0 ≤ i) (h1 : (j : Int) + i < xs.length) :
 Pure C Γ L ⟨dst, .indexAddr t x y, ty, pos, after, guard⟩ (IsV (Qbp v (((j : Int) + i).toNat * d.sz))) := fun a w H f s ow => by
 have hv : a.eval x = Qfj v j d.sz := hx a H f
 have hi : a.eval y = .int k i := hy a H f
 obtain ⟨inner, ⟨h2, h3⟩, _⟩ := ow.all _ hm
 rcases h3 with ⟨rfl, hl⟩ | ⟨g, cap, cur, rfl, _⟩
 · omega
 refine ⟨_, ?_, rfl⟩
 have hlt : i < ((xs.length - j : Nat) : Int) := by omega
 have e1 : j * d.sz + i.toNat * d.sz = ((j : Int) + i).toNat * d.sz := by rw [← Nat.add_mul]; congr 1; omega
 simp [execOp, Instr.indexAt, hi, asIntOf, run_underlying ht, hv, Qfj, hlt, h0, run_sizeOf he, add_plain, Qbp, e1]
theorem Jh {t el t' : TypeId} {k1 : IntKind} {v : Value} {xs : List α} {i : Int} (hx : OT C.N Γ x (IsV v)) (hp : List.Perm L (Qh t' d v xs :: R)) (hy : OT C.N Γ y (Zy k1 i)) (ht : C.P.underlying t = some (.slice el)) (he : Xy C.P el d.agg d.sz = true) (h0 : 0 ≤ i) (h1 : i ≤ xs.length) :
 Yp C Γ L ⟨dst, .slice t x none (some y) none, ty, pos, after, guard⟩ [Qh t' d v xs] Value (fun r => IsV r) (fun r => [Qh t' d r (xs.take i.toNat)]) (fun _ => True) := by
 intro a w H f s ow Q K hK
 have hv : a.eval x = v := hx a H f
 have hi : a.eval y = .int k1 i := hy a H f
 have o' := ow.perm hp
 have key : ∃ r, (execOp a.eval ⟨dst, .slice t x none (some y) none, ty, pos, after, guard⟩).run C.P w = .ok (.value r) w ∧ r.ownBlock = v.ownBlock ∧ (Qh t' d r (xs.take i.toNat)).p w H := by
  obtain ⟨inner, ⟨h2, h3⟩, h4⟩ := o'.all _ List.mem_cons_self
  rcases h3 with ⟨rfl, hl⟩ | ⟨g, cap, cur, rfl, hg0, hb, hc, hm, hs, hin⟩
  · have hx0 : xs = [] := List.eq_nil_of_length_eq_zero hl
    subst hx0
    have hi0 : i = 0 := by simp at h1; omega
    subst hi0
    exact ⟨Qo, by simp [execOp, Instr.sliceAt, Instr.slice, Instr.sliceBounds, Instr.sliceBound, run_underlying ht, hv, hi, asIntOf, run_sizeOf he], rfl, by simpa using Qje⟩
  have hcc : i ≤ (cap : Int) := by omega
  have e0 : (if cap = 0 then some (⟨g, 0, none⟩ : Addr) else (some (⟨g, 0, none⟩ : Addr)).map (·.add (0 * d.sz))) = some ⟨g, 0, none⟩ := by split <;> simp [add_plain]
  refine ⟨.slice (some ⟨g, 0, none⟩) i.toNat cap, ?_, rfl, inner.take (i.toNat * d.sz), ⟨?_, .inr ⟨g, cap, cur, ?_, hg0, hb, ?_, hm, hs, ?_⟩⟩, h4.take _ (by omega)⟩
  · have : (execOp a.eval ⟨dst, .slice t x none (some y) none, ty, pos, after, guard⟩).run C.P w = .ok (.value (.slice (if cap = 0 then some ⟨g, 0, none⟩ else (some (⟨g, 0, none⟩ : Addr)).map (·.add (0 * d.sz))) i.toNat cap)) w := by
     simp [execOp, Instr.sliceAt, Instr.slice, Instr.sliceBounds, Instr.sliceBound, run_underlying ht, hv, hi, asIntOf, h0, run_sizeOf he, hcc]
    rw [e0] at this; exact this
  · have : i.toNat * d.sz ≤ xs.length * d.sz := Nat.mul_le_mul_right _ (by omega)
    rw [List.length_take, List.length_take, h4.1, Nat.min_eq_left this, Nat.min_eq_left (by omega)]
  · rw [List.length_take, Nat.min_eq_left (by omega)]
  · rw [List.length_take]; omega
  have : i.toNat * d.sz ≤ xs.length * d.sz := Nat.mul_le_mul_right _ (by omega)
  rw [List.length_take, Nat.min_eq_left (by omega), ← hin, List.take_take, Nat.min_eq_left this]
 obtain ⟨r, hr, hb, hq⟩ := key
 simp only [Oper.wp, hr, Oper.upon_value]
 exact hK r r w H trivial (St.refl s.on) rfl (Qro (M := noM) o' hb hq)
end
end Go.Gw
namespace Go.Gw
open Go
section
variable {C : Cx} {Γ : Env} {L R : List It} {Q : Exit → Act → World → Prop} {ops : Array Oper} {rest : List Oper}
variable {dst : Option Tmp} {ty : TypeId} {pos : String} {after : Array Edge} {guard : Option (Nat × Bool)} {x y z : Operand}
variable {α β : Type} {d : Kd α} {e : Kd β}
theorem Wd {t el : TypeId} {v : Value} {xs : List α} {v0 : α} {j : Nat} (hx : OT C.N Γ x (IsV (Qfj v j d.sz))) (hp : List.Perm L (Qh el d v xs :: R)) (ht : C.P.underlying t = some (.slice el)) (he : Xy C.P el d.agg d.sz = true) (hz : Xw C.P el d v0) (hd : 0 < d.sz) (hj : j < xs.length) :
 Yp C Γ L ⟨dst, .call ⟨.builtin .clear, #[x], #[t]⟩, ty, pos, after, guard⟩ [Qh el d v xs] Unit (fun _ => Yu) (fun _ => [Qh el d v (xs.take j ++ List.replicate (xs.length - j) v0)]) (fun _ => True) := by
 intro a w H f s ow Q K hK
 have hv : a.eval x = Qfj v j d.sz := hx a H f
 have o' := ow.perm hp
 obtain ⟨b, cap, cur, cs, rfl, hb, hR, hS, hcs, hcap, hcm, hcc⟩ := Kh (o'.all _ List.mem_cons_self) (by omega)
 have hown := o'.own b (Xn (i := Qh el d (.slice (some ⟨b, 0, none⟩) xs.length cap) xs) List.mem_cons_self rfl)
 obtain ⟨zv, h1, h2⟩ := Qff hz he hd (xs.length - j) w H
 have hsz : zv.cells.size = d.sz := by
  obtain ⟨zv', h3, h4⟩ := Kq (w := w) hz
  obtain ⟨cs', h5, _, h6⟩ := Ke (h4 H)
  rw [h1] at h3
  have : zv = zv' := by injection h3
  subst this
  rw [h6]; simpa using d.len h5
 have hzc : (Builtin.zeroCells zv.cells (xs.length - j)).toList = (((Array.range ((xs.length - j) * d.sz)).map (zv.cells[· % zv.cells.size]!)).toList) := by
  unfold Builtin.zeroCells; rw [hsz]
 have hlen := h2.1
 rw [List.length_replicate] at hlen
 have hle : xs.length * d.sz ≤ cap * d.sz := Nat.mul_le_mul_right _ hcap
 have hjl : j * d.sz ≤ xs.length * d.sz := Nat.mul_le_mul_right _ (by omega)
 have hsub : (xs.length - j) * d.sz = xs.length * d.sz - j * d.sz := Nat.sub_mul _ _ _
 have hst := run_storeCells_at C.P b (j * d.sz) el (Builtin.zeroCells zv.cells (xs.length - j)).toList 0 cur w hb (by rw [hzc, hlen, hsub, hcs]; omega) (by rw [hzc]; exact Ja.cells h2)
 simp only [Nat.add_zero] at hst
 rw [hzc] at hst
 obtain ⟨n, hn⟩ : ∃ n, xs.length - j = n + 1 := ⟨xs.length - j - 1, by omega⟩
 have hrun : (execOp a.eval ⟨dst, .call ⟨.builtin .clear, #[x], #[t]⟩, ty, pos, after, guard⟩).run C.P w = .ok (.value (.tuple #[])) (w.setRow b (cur.toList.take (j * d.sz) ++ (((Array.range ((xs.length - j) * d.sz)).map (zv.cells[· % zv.cells.size]!)).toList) ++ cur.toList.drop (j * d.sz + (xs.length - j) * d.sz)).toArray) := by
  rw [hlen] at hst
  rw [← hzc] at hst ⊢
  simp only [execOp, resolve, invoke, builtin, hv, Qfj, List.map_toArray, List.map_cons, List.map_nil, Sem.run_bind, Sem.run_pure, Result.andThen_ok]
  rw [hn] at hst ⊢
  simp [Builtin.clear_, run_underlying ht, h1, hst]
 simp only [Oper.wp, hrun, Oper.upon_value]
 have hmem : b ∈ X8 [Qh el d (.slice (some ⟨b, 0, none⟩) xs.length cap) xs] := Xn (i := Qh el d (.slice (some ⟨b, 0, none⟩) xs.length cap) xs) List.mem_cons_self rfl
 have hl2 : (xs.take j ++ List.replicate (xs.length - j) v0).length = xs.length := by
  rw [List.length_append, List.length_take, List.length_replicate]; omega
 have hRn := (hR.take j (by omega)).append h2
 refine hK () _ _ H trivial (Qci s.on hown.2.1 hmem _) trivial ⟨?_, by simp [X8, Qh, Value.ownBlock], ?_⟩
 · intro it hit
   rw [List.mem_singleton.1 hit]
   refine ⟨_, ⟨?_, .inr ⟨b, cap, _, ?_, Nat.zero_le _, setRow_heap w b _ _ el _ hb, ?_, hcm, ?_, ?_⟩⟩, hRn⟩
   · rw [hRn.1]
   · rw [hl2]
   · rw [hl2]; exact hcap
   · have hcl : cur.toList.length = cap * d.sz := by simpa using hcs
     simp only [List.size_toArray, List.length_append, List.length_take, List.length_drop, hlen, hcl]
     omega
   rw [hl2, hcc, List.take_take, Nat.min_eq_left hjl]
   have hlen3 : (cur.toList.take (j * d.sz) ++ (((Array.range ((xs.length - j) * d.sz)).map (zv.cells[· % zv.cells.size]!)).toList)).length = xs.length * d.sz := by
    rw [List.length_append, hlen, List.length_take, Array.length_toList, hcs, hsub]; omega
   rw [List.toList_toArray, ← hlen3]
   exact List.take_left
 intro g' hg'
 have : g' = b := by simpa [X8, Qh, Value.ownBlock] using hg'
 subst this
 exact ⟨by simpa using hown.1, hown.2.1, .inl hmem⟩
theorem Qfk {t tn el : TypeId} {bytes : Nat} {kq kn : IntKind} {n : Int} {v0 : α} (hx : OT C.N Γ x (IsV Qo)) (hy : OT C.N Γ y (Zy kq n)) (ht : Uq C.P t el d.sz bytes = true) (htn : C.P.underlying tn = some (.int kn)) (he : Xy C.P el d.agg d.sz = true) (hz : Xw C.P el d v0) (h0 : 0 < n) (hb : n * bytes ≤ 281474976710656) (hm : n ≤ maxLen) :
 Yp C Γ L ⟨dst, .call ⟨.builtin .append, #[x, y], #[t, tn]⟩, ty, pos, after, guard⟩ [] Value (fun r => IsV r) (fun r => [Qh el d r (List.replicate n.toNat v0)]) (fun _ => True) := by
 intro a w H f s ow Q K hK
 obtain ⟨hu, i, z, hi, hzi, hsz, hby, hzs, hpos⟩ := Qch ht
 have hv : a.eval x = Qo := hx a H f
 have hw : a.eval y = .int kq n := hy a H f
 obtain ⟨k, rfl⟩ : ∃ c : Nat, n = c := ⟨n.toNat, by omega⟩
 have hm' : k ≤ maxLen := by omega
 have hbk : k * i.bytes ≤ 281474976710656 := by rw [hby]; omega
 have h63 : ((0 + k : Nat) : Int) ≤ 9223372036854775807 := by simp only [maxLen] at hm'; omega
 have hcapn : Builtin.nextslicecap (0 + k) 0 = k := by unfold Builtin.nextslicecap; rw [if_pos (by omega)]; omega
 have hr := Lib.run_append_grow_zeros (P := C.P) w t tn ty el i z kq kn hu htn hi hzi none 0 0 [] (by simp [Builtin.firstCells]) k (by omega) (by omega) (by omega) h63 hbk (by rw [hcapn]; exact hbk)
 simp only [Nat.zero_add] at hr
 have hrun : (execOp a.eval ⟨dst, .call ⟨.builtin .append, #[x, y], #[t, tn]⟩, ty, pos, after, guard⟩).run C.P w = .ok (.value (.slice (some ⟨w.heap.size, 0, none⟩) k (grownCap w k 0 el))) (w.drew.alloc (.cells (([] : List Value).toArray ++ Builtin.zeroCells z.cells k ++ Builtin.zeroCells z.cells (grownCap w k 0 el - k)) el)) := by
  simp only [execOp, resolve, invoke, builtin, hv, hw, List.map_toArray, List.map_cons, List.map_nil, Sem.run_bind, Sem.run_pure, Result.andThen_ok, hr]
 simp only [Oper.wp, hrun, Oper.upon_value]
 obtain ⟨zv, h1, h2⟩ := Qff hz he (by omega) k w H
 have hzz : zv = z := by
  have : (zeroValue el).run C.P w = .ok z w := by simp [zeroValue, typeInfo, hi, hzi]
  rw [this] at h1; injection h1 with h1; exact h1.symm
 subst hzz
 have hzc : (Builtin.zeroCells zv.cells k).toList = (((Array.range (k * d.sz)).map (zv.cells[· % zv.cells.size]!)).toList) := by
  unfold Builtin.zeroCells; rw [hzs]
 have hge := grownCap_ge w k 0 el
 have hcm : grownCap w k 0 el ≤ maxLen := grownCap_le_maxLen w k 0 el hm'
 have hg : w.grownBy (w.drew.alloc (.cells (([] : List Value).toArray ++ Builtin.zeroCells zv.cells k ++ Builtin.zeroCells zv.cells (grownCap w k 0 el - k)) el)) none := ⟨rfl, rfl, rfl, by simp, fun k hk _ => heap_alloc_old w.drew _ hk⟩
 have hlen := h2.1
 rw [List.length_replicate] at hlen
 refine hK _ _ _ H trivial (Y4 (row := none) s.on hg fun g h => by cases h) rfl (Kp (J := Qh el d (.slice (some ⟨w.heap.size, 0, none⟩) k (grownCap w k 0 el)) (List.replicate k v0)) ⟨_, ⟨?_, .inr ⟨w.heap.size, grownCap w k 0 el, _, ?_, Nat.zero_le _, heap_alloc_new w.drew _, ?_, hcm, ?_, ?_⟩⟩, h2⟩ (.inr rfl) (by simp) s.on)
 · rw [hlen, List.length_replicate]
 · rw [List.length_replicate]
 · rw [List.length_replicate]; exact hge
 · simp only [Array.size_append, List.size_toArray, List.length_nil, size_zeroCells, hzs, Nat.zero_add, ← Nat.add_mul]
   congr 1; omega
 rw [List.length_replicate, ← hzc]
 simp only [Array.toList_append, List.toList_toArray, List.nil_append]
 have : (Builtin.zeroCells zv.cells k).toList.length = k * d.sz := by rw [hzc, hlen]
 rw [← this]; exact List.take_left
end
end Go.Gw
namespace Go.Gw
open Go
section
variable {Γ : Env} {L J : List It} {α : Type} {d : Kd α}
theorem Zl {fn : Func} {ρ : Type} {T : ρ → Ty} {I : ρ → List It} {φ : ρ → Prop} {P : Program} {N : Nat} {H0 : FH} {w0 : World} (e : Exit) (he : e = .ret ∨ e = .normal) {t u : Nat} {tt t' : TypeId} {b : Nat} {v : α} {B : Ty} (hres : fn.results = #[.cell t tt, .tmp u]) (r : ρ) (hx : OT N Γ (.tmp t) (IsV (pt b 0))) (hm : Qb b t' d v ∈ L) (ht : Xy P tt d.agg d.sz = true) (hB : OT N Γ (.tmp u) B) (hT : ∀ H v', (Y1 [d.T v, B]).p H v' → (T r).p H v') (hφ : φ r) (hI : ∃ R, List.Perm L (I r ++ R)) :
 Tr ⟨P, N, fun g => g ∈ X8 J, H0, w0⟩ Γ L (bodyPost P fn (post J H0 w0 ρ T I φ) e) :=
 V7 e he r hφ hI fun a w H f s ow => by
  have hv : a.eval (.tmp t) = pt b 0 := hx a H f
  obtain ⟨cs, hK, hb⟩ := ow.all _ hm
  have hl := d.len hK
  have hload := K6 (P := P) (w := w) (t := tt) (agg := d.agg) (cs := cs) (g := b) (off := 0) (by rw [hl]; exact ht) (fun h => by rw [hl]; exact d.szone h) hb (fun i u h => by simpa using h)
  refine ⟨.tuple [mkV d.agg cs, a.eval (.tmp u)].toArray, ?_, hT _ _ ⟨_, rfl, d.toT hK, hB a H f, trivial⟩⟩
  simp only [Act.eval] at hv
  simp only [Array.getD_eq_getD_getElem?] at hv
  simp [results, hres, hv, asAddr, hload, pt, Act.eval]
end
end Go.Gw
namespace Go.Gw
open Go
theorem Ct.pre {P : Program} {f : FuncId} {As : List Ty} {J : List It} {ρ : Type} {T : ρ → Ty} {I : ρ → List It} {φ : ρ → Prop} {p : Prop} (hA : ∀ H vs, Kc H As vs → p) (h : p → Ct P f As J ρ T I φ) : Ct P f As J ρ T I φ := fun H w args hon hAl hO => h (hA H args hAl) H w args hon hAl hO
theorem Ct.args {P : Program} {f : FuncId} {As Bs : List Ty} {J : List It} {ρ : Type} {T : ρ → Ty} {I : ρ → List It} {φ : ρ → Prop} (hA : ∀ H vs, Kc H Bs vs → Kc H As vs) (h : Ct P f As J ρ T I φ) : Ct P f Bs J ρ T I φ := fun H w args hon hAl hO => h H w args hon (hA H args hAl) hO
theorem Qp6 {α β : Type} {d : Kd α} {e : Kd β} {xs : List α} {ys : List β} : ∀ (H : FH) (vs : List Value), Kc H [SlT d xs, SlT e ys] vs → xs.length ≤ maxLen ∧ ys.length ≤ maxLen
 | _, [], h => h.elim
 | _, [_], h => h.2.elim
 | _, [_, _], ⟨⟨_, _, _, _, h1, _⟩, ⟨_, _, _, _, h2, _⟩, _⟩ => ⟨h1, h2⟩
 | _, _ :: _ :: _ :: _, h => h.2.2.elim
theorem Qy7 {α : Type} {d : Kd α} {xs : List α} : ∀ (H : FH) (vs : List Value), Kc H [SlT d xs] vs → xs.length ≤ maxLen
 | _, [], h => h.elim
 | _, [_], ⟨⟨_, _, _, _, h1, _⟩, _⟩ => h1
 | _, _ :: _ :: _, h => h.2.elim
theorem Qjg {α β : Type} {d : Kd α} {e : Kd β} {K0 : FH} {n0 : Nat} {xs : List α} {ys : List β} : ∀ (H : FH) (vs : List Value), Kc H [Qhb K0 n0 d xs, Qhb K0 n0 e ys] vs → Kc H [SlT d xs, SlT e ys] vs
 | _, [], h => h
 | _, [_], h => h.2.elim
 | _, [_, _], ⟨h1, h2, _⟩ => ⟨h1.1.1, h2.1.1, trivial⟩
 | _, _ :: _ :: _ :: _, h => h.2.2.elim
end Go.Gw
namespace Go.Gw
open Go
section
variable {C : Cx} {Γ : Env} {L R : List It} {dst : Option Tmp} {ty : TypeId} {pos : String} {after : Array Edge} {guard : Option (Nat × Bool)} {x y z : Operand}
theorem Qhd {t el : TypeId} (hx : OT C.N Γ x (IsV Qo)) (ht : C.P.underlying t = some (.slice el)) : Pure C Γ L ⟨dst, .call ⟨.builtin .len, #[x], #[t]⟩, ty, pos, after, guard⟩ (I64 0) := fun a w H f s ow => by
 have h0 : a.eval x = Qo := hx a H f
 exact ⟨_, by simp [execOp, resolve, invoke, builtin, Builtin.len_, h0, run_underlying ht, goInt], rfl⟩
theorem Qhe {t el : TypeId} (hx : OT C.N Γ x (IsV Qo)) (ht : C.P.underlying t = some (.slice el)) : Pure C Γ L ⟨dst, .call ⟨.builtin .cap, #[x], #[t]⟩, ty, pos, after, guard⟩ (I64 0) := fun a w H f s ow => by
 have h0 : a.eval x = Qo := hx a H f
 exact ⟨_, by simp [execOp, resolve, invoke, builtin, Builtin.cap_, h0, run_underlying ht, goInt], rfl⟩
theorem Qkm {t el : TypeId} {k : IntKind} {agg : Bool} {sz : Nat} (hx : OT C.N Γ x (IsV Qo)) (hy : OT C.N Γ y (Zy k 0)) (ht : C.P.underlying t = some (.slice el)) (he : Xy C.P el agg sz = true) : Pure C Γ L ⟨dst, .slice t x none (some y) none, ty, pos, after, guard⟩ (IsV Qo) := fun a w H f s ow => by
 have hv : a.eval x = Qo := hx a H f
 have hi : a.eval y = .int k 0 := hy a H f
 exact ⟨Qo, by simp [execOp, Instr.sliceAt, Instr.slice, Instr.sliceBounds, Instr.sliceBound, run_underlying ht, hv, hi, asIntOf, run_sizeOf he], rfl⟩
end
end Go.Gw
namespace Go.Gw
open Go
theorem Qbv {N : Nat} {Γ : Env} : Qfh N Γ [] [] := trivial
theorem Ws {N : Nat} {Γ : Env} {x : Operand} {v : Value} {xs : List Operand} {vs : List Value} (h : OT N Γ x (IsV v)) (hs : Qfh N Γ xs vs) : Qfh N Γ (x :: xs) (v :: vs) := ⟨h, hs⟩
end Go.Gw
namespace Go.Gw
open Go Go.ChangeShapes Go.WideShapes Go.RowKit
end Go.Gw
namespace Go.Gw
open Go
abbrev bs (l : List UInt8) : ByteArray := ⟨l.toArray⟩
abbrev BsT (l : List UInt8) : Ty := Qrl (bs l)
theorem Q2d (s : ByteArray) : bs s.data.toList = s := by cases s; simp [bs]
theorem Qd6 (l : List UInt8) : (bs l).size = l.length := by simp [bs, ByteArray.size]
abbrev Yk (l : List UInt8) : List Int := l.map fun b => (b.toNat : Int)
abbrev kS : Kd (List UInt8) := scalar (fun l => Value.string (bs l)) fun _ => rfl
section
variable {C : Cx} {Γ : Env} {L R : List It} {dst : Option Tmp} {ty : TypeId} {pos : String} {after : Array Edge} {guard : Option (Nat × Bool)} {x y z : Operand}
theorem Qon (u v : List UInt8) : ((bs u).toList == (bs v).toList) = decide (u = v) := by
 rw [ByteArray.toList_eq, ByteArray.toList_eq]
 simp only [bs]
 by_cases h : u = v <;> simp [h]
theorem Vz {t t2 : TypeId} {u v : List UInt8} (hx : OT C.N Γ x (BsT u)) (hy : OT C.N Γ y (BsT v)) : Pure C Γ L ⟨dst, .binOp .eql t x y t2, ty, pos, after, guard⟩ (Xe (decide (u = v))) :=
 (Qoe hx hy).val (by rw [Qon])
theorem Qrt {t t2 : TypeId} {u v : List UInt8} (hx : OT C.N Γ x (BsT u)) (hy : OT C.N Γ y (BsT v)) : Pure C Γ L ⟨dst, .binOp .neq t x y t2, ty, pos, after, guard⟩ (Xe (decide (u ≠ v))) :=
 (Qof hx hy).val (by rw [Qon]; by_cases h : u = v <;> simp [h])
theorem Wt {t : TypeId} {u : List UInt8} (ht : C.P.underlying t = some .string) (hx : OT C.N Γ x (BsT u)) : Pure C Γ L ⟨dst, .call ⟨.builtin .len, #[x], #[t]⟩, ty, pos, after, guard⟩ (I64 u.length) :=
 (Qog ht hx).val (by rw [Qd6])
theorem Qi4 {src tt el : TypeId} {u : TypeDesc} {l : List UInt8} (hx : OT C.N Γ x (BsT l)) (hs : C.P.underlying src = some u) (hd : C.P.underlying tt = some (.slice el)) (he : C.P.underlying el = some (.int .u8)) (hm : l.length ≤ maxLen) :
 Yp C Γ L ⟨dst, .convert src tt x, ty, pos, after, guard⟩ [] Unit (fun _ => SlT (Jw .u8) (Yk l)) (fun _ => []) (fun _ => True) := by
 intro a w H f s' ow Q K hK
 have hsz := Qd6 l
 generalize hsd : bs l = s at hsz
 have hdl : s.data.toList = l := by rw [← hsd]
 have hv : a.eval x = .string s := by rw [← hsd]; exact hx a H f
 have hr := Lib.run_convert_string_bytes (P := C.P) w src tt el s hs hd he
 have hrun : (execOp a.eval ⟨dst, .convert src tt x, ty, pos, after, guard⟩).run C.P w = .ok (.value (.slice (some ⟨w.heap.size, 0, none⟩) s.size (grownCap w s.size 0 el))) (Lib.bytesWorld w el s) := by
  simp only [execOp, hv, Sem.run_bind, hr, Result.andThen_ok, Sem.run_pure]
 simp only [Oper.wp, hrun, Oper.upon_value]
 have hge := grownCap_ge w s.size 0 el
 have hnew := Qoh s'.on
 have hH : Sub H (Up H w.heap.size (.cells (Lib.bytesCells w el s) el ((Lib.bytesCells w el s).size, (Lib.bytesCells w el s).size + 1))) := V9 hnew
 refine hK () _ _ (Up H w.heap.size (.cells (Lib.bytesCells w el s) el ((Lib.bytesCells w el s).size, (Lib.bytesCells w el s).size + 1))) trivial ⟨hH, Qdy (fun k o e => ?_) (Lib.bytesWorld_at_new w el s), rfl, rfl, rfl, by rw [Lib.bytesWorld_size]; omega, fun k hk _ => Lib.bytesWorld_at_old w el s k hk, fun k o e => ?_⟩ ⟨some ⟨w.heap.size, 0, none⟩, grownCap w s.size 0 el, ?_, ?_, ?_, fun h0 => ⟨⟨w.heap.size, 0, none⟩, _, _, _, (Yk l).map (Value.int .u8), rfl, rfl, show Up H w.heap.size _ w.heap.size = _ by unfold Up; rw [if_pos rfl], ⟨by rw [List.length_map]; exact (Nat.mul_one _).symm, fun j v hj => ?_⟩, fun j v hj => ?_⟩⟩ Xu.nil
 · rw [Lib.bytesWorld_at_old w el s k (s'.on.lt e)]; exact s'.on k o e
 · unfold Up at e
   by_cases hk : k = w.heap.size
   · exact .inr (.inl (Nat.le_of_eq hk.symm))
   rw [if_neg hk] at e; exact .inl e
 · simp [hsz]
 · simp [hsz] at hge ⊢; exact hge
 · simpa using hm
 · have : (Jw .u8).sz = 1 := rfl
   rw [this, Nat.mul_one]
   show (((Yk l).map (Value.int .u8)).drop j).take 1 = [Value.int .u8 v]
   have h2 : ((Yk l).map (Value.int .u8))[j]? = some (Value.int .u8 v) := by rw [List.getElem?_map, hj]; rfl
   obtain ⟨h3, h4⟩ := List.getElem?_eq_some_iff.1 h2
   rw [List.drop_eq_getElem_cons h3, List.take_succ_cons, List.take_zero, h4]
 rw [Nat.zero_add]
 have hlt : j < s.size := by
  have := (List.getElem?_eq_some_iff.1 hj).1; simpa [hsz] using this
 unfold Lib.bytesCells
 rw [Array.getElem?_append_left (by rw [Array.size_map]; exact hlt)]
 rw [List.getElem?_map, List.getElem?_map] at hj
 rw [Array.getElem?_map, ← Array.getElem?_toList, hdl]
 simpa [Function.comp] using hj
end
open Go.RowKit in
theorem Qlx {K0 : FH} {n0 : Nat} {P : Program} {f : FuncId} {As : List Ty} {T : Ty}
 (h : ∀ (H : FH) (w : World) (args : List Value), Sub K0 H → On H w → Kc H As args → Calls P f args.toArray w fun e w' => ∃ v, e = .returned v ∧ T.p H v ∧ Below w.heap.size w w') :
 CtM K0 n0 P f As [] Unit (fun _ => T) (fun _ => []) (fun _ => True) := by
 intro H w args hK hn hon hA hO
 refine (h H w args hK hon hA).mono ?_
 rintro e w' ⟨v, rfl, hv, hb⟩
 exact ⟨(), v, H, rfl, trivial, ⟨Sub.refl _, fun k o e => (hb.block k (hon.lt e)).trans (hon k o e), hb.os, hb.tape, hb.output, hb.size, fun k hk _ => hb.block k hk, fun k o e => .inl e⟩, hv, Xu.nil⟩
end Go.Gw
namespace Go.So
open Go Go.Gw
abbrev kT : Kd (List Int) := ksl (Jw .i64)
abbrev DA := Array (List Int)
structure Qly where
 T : List Int → Ty
 h : ∀ {x H v}, (T x).p H v → ∃ A n c, v = .slice A n c
abbrev kG (Z : Qly) : Kd (List Int) := kty Z.T Z.h
abbrev zC (K0 : FH) (n0 : Nat) : Qly := ⟨fun xs => Qhb K0 n0 (Jw .i64) xs, fun {x H v} h => let ⟨A, h1⟩ := h.2; ⟨A, _, _, h1⟩⟩
abbrev zS : Qly := ⟨fun xs => SlT (Jw .i64) xs, fun {x H v} h => let ⟨A, c, h1, _⟩ := h; ⟨A, _, c, h1⟩⟩
abbrev kF (K0 : FH) (n0 : Nat) : Kd (List Int) := kcl K0 n0 (Jw .i64)
def ltc (c : List Int → List Int → Int) (x y : List Int) : Bool := decide (c x y < 0)
section
variable {c : List Int → List Int → Int} {d : DA} {a b i j : Nat}
variable {hi first root : Nat}
end
end Go.So
namespace Go.Gw.Qu
open Go Go.Gw
def Tr (C : Cx) (Γ : Env) (φ : Act → World → Prop) : Prop := On C.H0 C.w0 → ∀ a, Fits C.N Γ C.H0 a → φ a C.w0
section
variable {C : Cx} {Γ : Env} {Q : Exit → Act → World → Prop} {K : Act → World → Prop} {φ : Act → World → Prop} {ops : Array Oper} {o : Oper} {rest : List Oper} {i : Nat}
theorem Tr.imp {φ ψ : Act → World → Prop} (h : Tr C Γ φ) (hi : ∀ a w, φ a w → ψ a w) : Tr C Γ ψ := fun o a f => hi _ _ (h o a f)
theorem Zi {x y : Code} (h : Tr C Γ (x.wp C.P (Exit.then (y.wp C.P Q) Q))) : Tr C Γ ((Code.seq x y).wp C.P Q) := h.imp fun _ _ => wp_seq
theorem W3 (h : Tr C Γ (Q .normal)) : Tr C Γ (Code.skip.wp C.P Q) := h.imp fun _ _ => wp_skip
theorem Qx (h : Tr C Γ (Q (.exit i))) : Tr C Γ ((Code.exit i).wp C.P Q) := h.imp fun _ _ => wp_exit
theorem V6 (h : Tr C Γ (Q .ret)) : Tr C Γ (Code.ret.wp C.P Q) := h.imp fun _ _ => wp_ret
theorem Qdu {c : Code} (h : Tr C Γ (c.wp C.P (Exit.inBlock i Q))) : Tr C Γ ((Code.block i c).wp C.P Q) := h.imp fun _ _ => wp_block
theorem Q6 (h : Tr C Γ K) : Tr C Γ (Exit.then K Q .normal) := h
theorem Qcd (h : Tr C Γ (Q (.exit i))) : Tr C Γ (Exit.then K Q (.exit i)) := h
theorem J4 (h : Tr C Γ (Q .ret)) : Tr C Γ (Exit.then K Q .ret) := h
theorem Qap (h : Tr C Γ (Q .normal)) : Tr C Γ (Exit.inBlock i Q .normal) := h
theorem Qw (h : Tr C Γ (Q .ret)) : Tr C Γ (Exit.inBlock i Q .ret) := h
theorem Qfc (h : Tr C Γ (Q .normal)) : Tr C Γ (Exit.inBlock i Q (.exit i)) := h.imp fun _ _ h => by
 unfold Exit.inBlock; simpa using h
theorem Xv {id : Nat} {l : List Oper} (h : Tr C Γ (wpList C.P l.toArray Q l)) : Tr C Γ ((Code.region id l.toArray false).wp C.P Q) := h.imp fun _ _ => wp_region_lit
theorem Yc (h : Tr C Γ (Q .normal)) : Tr C Γ (wpList C.P ops Q []) := h
theorem Z5 {Γ' : Env} (h : Yy C.N Γ Γ') (k : Tr C Γ' φ) : Tr C Γ φ := fun o a f => k o a (h a _ f)
theorem Xb {T : Ty} (hp : Pure C Γ [] o T) (hg : o.guard = none) (hd : Wb C.N o.dst = true) (h : Tr C (upd o.dst T Γ) (wpList C.P ops Q rest)) : Tr C Γ (wpList C.P ops Q (o :: rest)) := by
 intro on a f
 obtain ⟨v, hr, hv⟩ := hp a _ _ f (St.refl on) Xu.nil
 refine wpList_plain hg fun K hK => ?_
 simp only [Oper.wp, hr, Oper.upon_value]
 exact hK _ _ (h on _ (f.put o.dst hd hv))
theorem W4 {x : Operand} {b : Bool} {c d : Code} (hx : OT C.N Γ x (Xe b)) (ht : b = true → Tr C Γ (c.wp C.P Q)) (he : b = false → Tr C Γ (d.wp C.P Q)) : Tr C Γ ((Code.cond x c d).wp C.P Q) := by
 intro o a f
 have hb : a.eval x = .bool b := hx a _ f
 cases b with
 | true => exact wp_cond hb (ht rfl o a f)
 | false => exact wp_cond hb (he rfl o a f)
def Round (C : Cx) {σ : Type} (Γ : σ → Env) (I : σ → Prop) (μ : σ → Nat) (n : Nat) : Act → World → Prop := fun a w => w = C.w0 ∧ ∃ s, I s ∧ μ s < n ∧ Fits C.N (Γ s) C.H0 a
theorem Qt {σ : Type} {Γk : Env} (hk : Yy C.N Γ Γk) (Δ : σ → Env) (_ : σ → List It) (I : σ → Prop) (μ : σ → Nat) {c : Code} (s0 : σ) (h0 : I s0) (hd : Yy C.N Γ (Δ s0)) (_ : ∀ w H, Xu C.ok w H [] → Xu C.ok w H [])
 (hround : ∀ s, I s → Tr C (Δ s ++ Γk) (c.wp C.P (Exit.then (Round C (fun s => Δ s ++ Γk) I μ (μ s)) Q))) : Tr C Γ ((Code.loop c).wp C.P Q) := by
 intro on a f
 have key : ∀ n s a, μ s = n → I s → Fits C.N (Δ s ++ Γk) C.H0 a → ∀ (b : Frame) (k : List Item) (cs : List Frame),
  ∃ e a' w', Q e a' w' ∧ Arrives C.P (lone (b.at a (.code c :: .inLoop c :: k)) cs C.w0) b k cs e a' w' := by
  intro n
  induction n using Nat.strongRecOn with
  | _ n ih =>
   intro s a hn hI hf b k cs
   obtain ⟨e, a₁, w₁, hq, harr⟩ := hround s hI on a hf b (.inLoop c :: k) cs
   cases e with
   | normal =>
    obtain ⟨rfl, s1, hI1, hlt, hf1⟩ := hq
    obtain ⟨e₂, a₂, w₂, hq₂, harr₂⟩ := ih (μ s1) (hn ▸ hlt) s1 a₁ rfl hI1 hf1 b k cs
    exact ⟨e₂, a₂, w₂, hq₂, .of_steps (Steps.trans harr (.one step_inLoop)) harr₂⟩
   | exit id => exact ⟨_, a₁, w₁, hq, .pass (x := .inLoop c) rfl (fun _ _ => .inl (by simp)) harr⟩
   | goto l => exact ⟨_, a₁, w₁, hq, .pass (x := .inLoop c) rfl (fun _ _ => .inl (by simp)) harr⟩
   | ret => exact ⟨_, a₁, w₁, hq, .pass (x := .inLoop c) rfl (fun _ _ => .inl (by simp)) harr⟩
   | panic ch => exact ⟨_, a₁, w₁, hq, .pass (x := .inLoop c) rfl (fun _ _ => .inl (by simp)) harr⟩
   | outgrown => exact ⟨_, a₁, w₁, hq, .pass (x := .inLoop c) rfl (fun _ _ => .inl (by simp)) harr⟩
 intro b k cs
 obtain ⟨e, a', w', hq, harr⟩ := key _ s0 a rfl h0 (Qcf hd hk a _ f) b k cs
 exact ⟨e, a', w', hq, .of_steps (.one step_loop) harr⟩
theorem Qg4 {σ : Type} {Γl : σ → Env} {I : σ → Prop} {μ : σ → Nat} {n : Nat} (s : σ) (hI : I s) (hμ : μ s < n) (hΓ : ∀ a H, Fits C.N Γ H a → Fits C.N (Γl s) H a) (_ : ∀ w H, Xu C.ok w H [] → Xu C.ok w H []) : Tr C Γ (Round C Γl I μ n) := fun _ a f => ⟨rfl, s, hI, hμ, hΓ a _ f⟩
end
def post (H : FH) (w : World) (T : Ty) : Ending → World → Prop := fun e w' => w' = w ∧ ∃ v, e = .returned v ∧ T.p H v
def Ct (P : Program) (f : FuncId) (As : List Ty) (T : Ty) : Prop := ∀ (H : FH) (w : World) (args : List Value), On H w → Kc H As args → Calls P f args.toArray w (post H w T)
theorem Ct.ct {P : Program} {f : FuncId} {As : List Ty} {T : Ty} (h : Ct P f As T) : Gw.Ct P f As [] Unit (fun _ => T) (fun _ => []) (fun _ => True) := fun H w args on hA _ => (h H w args on hA).mono fun e w' ⟨hw, v, he, hv⟩ => by
 subst hw
 exact ⟨(), v, H, he, trivial, St.refl on, hv, Xu.nil⟩
theorem Ct.pre {P : Program} {f : FuncId} {As : List Ty} {T : Ty} {p : Prop} (hA : ∀ H vs, Kc H As vs → p) (h : p → Ct P f As T) : Ct P f As T := fun H w args on hAl => h (hA H args hAl) H w args on hAl
theorem Ct.args {P : Program} {f : FuncId} {As Bs : List Ty} {T : Ty} (hA : ∀ H vs, Kc H Bs vs → Kc H As vs) (h : Ct P f As T) : Ct P f Bs T := fun H w args on hAl => h H w args on (hA H args hAl)
theorem Qn {P : Program} {f : FuncId} {fn : Func} {c : Code} {As : List Ty} {T : Ty} (hf : P.funcs[f]? = some fn) (hb : fn.body = some c) (hN : decide (As.length ≤ fn.ntmps) = true)
 (h : ∀ (H : FH) (w : World), Tr ⟨P, fn.ntmps, noM, H, w⟩ (Qfd 0 As) (c.wp P (bodyPost P fn (post H w T)))) : Ct P f As T := by
 intro H w args hon hA
 have hlen := Qdv hA
 have hN' : As.length ≤ fn.ntmps := of_decide_eq_true hN
 refine calls_of_wp hf hb (h H w hon _ ⟨rfl, by simp; omega, fun t T' e => ?_⟩)
 obtain ⟨_, h2, h3⟩ := Qce hA e
 have h4 : (args.toArray ++ Array.replicate (fn.ntmps - args.toArray.size) undef).getD t undef = args.getD (t - 0) undef := by
  simp only [Nat.sub_zero] at h3 ⊢
  simp [Array.getD_eq_getD_getElem?, List.getD_eq_getElem?_getD, Array.getElem?_append, h3]
 rw [h4]; exact h2
section
variable {C : Cx} {Γ : Env} {Q : Exit → Act → World → Prop} {ops : Array Oper} {rest : List Oper} {dst : Option Tmp} {ty : TypeId} {pos : String} {after : Array Edge}
def Yp (C : Cx) (Γ : Env) (o : Oper) (T : Ty) : Prop := On C.H0 C.w0 → ∀ a, Fits C.N Γ C.H0 a → ∀ (Q : Exit → Act → World → Prop) (K : Act → World → Prop), (∀ v, T.p C.H0 v → K (a.put o.dst v) C.w0) → o.wp C.P a C.w0 K Q
theorem Vx {f : FuncId} {As : List Ty} {T : Ty} {xs : List Operand} {ats : Array TypeId} {guard : Option (Nat × Bool)} (hF : Ct C.P f As T) (hin : enters C.P f = true) (hxs : OTs C.N Γ xs As) (_ : List.Perm ([] : List It) []) :
 Yp C Γ { dst, op := .call { callee := .value (.func f), args := xs.toArray, argTypes := ats }, type := ty, pos, after, guard } T := by
 intro on a fi Q K hK
 have he : execOp a.eval { dst, op := .call { callee := .value (.func f), args := xs.toArray, argTypes := ats }, type := ty, pos, after, guard } = callFunc f (xs.map a.eval).toArray := by
  rw [execOp_call_go]; simp
 simp only [Oper.wp, he, Wp hin, Oper.upon_enter]
 refine Calls.mono (hF _ _ _ on (OTs.all fi hxs)) ?_
 rintro e w' ⟨rfl, v, rfl, hv⟩
 exact hK v hv
theorem Ku {o : Oper} {T : Ty} (hp : Yp C Γ o T) (_ : List.Perm ([] : List It) []) (hg : o.guard = none) (hd : Wb C.N o.dst = true) (h : Unit → True → Tr C (upd o.dst T Γ) (wpList C.P ops Q rest)) : Tr C Γ (wpList C.P ops Q (o :: rest)) := by
 intro on a f
 exact wpList_plain hg fun K hK => hp on a f Q K fun v hv => hK _ _ (h () trivial on _ (f.put o.dst hd hv))
theorem Qi {fn : Func} {P : Program} {N : Nat} {H0 : FH} {w0 : World} {M : Nat → Prop} {T : Ty} (e : Exit) (he : e = .ret ∨ e = .normal) {t : Nat} (hres : fn.results = #[.tmp t]) (_ : Unit) (hT : OT N Γ (.tmp t) T) (_ : True) (_ : ∃ R, List.Perm ([] : List It) ([] ++ R)) :
 Tr ⟨P, N, M, H0, w0⟩ Γ (bodyPost P fn (post H0 w0 T) e) := fun _ a f => by
 have hend : a.defers = [] ∧ ∃ v, (results fn a.tmps).run P w0 = .ok v w0 ∧ post H0 w0 T (.returned v) w0 := ⟨f.defers, _, results_tmp hres _ _ _, rfl, _, rfl, hT a _ f⟩
 rcases he with rfl | rfl <;> exact hend
end
end Go.Gw.Qu
