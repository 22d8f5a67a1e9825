/- Typed walks: memory newer than a mark; contracts that speak of a mark; pieces of a row of one's own, rows made with room, cleared. Over any program. -/
import Derived.Test.YtoaeaclcbcpheaaDoorG16
import Derived.Laws.MakeOwn
import Derived.Lib.AppendZerosOnto
import Derived.Lib.SliceRun
namespace Go.Gw
open Go
set_option linter.unusedVariables false
set_option linter.unusedSimpArgs false
/-! ### 1. Newer than a mark -/
/-- A slice whose memory is newer than a mark, or that has no room. -/
def FreshV (K0 : FH) (n0 : Nat) : Value → Prop
  | .slice (some p) _ c => c = 0 ∨ (K0 p.block = none ∧ n0 ≤ p.block)
  | _ => True
/-- A slice's room lies in a block that may be written. -/
def RoomV (H : FH) (sz : Nat) : Value → Prop
  | .slice (some p) _ c => 0 < c → p.spot = none ∧ ∃ cells e, H p.block = some (.cells cells e (0, 0)) ∧ p.off + c * sz ≤ cells.size
  | _ => True
theorem RoomV.mono {H H' : FH} {sz : Nat} (hs : Sub H H') {v : Value} (h : RoomV H sz v) : RoomV H' sz v := by
  cases v with
  | slice A n c =>
    cases A with
    | none => trivial
    | some p => exact fun hc => let ⟨h1, cells, e, h2, h3⟩ := h hc; ⟨h1, cells, e, hs _ _ h2, h3⟩
  | _ => trivial
def FreshT {α : Type} (K0 : FH) (n0 : Nat) (d : Kd α) (xs : List α) : Ty := ⟨fun H v => (SlT d xs).p H v ∧ FreshV K0 n0 v ∧ RoomV H d.sz v, fun hs h => ⟨(SlT d xs).mono hs h.1, h.2.1, h.2.2.mono hs⟩⟩
/-- .. and there is no room beyond. -/
def ClipT {α : Type} (K0 : FH) (n0 : Nat) (d : Kd α) (xs : List α) : Ty := ⟨fun H v => (FreshT K0 n0 d xs).p H v ∧ ∃ A, v = .slice A xs.length xs.length, fun hs h => ⟨(FreshT K0 n0 d xs).mono hs h.1, h.2⟩⟩
def kty {α : Type} (T : α → Ty) (hT : ∀ {x H v}, (T x).p H v → ∃ A n c, v = .slice A n c) : Kd α where
  sz := 1
  agg := false
  K := fun H xs cs => ∃ v, cs = [v] ∧ (T xs).p H v
  T := T
  len := by rintro H x cs ⟨v, rfl, _⟩; rfl
  one := by rintro H x cs ⟨v, rfl, h⟩ u hu; obtain ⟨A, n, c, rfl⟩ := hT h; rw [List.mem_singleton.1 hu]; rfl
  mono := by rintro H H' x cs hs ⟨v, rfl, h⟩; exact ⟨v, rfl, (T x).mono hs h⟩
  toT := by rintro H x cs ⟨v, rfl, h⟩; exact h
  ofT := fun {H x v} h => ⟨[v], ⟨v, rfl, h⟩, rfl⟩
  szone := fun _ => rfl
/-- Slices that are read, with memory newer than a mark. -/
def kfr {α : Type} (K0 : FH) (n0 : Nat) (d : Kd α) : Kd (List α) := kty (fun xs => FreshT K0 n0 d xs) fun {x H v} h => let ⟨A, c, h1, _⟩ := h.1; ⟨A, _, c, h1⟩
def kcl {α : Type} (K0 : FH) (n0 : Nat) (d : Kd α) : Kd (List α) := kty (fun xs => ClipT K0 n0 d xs) fun {x H v} h => let ⟨A, h1⟩ := h.2; ⟨A, _, _, h1⟩
/-- Called where K0 is frozen and the heap has n0 blocks at least. -/
def CtM (K0 : FH) (n0 : Nat) (P : Program) (f : FuncId) (As : List Ty) (J : List It) (ρ : Type) (T : ρ → Ty) (I : ρ → List It) (φ : ρ → Prop) : Prop :=
  ∀ (H : FH) (w : World) (args : List Value), Sub K0 H → n0 ≤ w.heap.size → On H w → AllP H As args → Owns (fun _ => True) w H J → Calls P f args.toArray w (post J H w ρ T I φ)
theorem Ct.toM {K0 : FH} {n0 : Nat} {P : Program} {f : FuncId} {As : List Ty} {J : List It} {ρ : Type} {T : ρ → Ty} {I : ρ → List It} {φ : ρ → Prop} (h : Ct P f As J ρ T I φ) : CtM K0 n0 P f As J ρ T I φ := fun H w args _ _ hon hA hO => h H w args hon hA hO
theorem fn_introM {K0 : FH} {n0 : Nat} {P : Program} {f : FuncId} {fn : Func} {c : Code} {As : List Ty} {J : List It} {ρ : Type} {T : ρ → Ty} {I : ρ → List It} {φ : ρ → Prop} (hf : P.funcs[f]? = some fn) (hb : fn.body = some c) (hN : decide (As.length ≤ fn.ntmps) = true)
    (h : ∀ (H : FH) (w : World), Sub K0 H → n0 ≤ w.heap.size → Tr ⟨P, fn.ntmps, fun g => g ∈ blks J, H, w⟩ (argEnv 0 As) J (c.wp P (bodyPost P fn (post J H w ρ T I φ)))) : CtM K0 n0 P f As J ρ T I φ := by
  intro H w args hK hn hon hA hO
  have hlen := allP_len hA
  have hN' : As.length ≤ fn.ntmps := of_decide_eq_true hN
  refine calls_of_wp hf hb (h H w hK hn _ w H ⟨rfl, by simp; omega, fun t T' e => ?_⟩ (St.refl hon) (hO.mono fun g hg _ => .inl hg))
  obtain ⟨_, h2, h3⟩ := allP_find hA e
  have h4 : (args.toArray ++ Array.replicate (fn.ntmps - args.toArray.size) undef).getD t undef = args.getD (t - 0) undef := by
    simp only [Nat.sub_zero] at h3 ⊢
    simp [Array.getD_eq_getD_getElem?, List.getD_eq_getElem?_getD, Array.getElem?_append, h3]
  rw [h4]; exact h2
def MarkOk (C : Cx) (Γ : Env) (K0 : FH) (n0 : Nat) : Prop := (∀ a H, Fits C.N Γ H a → Sub C.H0 H → Sub K0 H) ∧ n0 ≤ C.w0.heap.size
theorem mk_in {C : Cx} {Γ : Env} {K0 : FH} {n0 : Nat} (hK : Sub K0 C.H0) (hn : n0 ≤ C.w0.heap.size) : MarkOk C Γ K0 n0 := ⟨fun _ _ _ hs => hK.trans hs, hn⟩
abbrev noK : FH := fun _ => none
theorem mk_none {C : Cx} {Γ : Env} : MarkOk C Γ noK 0 := ⟨fun _ _ _ _ k o h => (by cases h), Nat.zero_le _⟩
/-- A slot that says that K is frozen. -/
def MarkT (K : FH) : Ty := ⟨fun H _ => Sub K H, fun hs h => h.trans hs⟩
theorem mk_slot {C : Cx} {Γ : Env} {K0 : FH} {t : Nat} (h : OT C.N Γ (.tmp t) (MarkT K0)) : MarkOk C Γ K0 C.w0.heap.size := ⟨fun a H f _ => h a H f, Nat.le_refl _⟩
section
variable {C : Cx} {Γ : Env} {L R : List It} {Q : Exit → Act → World → Prop} {ops : Array Oper} {rest : List Oper}
variable {dst : Option Tmp} {ty : TypeId} {pos : String} {after : Array Edge} {guard : Option (Nat × Bool)} {x y z : Operand}
variable {α β : Type} {d : Kd α} {e : Kd β}
theorem acts_callM {K0 : FH} {n0 : Nat} {J : List It} {f : FuncId} {As : List Ty} {ρ : Type} {T : ρ → Ty} {I : ρ → List It} {φ : ρ → Prop} {xs : List Operand} {ats : Array TypeId}
    (hF : CtM K0 n0 C.P f As J ρ T I φ) (hk : MarkOk C Γ K0 n0) (hin : enters C.P f = true) (hxs : OTs C.N Γ xs As) (hL : List.Perm L (J ++ R)) :
    Acts C Γ L { dst, op := .call { callee := .value (.func f), args := xs.toArray, argTypes := ats }, type := ty, pos, after, guard } J ρ T I φ := by
  intro a w H fi s ow Q K hK
  have he : execOp a.eval { dst, op := .call { callee := .value (.func f), args := xs.toArray, argTypes := ats }, type := ty, pos, after, guard } = callFunc f (xs.map a.eval).toArray := by
    rw [execOp_call_go]; simp
  simp only [Oper.wp, he, run_enters hin, Oper.upon_enter]
  refine Calls.mono (hF H w _ (hk.1 a H fi s.sub) (Nat.le_trans hk.2 s.size) s.on (OTs.all fi hxs) ((ow.perm hL).left.mono fun _ _ _ => trivial)) ?_
  rintro e w' ⟨r, v, H', rfl, hφ, s', hv, ho⟩
  exact hK r v w' H' hφ s' hv ho
theorem own_frozenF {w : World} {H : FH} {t : TypeId} {v : Value} {xs : List α} (h : (OwnI t d v xs).p w H) (hn : ∀ g, v.ownBlock = some g → H g = none) (hon : On H w) :
    ∃ H', Sub H H' ∧ On H' w ∧ (∀ k o, H' k = some o → H k = some o ∨ v.ownBlock = some k) ∧ (SlT d xs).p H' v ∧ RoomV H' d.sz v := by
  obtain ⟨H', h1, h2, h3, h4⟩ := own_frozen h hn hon
  obtain ⟨inner, ⟨_, h5⟩, _⟩ := h
  rcases h5 with ⟨rfl, h0⟩ | ⟨g, cap, cur, rfl, _, hb, hc, hm, hs, _⟩
  · exact ⟨H', h1, h2, h3, h4, trivial⟩
  · by_cases hg' : H' g = none
    · have hg : H g = none := hn g rfl
      refine ⟨addH H' g (.cells cur t (0, 0)), h1.trans (addH_sub hg'), addH_on h2 hb, fun k o e => ?_, (SlT d xs).mono (addH_sub hg') h4, fun _ => ⟨rfl, cur, t, by simp [addH], by rw [hs]; simp⟩⟩
      unfold addH at e
      by_cases hk : k = g
      · subst hk; exact .inr rfl
      · rw [if_neg hk] at e; exact h3 k o e
    · obtain ⟨o, ho⟩ := Option.ne_none_iff_exists'.1 hg'
      have := h2 g o ho
      rw [hb] at this
      have ho' : o = .cells cur t (0, 0) := (Option.some.inj this).symm
      subst ho'
      exact ⟨H', h1, h2, h3, h4, fun _ => ⟨rfl, cur, t, ho, by rw [hs]; simp⟩⟩
/-- A row of one's own, made since the mark, is frozen. -/
theorem tr_freezeF {K0 : FH} {n0 : Nat} {t : TypeId} {v : Value} {xs : List α} {φ : Act → World → Prop} (hk : MarkOk C Γ K0 n0) (hM : ∀ g, ¬ C.M g) (hp : List.Perm L (OwnI t d v xs :: R)) (sl : Nat) (hv : OT C.N Γ (.tmp sl) (IsV v)) (h : Tr C ((sl, FreshT K0 n0 d xs) :: Γ) R φ) : Tr C Γ L φ := by
  intro a w H f s o
  have o' := o.perm hp
  have hb : ∀ g, v.ownBlock = some g → g < w.heap.size ∧ H g = none ∧ C.ok g := fun g hg => o'.own g (blk_mem (i := OwnI t d v xs) List.mem_cons_self hg)
  have hfr : FreshV K0 n0 v := by
    obtain ⟨inner, ⟨_, h2⟩, _⟩ := o'.all _ List.mem_cons_self
    rcases h2 with ⟨rfl, _⟩ | ⟨g, cap, cur, rfl, _⟩
    · exact trivial
    · obtain ⟨_, h4, h5⟩ := hb g rfl
      refine .inr ⟨?_, Nat.le_trans hk.2 (h5.resolve_left (hM g))⟩
      have hs := hk.1 a H f s.sub
      show K0 g = none
      cases e : K0 g with
      | none => rfl
      | some o => have := hs g o e; rw [h4] at this; cases this
  obtain ⟨H', h1, h2, h3, h4, h5⟩ := own_frozenF (o'.all _ List.mem_cons_self) (fun g hg => (hb g hg).2.1) s.on
  refine h a w H' (fits_cons ?_ (f.mono h1)) ⟨s.sub.trans h1, h2, s.os, s.tape, s.output, s.size, s.keep, fun k o e => ?_⟩ (frozen_sub o' h1 h3)
  · have : a.eval (.tmp sl) = v := hv a H f
    simp only [Act.eval] at this
    rw [this]; exact ⟨h4, hfr, h5⟩
  · rcases h3 k o e with e | e
    · exact s.new k o e
    · rcases (hb k e).2.2 with h5 | h5
      · exact .inr (.inr h5)
      · exact .inr (.inl h5)
/-- A slot is told less of. -/
theorem tr_as {T : Ty} {φ : Act → World → Prop} (sl : Nat) (hv : OT C.N Γ (.tmp sl) T) (h : Tr C ((sl, T) :: Γ) L φ) : Tr C Γ L φ := tr_env (fun a H f => fits_cons (hv a H f) f) h
theorem OT.fresh {N : Nat} {K0 : FH} {n0 : Nat} {xs : List α} (h : OT N Γ x (FreshT K0 n0 d xs)) : OT N Γ x (SlT d xs) := fun a H f => (h a H f).1
theorem reps_weak {d e : Kd α} (hsz : d.sz = e.sz) {H : FH} {xs : List α} {cs : List Value} (hw : ∀ {H x cs}, d.K H x cs → e.K H x cs) (h : Reps d H xs cs) : Reps e H xs cs := ⟨by rw [← hsz]; exact h.1, fun j x e => by rw [← hsz]; exact hw (h.2 j x e)⟩
theorem slt_weak {d e : Kd α} (hsz : d.sz = e.sz) (hw : ∀ {H x cs}, d.K H x cs → e.K H x cs) {H : FH} {v : Value} {xs : List α} (h : (SlT d xs).p H v) : (SlT e xs).p H v := by
  obtain ⟨A, c, h1, h2, h3, h4⟩ := h
  refine ⟨A, c, h1, h2, h3, fun hn => ?_⟩
  obtain ⟨ad, cells, el, fr, cs, e1, e2, e3, e4, e5⟩ := h4 hn
  exact ⟨ad, cells, el, fr, cs, e1, e2, e3, reps_weak hsz hw e4, e5⟩
theorem cl_weak {K0 : FH} {n0 : Nat} {H : FH} {xs : List α} {cs : List Value} (h : (kcl K0 n0 d).K H xs cs) : (ksl d).K H xs cs := let ⟨v, h1, h2⟩ := h; ⟨v, h1, h2.1.1⟩
theorem OT.unclip {N : Nat} {K0 : FH} {n0 : Nat} {xs : List α} (h : OT N Γ x (ClipT K0 n0 d xs)) : OT N Γ x (FreshT K0 n0 d xs) := fun a H f => (h a H f).1
theorem fr_weak {K0 : FH} {n0 : Nat} {H : FH} {xs : List α} {cs : List Value} (h : (kfr K0 n0 d).K H xs cs) : (ksl d).K H xs cs := let ⟨v, h1, h2⟩ := h; ⟨v, h1, h2.1⟩
/-- A slice of new slices is a slice of slices. -/
theorem OT.unfr {N : Nat} {K0 : FH} {n0 : Nat} {xs : List (List α)} (h : OT N Γ x (SlT (kcl K0 n0 d) xs)) : OT N Γ x (SlT (ksl d) xs) := fun a H f => slt_weak (d := kcl K0 n0 d) (e := ksl d) rfl cl_weak (h a H f)
theorem OT.unfr2 {N : Nat} {K0 : FH} {n0 : Nat} {xs : List (List α)} (h : OT N Γ x (FreshT K0 n0 (kcl K0 n0 d) xs)) : OT N Γ x (SlT (ksl d) xs) := OT.unfr h.fresh
/-! ### 2. Operations -/
/-- 's == nil'. -/
theorem acts_isnil {t t2 el : TypeId} {xs : List α} (hx : OT C.N Γ x (SlT d xs)) (ht : C.P.underlying t = some (.slice el)) :
    Acts C Γ L ⟨dst, .binOp .eql t x (.const nilS) t2, ty, pos, after, guard⟩ [] Bool (fun b => BoolT b) (fun _ => []) (fun b => b = true → xs = []) := by
  intro a w H f s ow Q K hK
  obtain ⟨A, c, hv, hc, hm, hr⟩ := hx a H f
  have hrun : (execOp a.eval ⟨dst, .binOp .eql t x (.const nilS) t2, ty, pos, after, guard⟩).run C.P w = .ok (.value (.bool A.isNone)) w := by
    have h1 := Lib.run_eql_slice_nil (P := C.P) w t el A xs.length c 0 0 ht
    simp only [execOp, hv, show a.eval (.const nilS) = nilS from rfl, Sem.run_bind]
    rw [show (eqGuard .eql t x (.const nilS) (.slice A xs.length c) nilS).run C.P w = .ok () w from by simp [eqGuard]]
    simp only [Result.andThen_ok, h1, Sem.run_pure]
  simp only [Oper.wp, hrun, Oper.upon_value]
  refine hK A.isNone _ w H (fun hb => ?_) (St.refl s.on) rfl Owns.nil
  cases xs with
  | nil => rfl
  | cons y ys =>
    obtain ⟨ad, _, _, _, _, e1, _⟩ := hr (by simp)
    rw [e1] at hb; cases hb
/-- 'make([]T, 0, c)'. -/
theorem acts_make {t el : TypeId} {bytes : Nat} {k1 k2 : IntKind} {n : Int} (hx : OT C.N Γ x (IntT k1 0)) (hy : OT C.N Γ y (IntT k2 n)) (ht : slTy C.P t el d.sz bytes = true) (h0 : 0 ≤ n) (h1 : n * bytes ≤ 281474976710656) (h2 : n ≤ maxLen) :
    Acts C Γ L ⟨dst, .makeSlice t x y, ty, pos, after, guard⟩ [] Value (fun r => IsV r) (fun r => [OwnI el d r []]) (fun _ => True) := by
  intro a w H f s ow Q K hK
  obtain ⟨hu, i, z, hi, hz, hsz, hby, hzs, hpos⟩ := slTy_spec ht
  have hv : a.eval x = .int k1 0 := hx a H f
  have hw : a.eval y = .int k2 n := hy a H f
  obtain ⟨c, rfl⟩ : ∃ c : Nat, n = c := ⟨n.toNat, by omega⟩
  obtain ⟨w', h3, h4, h5⟩ := run_make_own (P := C.P) w 0 t el i z d.sz hu hi hz hsz k1 k2 c (by rw [hby, Nat.mul_comm]; omega) (by omega) (Nat.zero_le _)
  have hrun : (execOp a.eval ⟨dst, .makeSlice t x y, ty, pos, after, guard⟩).run C.P w = .ok (.value (.slice (some ⟨w.heap.size, 0, none⟩) 0 c)) w' := by
    simp only [execOp, hv, hw, Sem.run_bind, h3, Result.andThen_ok, Sem.run_pure]
  simp only [Oper.wp, hrun, Oper.upon_value]
  have hsz' : w.heap.size < w'.heap.size := by
    rcases h4.2 with ⟨h6, _⟩ | ⟨g, cap, cur, h6, _, hh, _⟩
    · cases h6
    · have : g = w.heap.size := by injection h6 with h7; injection h7 with h8; injection h8 with h9; exact h9.symm
      subst this
      exact (Array.getElem?_eq_some_iff.1 hh).1
  exact hK _ _ w' H trivial (st_grown (row := none) s.on h5 fun g h => by cases h) rfl (owns_new (J := OwnI el d (.slice (some ⟨w.heap.size, 0, none⟩) 0 c) []) ⟨[], h4, Reps.nil⟩ (.inr rfl) hsz' s.on)
/-- 's[:n:n]' of all. -/
theorem pu_clip {t el : TypeId} {k1 k2 : IntKind} {xs : List α} {K0 : FH} {n0 : Nat} (hx : OT C.N Γ x (FreshT K0 n0 d xs)) (hy : OT C.N Γ y (IntT k1 xs.length)) (hz : OT C.N Γ z (IntT k2 xs.length)) (ht : C.P.underlying t = some (.slice el)) (he : tyOk C.P el d.agg d.sz = true) :
    Pure C Γ L ⟨dst, .slice t x none (some y) (some z), ty, pos, after, guard⟩ (ClipT K0 n0 d xs) := fun a w H f s ow => by
  obtain ⟨⟨A, c, hv, hc, hm, hr⟩, hfr, hrm⟩ := hx a H f
  have hi : a.eval y = .int k1 xs.length := hy a H f
  have hj : a.eval z = .int k2 xs.length := hz a H f
  have hcut := row_cut (lo := 0) (hi := xs.length) hr (by omega) (by omega) hc
  rw [List.take_length, List.drop_zero] at hcut
  have hcc : (xs.length : Int) ≤ (c : Int) := by omega
  have hadd : ∀ q : Addr, q.add (0 * d.sz) = q := fun q => by cases q; simp [Addr.add]
  have hA : (if xs.length = 0 then A else A.map (·.add (0 * d.sz))) = A := by
    split
    · rfl
    · cases A with
      | none => rfl
      | some q => rw [Option.map_some, hadd]
  refine ⟨.slice (if xs.length = 0 then A else A.map (·.add (0 * d.sz))) xs.length xs.length, ?_, ⟨⟨A, xs.length, by rw [hA], Nat.le_refl _, hm, hr⟩, ?_, ?_⟩, A, by rw [hA]⟩
  · simp [execOp, Instr.sliceAt, Instr.slice, Instr.sliceBounds, Instr.sliceBound, run_underlying ht, hv, hi, hj, asIntOf, hc, run_sizeOf he]
  · rw [hA]
    rw [show a.eval x = .slice A xs.length c from hv] at hfr
    cases A with
    | none => exact trivial
    | some q =>
      rcases hfr with h0 | h0
      · exact .inl (by omega)
      · exact .inr h0
  · rw [hA]
    rw [show a.eval x = .slice A xs.length c from hv] at hrm
    cases A with
    | none => exact trivial
    | some q =>
      intro h0
      obtain ⟨h1, cells, e, h2, h3⟩ := hrm (by omega)
      have : xs.length * d.sz ≤ c * d.sz := Nat.mul_le_mul_right _ hc
      exact ⟨h1, cells, e, h2, by omega⟩
/-! ### 3. Pieces of a row of one's own -/
def cutV (v : Value) (i sz : Nat) : Value := match v with
  | .slice (some a) n c => .slice (some ⟨a.block, i * sz, none⟩) (n - i) (c - i)
  | _ => undef
theorem pu_cut_own {t el t' : TypeId} {k : IntKind} {v : Value} {xs : List α} {i : Int} (hx : OT C.N Γ x (IsV v)) (hm : OwnI t' d v xs ∈ L) (hy : OT C.N Γ y (IntT k i)) (ht : C.P.underlying t = some (.slice el)) (he : tyOk C.P el d.agg d.sz = true) (h0 : 0 ≤ i) (h1 : i < xs.length) :
    Pure C Γ L ⟨dst, .slice t x (some y) none none, ty, pos, after, guard⟩ (IsV (cutV v i.toNat d.sz)) := fun a w H f s ow => by
  have hv : a.eval x = v := hx a H f
  have hi : a.eval y = .int k i := hy a H f
  obtain ⟨inner, ⟨h2, h3⟩, _⟩ := ow.all _ hm
  rcases h3 with ⟨rfl, hl⟩ | ⟨g, cap, cur, rfl, _, hb, hc, hmx, _⟩
  · omega
  · refine ⟨_, ?_, rfl⟩
    have hne : ¬ cap = i.toNat := by omega
    have hle : i ≤ (xs.length : Int) := by omega
    simp [execOp, Instr.sliceAt, Instr.slice, Instr.sliceBounds, Instr.sliceBound, run_underlying ht, hv, hi, asIntOf, h0, run_sizeOf he, hle, cutV, add_plain, hne]
theorem pu_len_cut {t el t' : TypeId} {v : Value} {xs : List α} {j sz : Nat} (hx : OT C.N Γ x (IsV (cutV v j sz))) (hm : OwnI t' d v xs ∈ L) (ht : C.P.underlying t = some (.slice el)) (hj : j < xs.length) : Pure C Γ L ⟨dst, .call ⟨.builtin .len, #[x], #[t]⟩, ty, pos, after, guard⟩ (I64 ((xs.length : Int) - j)) := fun a w H f s ow => by
  have h0 : a.eval x = cutV v j sz := hx a H f
  obtain ⟨inner, ⟨h2, h3⟩, _⟩ := ow.all _ hm
  rcases h3 with ⟨rfl, hl⟩ | ⟨g, cap, cur, rfl, _⟩
  · omega
  · refine ⟨.int .i64 ((xs.length - j : Nat) : Int), by simp [execOp, resolve, invoke, builtin, Builtin.len_, h0, cutV, run_underlying ht, goInt], ?_⟩
    show Value.int _ _ = Value.int _ _
    congr 1; omega
theorem pu_index_cut {t el t' : TypeId} {k : IntKind} {v : Value} {xs : List α} {i : Int} {j : Nat} (hx : OT C.N Γ x (IsV (cutV v j d.sz))) (hm : OwnI t' d v xs ∈ L) (hy : OT C.N Γ y (IntT k i)) (ht : C.P.underlying t = some (.slice el)) (he : tyOk C.P el d.agg d.sz = true) (h0 : 0 ≤ i) (h1 : (j : Int) + i < xs.length) :
    Pure C Γ L ⟨dst, .indexAddr t x y, ty, pos, after, guard⟩ (IsV (ptrAt v (((j : Int) + i).toNat * d.sz))) := fun a w H f s ow => by
  have hv : a.eval x = cutV v j d.sz := hx a H f
  have hi : a.eval y = .int k i := hy a H f
  obtain ⟨inner, ⟨h2, h3⟩, _⟩ := ow.all _ hm
  rcases h3 with ⟨rfl, hl⟩ | ⟨g, cap, cur, rfl, _⟩
  · omega
  · refine ⟨_, ?_, rfl⟩
    have hlt : i < ((xs.length - j : Nat) : Int) := by omega
    have e1 : j * d.sz + i.toNat * d.sz = ((j : Int) + i).toNat * d.sz := by rw [← Nat.add_mul]; congr 1; omega
    simp [execOp, Instr.indexAt, hi, asIntOf, run_underlying ht, hv, cutV, hlt, h0, run_sizeOf he, add_plain, ptrAt, e1]
/-- 's[:i]'. -/
theorem acts_slice_own_hi {t el t' : TypeId} {k1 : IntKind} {v : Value} {xs : List α} {i : Int} (hx : OT C.N Γ x (IsV v)) (hp : List.Perm L (OwnI t' d v xs :: R)) (hy : OT C.N Γ y (IntT k1 i)) (ht : C.P.underlying t = some (.slice el)) (he : tyOk C.P el d.agg d.sz = true) (h0 : 0 ≤ i) (h1 : i ≤ xs.length) :
    Acts C Γ L ⟨dst, .slice t x none (some y) none, ty, pos, after, guard⟩ [OwnI t' d v xs] Value (fun r => IsV r) (fun r => [OwnI t' d r (xs.take i.toNat)]) (fun _ => True) := by
  intro a w H f s ow Q K hK
  have hv : a.eval x = v := hx a H f
  have hi : a.eval y = .int k1 i := hy a H f
  have o' := ow.perm hp
  have key : ∃ r, (execOp a.eval ⟨dst, .slice t x none (some y) none, ty, pos, after, guard⟩).run C.P w = .ok (.value r) w ∧ r.ownBlock = v.ownBlock ∧ (OwnI t' d r (xs.take i.toNat)).p w H := by
    obtain ⟨inner, ⟨h2, h3⟩, h4⟩ := o'.all _ List.mem_cons_self
    rcases h3 with ⟨rfl, hl⟩ | ⟨g, cap, cur, rfl, hg0, hb, hc, hm, hs, hin⟩
    · have hx0 : xs = [] := List.eq_nil_of_length_eq_zero hl
      subst hx0
      have hi0 : i = 0 := by simp at h1; omega
      subst hi0
      exact ⟨nilS, by simp [execOp, Instr.sliceAt, Instr.slice, Instr.sliceBounds, Instr.sliceBound, run_underlying ht, hv, hi, asIntOf, run_sizeOf he], rfl, by simpa using own_nil_p⟩
    · have hcc : i ≤ (cap : Int) := by omega
      have e0 : (if cap = 0 then some (⟨g, 0, none⟩ : Addr) else (some (⟨g, 0, none⟩ : Addr)).map (·.add (0 * d.sz))) = some ⟨g, 0, none⟩ := by split <;> simp [add_plain]
      refine ⟨.slice (some ⟨g, 0, none⟩) i.toNat cap, ?_, rfl, inner.take (i.toNat * d.sz), ⟨?_, .inr ⟨g, cap, cur, ?_, hg0, hb, ?_, hm, hs, ?_⟩⟩, h4.take _ (by omega)⟩
      · have : (execOp a.eval ⟨dst, .slice t x none (some y) none, ty, pos, after, guard⟩).run C.P w = .ok (.value (.slice (if cap = 0 then some ⟨g, 0, none⟩ else (some (⟨g, 0, none⟩ : Addr)).map (·.add (0 * d.sz))) i.toNat cap)) w := by
          simp [execOp, Instr.sliceAt, Instr.slice, Instr.sliceBounds, Instr.sliceBound, run_underlying ht, hv, hi, asIntOf, h0, run_sizeOf he, hcc]
        rw [e0] at this; exact this
      · have : i.toNat * d.sz ≤ xs.length * d.sz := Nat.mul_le_mul_right _ (by omega)
        rw [List.length_take, List.length_take, h4.1, Nat.min_eq_left this, Nat.min_eq_left (by omega)]
      · rw [List.length_take, Nat.min_eq_left (by omega)]
      · rw [List.length_take]; omega
      · have : i.toNat * d.sz ≤ xs.length * d.sz := Nat.mul_le_mul_right _ (by omega)
        rw [List.length_take, Nat.min_eq_left (by omega), ← hin, List.take_take, Nat.min_eq_left this]
  obtain ⟨r, hr, hb, hq⟩ := key
  simp only [Oper.wp, hr, Oper.upon_value]
  exact hK r r w H trivial (St.refl s.on) rfl (owns_same (M := noM) o' hb hq)
end
end Go.Gw
