/- Typed walks: function values; results in memory. Over any program. -/
import Derived.Test.YtoaeaclcbcpheaaDoorG8
namespace Go.Gw
open Go
set_option linter.unusedVariables false
set_option linter.unusedSimpArgs false

/-- The value fv, called with values of the types As and the items J. -/
def CtV (P : Program) (fv : Value) (As : List Ty) (J : List It) (ρ : Type) (T : ρ → Ty) (I : ρ → List It) (φ : ρ → Prop) : Prop :=
  ∃ (f : FuncId) (cap : List Value), fv = .func (.func f) #[] cap.toArray ∧ enters P f = true ∧ ∀ (H : FH) (w : World) (args : List Value), On H w → AllP H As args → Owns (fun _ => True) w H J → Calls P f (args ++ cap).toArray w (post J H w ρ T I φ)
theorem allP_append {H : FH} : ∀ {As : List Ty} {vs : List Value} {caps : List Value}, AllP H As vs → AllP H (As ++ caps.map IsV) (vs ++ caps)
  | [], [], caps, _ => by
    show AllP H (caps.map IsV) caps
    induction caps with
    | nil => trivial
    | cons c cs ih => exact ⟨rfl, ih⟩
  | _ :: _, _ :: _, caps, h => ⟨h.1, allP_append h.2⟩
theorem CtV.of {P : Program} {f : FuncId} {As : List Ty} {J : List It} {ρ : Type} {T : ρ → Ty} {I : ρ → List It} {φ : ρ → Prop} (caps : List Value) (h : Ct P f (As ++ caps.map IsV) J ρ T I φ) (hin : enters P f = true) : CtV P (.func (.func f) #[] caps.toArray) As J ρ T I φ :=
  ⟨f, caps, rfl, hin, fun H w args hon hA hO => h H w (args ++ caps) hon (allP_append hA) hO⟩
theorem CtV.of0 {P : Program} {f : FuncId} {As : List Ty} {J : List It} {ρ : Type} {T : ρ → Ty} {I : ρ → List It} {φ : ρ → Prop} (h : Ct P f As J ρ T I φ) (hin : enters P f = true) : CtV P (.func (.func f) #[] #[]) As J ρ T I φ :=
  CtV.of [] (by simpa using h) hin
section
variable {C : Cx} {Γ : Env} {L R J : List It} {Q : Exit → Act → World → Prop} {ops : Array Oper} {rest : List Oper}
variable {dst : Option Tmp} {ty : TypeId} {pos : String} {after : Array Edge} {guard : Option (Nat × Bool)} {x y z : Operand}
variable {α β : Type} {d : Kd α} {e : Kd β}
theorem acts_callv {fv : Value} {t : Tmp} {As : List Ty} {ρ : Type} {T : ρ → Ty} {I : ρ → List It} {φ : ρ → Prop} {xs : List Operand} {ats : Array TypeId}
    (hf : OT C.N Γ (.tmp t) (IsV fv)) (hF : CtV C.P fv As J ρ T I φ) (hxs : OTs C.N Γ xs As) (hL : List.Perm L (J ++ R)) :
    Acts C Γ L { dst, op := .call { callee := .value (.tmp t), args := xs.toArray, argTypes := ats }, type := ty, pos, after, guard } J ρ T I φ := by
  intro a w H fi s ow Q K hK
  obtain ⟨f, cap, rfl, hin, hc⟩ := hF
  have hv : a.eval (.tmp t) = .func (.func f) #[] cap.toArray := hf a H fi
  have hrun : (execOp a.eval { dst, op := .call { callee := .value (.tmp t), args := xs.toArray, argTypes := ats }, type := ty, pos, after, guard }).run C.P w = .ok (.enter f ((xs.map a.eval) ++ cap).toArray) w := by
    simp only [execOp, resolve, hv, Deferred.ofValue, Sem.run_bind, Sem.run_pure, Result.andThen_ok, invoke]
    rw [show ((#[] : Array Value) ++ Array.map a.eval xs.toArray ++ cap.toArray) = ((xs.map a.eval) ++ cap).toArray from by simp]
    exact run_enters hin _ _
  simp only [Oper.wp, hrun, Oper.upon_enter]
  refine Calls.mono (hc H w _ s.on (OTs.all fi hxs) ((ow.perm hL).left.mono fun _ _ _ => trivial)) ?_
  rintro e w' ⟨r, v, H', rfl, hφ, s', hv, ho⟩
  exact hK r v w' H' hφ s' hv ho
def capsOf (N : Nat) (Γ : Env) : List Operand → List Value → Prop
  | [], [] => True
  | x :: xs, v :: vs => OT N Γ x (IsV v) ∧ capsOf N Γ xs vs
  | _, _ => False
theorem capsOf_map {N : Nat} {a : Act} {H : FH} (f : Fits N Γ H a) : ∀ {xs : List Operand} {vs : List Value}, capsOf N Γ xs vs → xs.map a.eval = vs
  | [], [], _ => rfl
  | _ :: _, _ :: _, h => by rw [List.map_cons, capsOf_map f h.2, show a.eval _ = _ from h.1 a H f]
theorem pu_makeFunc {f : FuncId} {xs : List Operand} {vs : List Value} (h : capsOf C.N Γ xs vs) : Pure C Γ L ⟨dst, .makeFunc (.func f) #[] xs.toArray, ty, pos, after, guard⟩ (IsV (.func (.func f) #[] vs.toArray)) := fun a w H fi s ow => by
  refine ⟨_, ?_, rfl⟩
  have := capsOf_map fi h
  simp [execOp, Instr.makeFunc, this]

/-- A result that lies in a variable. -/
theorem ret_cell {fn : Func} {ρ : Type} {T : ρ → Ty} {I : ρ → List It} {φ : ρ → Prop} {P : Program} {N : Nat} {H0 : FH} {w0 : World} (e : Exit) (he : e = .ret ∨ e = .normal) {t : Nat} {tt t' : TypeId} {b : Nat} {v : α} (hres : fn.results = #[.cell t tt]) (r : ρ) (hx : OT N Γ (.tmp t) (IsV (pt b 0))) (hm : BlkI b t' d v ∈ L) (ht : tyOk P tt d.agg d.sz = true) (hT : d.T v = T r) (hφ : φ r) (hI : ∃ R, List.Perm L (I r ++ R)) :
    Tr ⟨P, N, fun g => g ∈ blks J, H0, w0⟩ Γ L (bodyPost P fn (post J H0 w0 ρ T I φ) e) :=
  ret_post e he r hφ hI fun a w H f s ow => by
    have hv : a.eval (.tmp t) = pt b 0 := hx a H f
    obtain ⟨cs, hK, hb⟩ := ow.all _ hm
    have hl := d.len hK
    have hload := run_loadVar (P := P) (w := w) (t := tt) (agg := d.agg) (cs := cs) (g := b) (off := 0) (by rw [hl]; exact ht) (fun h => by rw [hl]; exact d.szone h) hb (fun i u h => by simpa using h)
    refine ⟨mkV d.agg cs, ?_, hT ▸ d.toT hK⟩
    simp only [Act.eval] at hv
    simp only [Array.getD_eq_getD_getElem?] at hv
    simp [results, hres, hv, asAddr, hload, pt]

/-! ### arrays that are variables; pairs -/
theorem pu_index_var {t el t' : TypeId} {k : IntKind} {b n : Nat} {xs : List α} {i : Int} (hx : OT C.N Γ x (IsV (pt b 0))) (hm : BlkI b t' (karr n d) xs ∈ L) (hy : OT C.N Γ y (IntT k i)) (ht : C.P.underlying t = some (.array n el)) (he : tyOk C.P el d.agg d.sz = true) (h0 : 0 ≤ i) (h1 : i < n) :
    Pure C Γ L ⟨dst, .indexAddr t x y, ty, pos, after, guard⟩ (IsV (pt b (i.toNat * d.sz))) := by
  have := pu_index_blk (C := C) (L := L) (dst := dst) (ty := ty) (pos := pos) (after := after) (guard := guard) hx hy ht he h0 h1
  rwa [Nat.zero_add] at this
theorem pu_load_arr [Inhabited α] {t t' : TypeId} {b n : Nat} {xs : List α} {i : Int} (hx : OT C.N Γ x (IsV (pt b (i.toNat * d.sz)))) (hm : BlkI b t' (karr n d) xs ∈ L) (ht : tyOk C.P t d.agg d.sz = true) (h0 : 0 ≤ i) (h1 : i < n) :
    Pure C Γ L ⟨dst, .load t x, ty, pos, after, guard⟩ (d.T (at' xs i)) := fun a w H f s ow => by
  obtain ⟨cs, hK, hb⟩ := ow.all _ hm
  have hlen := hK.1
  exact pu_load_blk hx hm (Lens.at_ i.toNat (at'_some (by omega) h0) (by omega)) ht a w H f s ow
theorem acts_store_arr {t t' : TypeId} {b n : Nat} {xs : List α} {i : Int} {u : α} (hx : OT C.N Γ x (IsV (pt b (i.toNat * d.sz)))) (hy : OT C.N Γ y (d.T u)) (hp : List.Perm L (BlkI b t' (karr n d) xs :: R)) (ht : tyOk C.P t d.agg d.sz = true) (h0 : 0 ≤ i) (h1 : i < n) :
    Acts C Γ L ⟨dst, .store t x y, ty, pos, after, guard⟩ [BlkI b t' (karr n d) xs] Unit (fun _ => AnyT) (fun _ => [BlkI b t' (karr n d) (xs.set i.toNat u)]) (fun _ => True) := by
  intro a w H f s ow
  obtain ⟨cs, hK, hb⟩ := (ow.perm hp).all _ List.mem_cons_self
  have hlen := hK.1
  exact acts_store_blk hx hy hp (Lens.at_ i.toNat (List.getElem?_eq_getElem (by omega)) (by omega)) ht a w H f s ow
/-- Two of a kind, as an array. -/
abbrev kP2 (d : Kd α) : Kd (α × α) := kiso (karr 2 d) fun e => [e.1, e.2]
theorem Lens.p0 {v : α × α} : Lens (kP2 d) d 0 v v.1 (fun y => (y, v.2)) :=
  Lens.iso (s := fun y => [y, v.2]) (by have := Lens.at_ (d := d) (n := 2) (xs := [v.1, v.2]) 0 (x := v.1) rfl (by omega); simpa using this) fun _ => rfl
theorem Lens.p1 {v : α × α} : Lens (kP2 d) d d.sz v v.2 (fun y => (v.1, y)) :=
  Lens.iso (s := fun y => [v.1, y]) (by have := Lens.at_ (d := d) (n := 2) (xs := [v.1, v.2]) 1 (x := v.2) rfl (by omega); simpa using this) fun _ => rfl
theorem pu_pair0 {t el : TypeId} {v : α × α} (hx : OT C.N Γ x (AtT (kP2 d) v)) (ht : C.P.underlying t = some (.array 2 el)) (he : tyOk C.P el d.agg d.sz = true) : Pure C Γ L ⟨dst, .indexAddr t x (.const (.int .i64 0)), ty, pos, after, guard⟩ (AtT d v.1) := fun a w H f s ow => by
  obtain ⟨b, o, cells, t', fr, cs, hv, hb, hk, hS⟩ := hx a H f
  have hg := Lens.p0.get hk
  have hS' := hS.drop 0 d.sz
  refine ⟨.pointer (some ⟨b, o + 0, none⟩), ?_, b, o + 0, cells, t', fr, _, rfl, hb, hg, hS'⟩
  have he0 : a.eval (.const (.int .i64 0)) = .int .i64 0 := rfl
  simp [execOp, Instr.indexAt, he0, asIntOf, run_underlying ht, hv, run_sizeOf he, add_plain, Instr.sureAddr]
theorem pu_pair1 {t el : TypeId} {v : α × α} (hx : OT C.N Γ x (AtT (kP2 d) v)) (ht : C.P.underlying t = some (.array 2 el)) (he : tyOk C.P el d.agg d.sz = true) : Pure C Γ L ⟨dst, .indexAddr t x (.const (.int .i64 1)), ty, pos, after, guard⟩ (AtT d v.2) := fun a w H f s ow => by
  obtain ⟨b, o, cells, t', fr, cs, hv, hb, hk, hS⟩ := hx a H f
  have hg := Lens.p1.get hk
  have hS' := hS.drop d.sz d.sz
  refine ⟨.pointer (some ⟨b, o + d.sz, none⟩), ?_, b, o + d.sz, cells, t', fr, _, rfl, hb, hg, hS'⟩
  have he0 : a.eval (.const (.int .i64 1)) = .int .i64 1 := rfl
  simp [execOp, Instr.indexAt, he0, asIntOf, run_underlying ht, hv, run_sizeOf he, add_plain, Instr.sureAddr]
theorem pu_pair_var0 {t el t' : TypeId} {b : Nat} {v : α × α} (hx : OT C.N Γ x (IsV (pt b 0))) (hm : BlkI b t' (kP2 d) v ∈ L) (ht : C.P.underlying t = some (.array 2 el)) (he : tyOk C.P el d.agg d.sz = true) : Pure C Γ L ⟨dst, .indexAddr t x (.const (.int .i64 0)), ty, pos, after, guard⟩ (IsV (pt b 0)) := by
  have := pu_index_blk (C := C) (L := L) (dst := dst) (ty := ty) (pos := pos) (after := after) (guard := guard) hx (OT.const (v := .int .i64 0)) ht he (by omega : (0 : Int) ≤ 0) (by omega)
  simpa using this
theorem pu_pair_var1 {t el t' : TypeId} {b : Nat} {v : α × α} (hx : OT C.N Γ x (IsV (pt b 0))) (hm : BlkI b t' (kP2 d) v ∈ L) (ht : C.P.underlying t = some (.array 2 el)) (he : tyOk C.P el d.agg d.sz = true) : Pure C Γ L ⟨dst, .indexAddr t x (.const (.int .i64 1)), ty, pos, after, guard⟩ (IsV (pt b d.sz)) := by
  have := pu_index_blk (C := C) (L := L) (dst := dst) (ty := ty) (pos := pos) (after := after) (guard := guard) hx (OT.const (v := .int .i64 1)) ht he (by omega : (0 : Int) ≤ 1) (by omega)
  simpa using this
theorem pu_load_p0 {t t' : TypeId} {b : Nat} {v : α × α} (hx : OT C.N Γ x (IsV (pt b 0))) (hm : BlkI b t' (kP2 d) v ∈ L) (ht : tyOk C.P t d.agg d.sz = true) : Pure C Γ L ⟨dst, .load t x, ty, pos, after, guard⟩ (d.T v.1) := pu_load_blk hx hm Lens.p0 ht
theorem pu_load_p1 {t t' : TypeId} {b : Nat} {v : α × α} (hx : OT C.N Γ x (IsV (pt b d.sz))) (hm : BlkI b t' (kP2 d) v ∈ L) (ht : tyOk C.P t d.agg d.sz = true) : Pure C Γ L ⟨dst, .load t x, ty, pos, after, guard⟩ (d.T v.2) := pu_load_blk hx hm Lens.p1 ht
end
end Go.Gw
