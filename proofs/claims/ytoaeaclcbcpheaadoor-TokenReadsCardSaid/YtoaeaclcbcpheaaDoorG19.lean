/- Typed walks: two results, the first of which lies in a variable. Over any program. -/
import Derived.Test.YtoaeaclcbcpheaaDoorG18
import Derived.ChangeSame
namespace Go.Gw
open Go
set_option linter.unusedVariables false
set_option linter.unusedSimpArgs false
section
variable {Γ : Env} {L J : List It} {α : Type} {d : Kd α}
theorem ret_cell_tmp {fn : Func} {ρ : Type} {T : ρ → Ty} {I : ρ → List It} {φ : ρ → Prop} {P : Program} {N : Nat} {H0 : FH} {w0 : World} (e : Exit) (he : e = .ret ∨ e = .normal) {t u : Nat} {tt t' : TypeId} {b : Nat} {v : α} {B : Ty} (hres : fn.results = #[.cell t tt, .tmp u]) (r : ρ) (hx : OT N Γ (.tmp t) (IsV (pt b 0))) (hm : BlkI b t' d v ∈ L) (ht : tyOk P tt d.agg d.sz = true) (hB : OT N Γ (.tmp u) B) (hT : ∀ H v', (TupT [d.T v, B]).p H v' → (T r).p H v') (hφ : φ r) (hI : ∃ R, List.Perm L (I r ++ R)) :
    Tr ⟨P, N, fun g => g ∈ blks J, H0, w0⟩ Γ L (bodyPost P fn (post J H0 w0 ρ T I φ) e) :=
  ret_post e he r hφ hI fun a w H f s ow => by
    have hv : a.eval (.tmp t) = pt b 0 := hx a H f
    obtain ⟨cs, hK, hb⟩ := ow.all _ hm
    have hl := d.len hK
    have hload := run_loadVar (P := P) (w := w) (t := tt) (agg := d.agg) (cs := cs) (g := b) (off := 0) (by rw [hl]; exact ht) (fun h => by rw [hl]; exact d.szone h) hb (fun i u h => by simpa using h)
    refine ⟨.tuple [mkV d.agg cs, a.eval (.tmp u)].toArray, ?_, hT _ _ ⟨_, rfl, d.toT hK, hB a H f, trivial⟩⟩
    simp only [Act.eval] at hv
    simp only [Array.getD_eq_getD_getElem?] at hv
    simp [results, hres, hv, asAddr, hload, pt, Act.eval]
end
end Go.Gw
namespace Go.Gw
open Go
theorem Ct.pre {P : Program} {f : FuncId} {As : List Ty} {J : List It} {ρ : Type} {T : ρ → Ty} {I : ρ → List It} {φ : ρ → Prop} {p : Prop} (hA : ∀ H vs, AllP H As vs → p) (h : p → Ct P f As J ρ T I φ) : Ct P f As J ρ T I φ := fun H w args hon hAl hO => h (hA H args hAl) H w args hon hAl hO
theorem Ct.args {P : Program} {f : FuncId} {As Bs : List Ty} {J : List It} {ρ : Type} {T : ρ → Ty} {I : ρ → List It} {φ : ρ → Prop} (hA : ∀ H vs, AllP H Bs vs → AllP H As vs) (h : Ct P f As J ρ T I φ) : Ct P f Bs J ρ T I φ := fun H w args hon hAl hO => h H w args hon (hA H args hAl) hO
theorem two_len {α β : Type} {d : Kd α} {e : Kd β} {xs : List α} {ys : List β} : ∀ (H : FH) (vs : List Value), AllP H [SlT d xs, SlT e ys] vs → xs.length ≤ maxLen ∧ ys.length ≤ maxLen
  | _, [], h => h.elim
  | _, [_], h => h.2.elim
  | _, [_, _], ⟨⟨_, _, _, _, h1, _⟩, ⟨_, _, _, _, h2, _⟩, _⟩ => ⟨h1, h2⟩
  | _, _ :: _ :: _ :: _, h => h.2.2.elim
theorem one_len {α : Type} {d : Kd α} {xs : List α} : ∀ (H : FH) (vs : List Value), AllP H [SlT d xs] vs → xs.length ≤ maxLen
  | _, [], h => h.elim
  | _, [_], ⟨⟨_, _, _, _, h1, _⟩, _⟩ => h1
  | _, _ :: _ :: _, h => h.2.elim
theorem two_fresh {α β : Type} {d : Kd α} {e : Kd β} {K0 : FH} {n0 : Nat} {xs : List α} {ys : List β} : ∀ (H : FH) (vs : List Value), AllP H [ClipT K0 n0 d xs, ClipT K0 n0 e ys] vs → AllP H [SlT d xs, SlT e ys] vs
  | _, [], h => h
  | _, [_], h => h.2.elim
  | _, [_, _], ⟨h1, h2, _⟩ => ⟨h1.1.1, h2.1.1, trivial⟩
  | _, _ :: _ :: _ :: _, h => h.2.2.elim
end Go.Gw
namespace Go.Gw
open Go
set_option linter.unusedVariables false
section
variable {C : Cx} {Γ : Env} {L R : List It} {dst : Option Tmp} {ty : TypeId} {pos : String} {after : Array Edge} {guard : Option (Nat × Bool)} {x y z : Operand}
theorem pu_len_nil {t el : TypeId} (hx : OT C.N Γ x (IsV nilS)) (ht : C.P.underlying t = some (.slice el)) : Pure C Γ L ⟨dst, .call ⟨.builtin .len, #[x], #[t]⟩, ty, pos, after, guard⟩ (I64 0) := fun a w H f s ow => by
  have h0 : a.eval x = nilS := hx a H f
  exact ⟨_, by simp [execOp, resolve, invoke, builtin, Builtin.len_, h0, run_underlying ht, goInt], rfl⟩
theorem pu_cap_nil {t el : TypeId} (hx : OT C.N Γ x (IsV nilS)) (ht : C.P.underlying t = some (.slice el)) : Pure C Γ L ⟨dst, .call ⟨.builtin .cap, #[x], #[t]⟩, ty, pos, after, guard⟩ (I64 0) := fun a w H f s ow => by
  have h0 : a.eval x = nilS := hx a H f
  exact ⟨_, by simp [execOp, resolve, invoke, builtin, Builtin.cap_, h0, run_underlying ht, goInt], rfl⟩
theorem pu_slice_nil {t el : TypeId} {k : IntKind} {agg : Bool} {sz : Nat} (hx : OT C.N Γ x (IsV nilS)) (hy : OT C.N Γ y (IntT k 0)) (ht : C.P.underlying t = some (.slice el)) (he : tyOk C.P el agg sz = true) : Pure C Γ L ⟨dst, .slice t x none (some y) none, ty, pos, after, guard⟩ (IsV nilS) := fun a w H f s ow => by
  have hv : a.eval x = nilS := hx a H f
  have hi : a.eval y = .int k 0 := hy a H f
  exact ⟨nilS, by simp [execOp, Instr.sliceAt, Instr.slice, Instr.sliceBounds, Instr.sliceBound, run_underlying ht, hv, hi, asIntOf, run_sizeOf he], rfl⟩
end
end Go.Gw
namespace Go.Gw
open Go
set_option linter.unusedVariables false
theorem caps_nil {N : Nat} {Γ : Env} : capsOf N Γ [] [] := trivial
theorem caps_cons {N : Nat} {Γ : Env} {x : Operand} {v : Value} {xs : List Operand} {vs : List Value} (h : OT N Γ x (IsV v)) (hs : capsOf N Γ xs vs) : capsOf N Γ (x :: xs) (v :: vs) := ⟨h, hs⟩
theorem CtM.freeze {K0 : FH} {n0 : Nat} {P : Program} {f : FuncId} {As : List Ty} {α : Type} {d : Kd α} {t : TypeId} {xs : List α} {φ : Value → Prop} (h : CtM K0 n0 P f As [] Value (fun v => IsV v) (fun v => [OwnI t d v xs]) φ) : CtM K0 n0 P f As [] Unit (fun _ => FreshT K0 n0 d xs) (fun _ => []) (fun _ => True) := by
  intro H w args hK hn hon hA hO
  refine (h H w args hK hn hon hA hO).mono ?_
  rintro e w' ⟨r, v, H', rfl, _, s, hv, ho⟩
  have hv' : v = r := hv
  subst hv'
  have hb : ∀ g, v.ownBlock = some g → g < w'.heap.size ∧ H' g = none ∧ (g ∈ blks [] ∨ w.heap.size ≤ g) := fun g hg => ho.own g (blk_mem (i := OwnI t d v xs) List.mem_cons_self hg)
  have hfr : FreshV K0 n0 v := by
    obtain ⟨inner, ⟨_, h2⟩, _⟩ := ho.all _ List.mem_cons_self
    rcases h2 with ⟨rfl, _⟩ | ⟨g, cap, cur, rfl, _⟩
    · exact trivial
    · obtain ⟨_, h4, h5⟩ := hb g rfl
      refine .inr ⟨?_, Nat.le_trans hn (h5.resolve_left blks_nil)⟩
      show K0 g = none
      cases e : K0 g with
      | none => rfl
      | some o => have := s.sub g o (hK g o e); rw [h4] at this; cases this
  obtain ⟨H'', h1, h2, h3, h4, h6⟩ := own_frozenF (ho.all _ List.mem_cons_self) (fun g hg => (hb g hg).2.1) s.on
  refine ⟨(), v, H'', rfl, trivial, ⟨s.sub.trans h1, h2, s.os, s.tape, s.output, s.size, s.keep, fun k o e => ?_⟩, ⟨h4, hfr, h6⟩, Owns.nil⟩
  rcases h3 k o e with e | e
  · exact s.new k o e
  · rcases (hb k e).2.2 with h5 | h5
    · exact absurd h5 blks_nil
    · exact .inr (.inl h5)
end Go.Gw
namespace Go.Gw
open Go Go.ChangeShapes Go.WideShapes Go.RowKit
set_option linter.unusedVariables false
theorem opn_struct2 {P : Program} {α β : Type} {a : Kd α} {b : Kd β} {g0 : α → Prop} {g1 : β → Prop} {t : TypeId} {f0 f1 : Field} (ht : P.underlying t = some (.struct #[f0, f1])) (h0 : Opn P f0.type a g0) (h1 : Opn P f1.type b g1)
    (o0 : f0.offset = 0) (o1 : f1.offset = a.sz) (s0 : P.cellsOf f0.type = a.sz) (s1 : P.cellsOf f1.type = b.sz) (s : P.cellsOf t = a.sz + b.sz) : Opn P t (kpair a b) (fun x => g0 x.1 ∧ g1 x.2) := fun Hh enc w fuel cs x h => by
  obtain ⟨y0, y1, n, _, hl, e0, e1⟩ := trod_struct2 ht h
  rw [o0, s0, List.drop_zero] at e0
  rw [o1, s1] at e1
  obtain ⟨u, hu, gu⟩ := h0 Hh enc w n _ _ e0
  obtain ⟨v, hv, gv⟩ := h1 Hh enc w n _ _ e1
  refine ⟨(u, v), ⟨_, _, hu, hv, ?_⟩, gu, gv⟩
  rw [List.take_of_length_le (l := cs.drop a.sz) (by rw [List.length_drop]; omega), List.take_append_drop]
end Go.Gw
