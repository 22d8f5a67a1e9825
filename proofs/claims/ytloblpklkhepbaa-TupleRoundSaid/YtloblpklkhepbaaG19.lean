/- Typed walks: two results, the first of which lies in a variable. Over any program. -/
import Derived.Test.YtloblpklkhepbaaG18
namespace Go.Gw
open Go
set_option linter.unusedVariables false
set_option linter.unusedSimpArgs false
section
variable {Γ : Env} {L J : List It} {α : Type} {d : Kd α}
theorem ret_cell_tmp {fn : Func} {ρ : Type} {T : ρ → Ty} {I : ρ → List It} {φ : ρ → Prop} {P : Program} {N : Nat} {H0 : FH} {w0 : World} (e : Exit) (he : e = .ret ∨ e = .normal) {t u : Nat} {tt t' : TypeId} {b : Nat} {v : α} {B : Ty} (hres : fn.results = #[.cell t tt, .tmp u]) (r : ρ) (hx : OT N Γ (.tmp t) (IsV (pt b 0))) (hm : BlkI b t' d v ∈ L) (ht : tyOk P tt d.agg d.sz = true) (hB : OT N Γ (.tmp u) B) (hT : ∀ H v', (TupT [d.T v, B]).p H v' → (T r).p H v') (hφ : φ r) (hI : ∃ R, List.Perm L (I r ++ R)) :
    Tr ⟨P, N, fun g => g ∈ blks J, H0, w0⟩ Γ L (bodyPost P fn (post J H0 w0 ρ T I φ) e) :=
  ret_post e he r hφ hI fun a w H f s ow => by
    have hv : a.eval (.tmp t) = pt b 0 := hx a H f
    obtain ⟨cs, hK, hb⟩ := ow.all _ hm
    have hl := d.len hK
    have hload := run_loadVar (P := P) (w := w) (t := tt) (agg := d.agg) (cs := cs) (g := b) (off := 0) (by rw [hl]; exact ht) (fun h => by rw [hl]; exact d.szone h) hb (fun i u h => by simpa using h)
    refine ⟨.tuple [mkV d.agg cs, a.eval (.tmp u)].toArray, ?_, hT _ _ ⟨_, rfl, d.toT hK, hB a H f, trivial⟩⟩
    simp only [Act.eval] at hv
    simp only [Array.getD_eq_getD_getElem?] at hv
    simp [results, hres, hv, asAddr, hload, pt, Act.eval]
end
end Go.Gw
namespace Go.Gw
open Go
theorem Ct.pre {P : Program} {f : FuncId} {As : List Ty} {J : List It} {ρ : Type} {T : ρ → Ty} {I : ρ → List It} {φ : ρ → Prop} {p : Prop} (hA : ∀ H vs, AllP H As vs → p) (h : p → Ct P f As J ρ T I φ) : Ct P f As J ρ T I φ := fun H w args hon hAl hO => h (hA H args hAl) H w args hon hAl hO
theorem Ct.args {P : Program} {f : FuncId} {As Bs : List Ty} {J : List It} {ρ : Type} {T : ρ → Ty} {I : ρ → List It} {φ : ρ → Prop} (hA : ∀ H vs, AllP H Bs vs → AllP H As vs) (h : Ct P f As J ρ T I φ) : Ct P f Bs J ρ T I φ := fun H w args hon hAl hO => h H w args hon (hA H args hAl) hO
theorem two_len {α β : Type} {d : Kd α} {e : Kd β} {xs : List α} {ys : List β} : ∀ (H : FH) (vs : List Value), AllP H [SlT d xs, SlT e ys] vs → xs.length ≤ maxLen ∧ ys.length ≤ maxLen
  | _, [], h => h.elim
  | _, [_], h => h.2.elim
  | _, [_, _], ⟨⟨_, _, _, _, h1, _⟩, ⟨_, _, _, _, h2, _⟩, _⟩ => ⟨h1, h2⟩
  | _, _ :: _ :: _ :: _, h => h.2.2.elim
theorem one_len {α : Type} {d : Kd α} {xs : List α} : ∀ (H : FH) (vs : List Value), AllP H [SlT d xs] vs → xs.length ≤ maxLen
  | _, [], h => h.elim
  | _, [_], ⟨⟨_, _, _, _, h1, _⟩, _⟩ => h1
  | _, _ :: _ :: _, h => h.2.elim
theorem two_fresh {α β : Type} {d : Kd α} {e : Kd β} {K0 : FH} {n0 : Nat} {xs : List α} {ys : List β} : ∀ (H : FH) (vs : List Value), AllP H [FreshT K0 n0 d xs, FreshT K0 n0 e ys] vs → AllP H [SlT d xs, SlT e ys] vs
  | _, [], h => h
  | _, [_], h => h.2.elim
  | _, [_, _], ⟨h1, h2, _⟩ => ⟨h1.1, h2.1, trivial⟩
  | _, _ :: _ :: _ :: _, h => h.2.2.elim
end Go.Gw
