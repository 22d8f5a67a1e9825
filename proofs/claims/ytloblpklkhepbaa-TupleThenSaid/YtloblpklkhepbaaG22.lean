/- Typed walks: a row's argument that is a struct of two parts, opened. Over any program. -/
import Derived.Test.YtloblpklkhepbaaG21
import Derived.ChangeSame
namespace Go.Gw
open Go Go.ChangeShapes Go.WideShapes Go.RowKit
set_option linter.unusedVariables false
theorem opn_struct2 {P : Program} {α β : Type} {a : Kd α} {b : Kd β} {g0 : α → Prop} {g1 : β → Prop} {t : TypeId} {f0 f1 : Field} (ht : P.underlying t = some (.struct #[f0, f1])) (h0 : Opn P f0.type a g0) (h1 : Opn P f1.type b g1)
    (o0 : f0.offset = 0) (o1 : f1.offset = a.sz) (s0 : P.cellsOf f0.type = a.sz) (s1 : P.cellsOf f1.type = b.sz) (s : P.cellsOf t = a.sz + b.sz) : Opn P t (kpair a b) (fun x => g0 x.1 ∧ g1 x.2) := fun Hh enc w fuel cs x h => by
  obtain ⟨y0, y1, n, _, hl, e0, e1⟩ := trod_struct2 ht h
  rw [o0, s0, List.drop_zero] at e0
  rw [o1, s1] at e1
  obtain ⟨u, hu, gu⟩ := h0 Hh enc w n _ _ e0
  obtain ⟨v, hv, gv⟩ := h1 Hh enc w n _ _ e1
  refine ⟨(u, v), ⟨_, _, hu, hv, ?_⟩, gu, gv⟩
  rw [List.take_of_length_le (l := cs.drop a.sz) (by rw [List.length_drop]; omega), List.take_append_drop]
end Go.Gw
