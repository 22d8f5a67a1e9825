/- Typed walks: pointers that are seen not to be nil; conversions of whole numbers. Over any program. -/
import Derived.Test.YtloblpklkhepbaaG12
namespace Go.Gw
open Go
set_option linter.unusedVariables false
set_option linter.unusedSimpArgs false
section
variable {C : Cx} {Γ : Env} {L : List It} {dst : Option Tmp} {ty : TypeId} {pos : String} {after : Array Edge} {guard : Option (Nat × Bool)} {x : Operand}
theorem pu_nilCheck {b off : Nat} (hx : OT C.N Γ x (IsV (pt b off))) : Pure C Γ L ⟨dst, .nilCheck x, ty, pos, after, guard⟩ (IsV (pt b off)) := fun a w H f s ow => by
  have hv : a.eval x = pt b off := hx a H f
  exact ⟨_, by simp [execOp, hv], rfl⟩
end
end Go.Gw
