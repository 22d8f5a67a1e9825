/- Typed walks: room and pieces of a nil slice. Over any program. -/
import Derived.Test.YtloblpklkhepbaaG19
namespace Go.Gw
open Go
set_option linter.unusedVariables false
section
variable {C : Cx} {Γ : Env} {L R : List It} {dst : Option Tmp} {ty : TypeId} {pos : String} {after : Array Edge} {guard : Option (Nat × Bool)} {x y z : Operand}
theorem pu_len_nil {t el : TypeId} (hx : OT C.N Γ x (IsV nilS)) (ht : C.P.underlying t = some (.slice el)) : Pure C Γ L ⟨dst, .call ⟨.builtin .len, #[x], #[t]⟩, ty, pos, after, guard⟩ (I64 0) := fun a w H f s ow => by
  have h0 : a.eval x = nilS := hx a H f
  exact ⟨_, by simp [execOp, resolve, invoke, builtin, Builtin.len_, h0, run_underlying ht, goInt], rfl⟩
theorem pu_cap_nil {t el : TypeId} (hx : OT C.N Γ x (IsV nilS)) (ht : C.P.underlying t = some (.slice el)) : Pure C Γ L ⟨dst, .call ⟨.builtin .cap, #[x], #[t]⟩, ty, pos, after, guard⟩ (I64 0) := fun a w H f s ow => by
  have h0 : a.eval x = nilS := hx a H f
  exact ⟨_, by simp [execOp, resolve, invoke, builtin, Builtin.cap_, h0, run_underlying ht, goInt], rfl⟩
theorem pu_slice_nil {t el : TypeId} {k : IntKind} {agg : Bool} {sz : Nat} (hx : OT C.N Γ x (IsV nilS)) (hy : OT C.N Γ y (IntT k 0)) (ht : C.P.underlying t = some (.slice el)) (he : tyOk C.P el agg sz = true) : Pure C Γ L ⟨dst, .slice t x none (some y) none, ty, pos, after, guard⟩ (IsV nilS) := fun a w H f s ow => by
  have hv : a.eval x = nilS := hx a H f
  have hi : a.eval y = .int k 0 := hy a H f
  exact ⟨nilS, by simp [execOp, Instr.sliceAt, Instr.slice, Instr.sliceBounds, Instr.sliceBound, run_underlying ht, hv, hi, asIntOf, run_sizeOf he], rfl⟩
end
end Go.Gw
