/- Typed walks: a contract of the kit's, told as one of the ground's. Over any program. -/
import Derived.Test.YtloblpklkhepbaaG13
namespace Go.Gw
open Go
set_option linter.unusedVariables false
/-- A function of one value that leaves the world as it was. -/
theorem ct_one {P : Program} {f : FuncId} {a r : Value} (h : ∀ w, Calls P f #[a] w fun e w' => e = .returned r ∧ w' = w) : Ct P f [IsV a] [] Unit (fun _ => IsV r) (fun _ => []) (fun _ => True) := by
  intro H w args hon hA hO
  match args, hA with
  | [v], hA =>
    have hv : v = a := hA.1
    subst hv
    refine (h w).mono fun e w' hp => ?_
    obtain ⟨rfl, rfl⟩ := hp
    exact ⟨(), r, H, rfl, trivial, St.refl hon, rfl, ⟨fun _ h => by simp at h, by simp [blks], fun g hg => by simp [blks] at hg⟩⟩
end Go.Gw
