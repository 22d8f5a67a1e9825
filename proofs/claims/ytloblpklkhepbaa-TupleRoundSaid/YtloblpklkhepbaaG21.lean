/- Typed walks: a row that a call makes is frozen at once. Over any program. -/
import Derived.Test.YtloblpklkhepbaaG20
namespace Go.Gw
open Go
set_option linter.unusedVariables false
theorem caps_nil {N : Nat} {Γ : Env} : capsOf N Γ [] [] := trivial
theorem caps_cons {N : Nat} {Γ : Env} {x : Operand} {v : Value} {xs : List Operand} {vs : List Value} (h : OT N Γ x (IsV v)) (hs : capsOf N Γ xs vs) : capsOf N Γ (x :: xs) (v :: vs) := ⟨h, hs⟩
theorem CtM.freeze {K0 : FH} {n0 : Nat} {P : Program} {f : FuncId} {As : List Ty} {α : Type} {d : Kd α} {t : TypeId} {xs : List α} {φ : Value → Prop} (h : CtM K0 n0 P f As [] Value (fun v => IsV v) (fun v => [OwnI t d v xs]) φ) : CtM K0 n0 P f As [] Unit (fun _ => FreshT K0 n0 d xs) (fun _ => []) (fun _ => True) := by
  intro H w args hK hn hon hA hO
  refine (h H w args hK hn hon hA hO).mono ?_
  rintro e w' ⟨r, v, H', rfl, _, s, hv, ho⟩
  have hv' : v = r := hv
  subst hv'
  have hb : ∀ g, v.ownBlock = some g → g < w'.heap.size ∧ H' g = none ∧ (g ∈ blks [] ∨ w.heap.size ≤ g) := fun g hg => ho.own g (blk_mem (i := OwnI t d v xs) List.mem_cons_self hg)
  have hfr : FreshV K0 n0 v := by
    obtain ⟨inner, ⟨_, h2⟩, _⟩ := ho.all _ List.mem_cons_self
    rcases h2 with ⟨rfl, _⟩ | ⟨g, cap, cur, rfl, _⟩
    · exact trivial
    · obtain ⟨_, h4, h5⟩ := hb g rfl
      refine .inr ⟨?_, Nat.le_trans hn (h5.resolve_left blks_nil)⟩
      show K0 g = none
      cases e : K0 g with
      | none => rfl
      | some o => have := s.sub g o (hK g o e); rw [h4] at this; cases this
  obtain ⟨H'', h1, h2, h3, h4⟩ := own_frozen (ho.all _ List.mem_cons_self) (fun g hg => (hb g hg).2.1) s.on
  refine ⟨(), v, H'', rfl, trivial, ⟨s.sub.trans h1, h2, s.os, s.tape, s.output, s.size, s.keep, fun k o e => ?_⟩, ⟨h4, hfr⟩, Owns.nil⟩
  rcases h3 k o e with e | e
  · exact s.new k o e
  · rcases (hb k e).2.2 with h5 | h5
    · exact absurd h5 blks_nil
    · exact .inr (.inl h5)
end Go.Gw
