/- The texts Vw8 of this claim, put together in their order. No condition of their own. -/
import Derived.Test.YtklhdalppmjnaaaGreatDoorQ12
import Derived.Test.YtklhdalppmjnaaaGreatDoorQ8
import Derived.Test.YtklhdalppmjnaaaGreatDoorQ4
set_option linter.unusedVariables false
set_option linter.unusedSimpArgs false
set_option linter.unusedSectionVars false
set_option maxHeartbeats 1000000
set_option maxRecDepth 20000
namespace Go.Proofs.YtklhdalppmjnaaaGreatDoor
open Go Go.Gw Go.So Go.Tu Go.Jn
open Go.Dr hiding Pr
theorem Q19 {v : Vw} {es : List Ed} {r : Qjd} (h : Qfb v es r) (hc : (decide (r.2 ≠ 0) || (stA r).isNone) = true) : r.1 = none ∧ ¬ r.2 = 0 := by
 obtain ⟨_, h | ⟨o, s, al, h2, h3, _⟩⟩ := h
 · exact h
 unfold stA at hc; rw [h2, h3] at hc; simp at hc
theorem Qub {v : Vw} {es : List Ed} {r : Qjd} (h : Qfb v es r) (hc : (decide (r.2 ≠ 0) || (stA r).isNone) = true) : (decide (r.2 ≠ 0) && (stA r).isNone) = true := by
 obtain ⟨h1, h2⟩ := Q19 h hc
 unfold stA; rw [h1]; simp [h2]
theorem Qf1 {v : Vw} {es : List Ed} {r : Qjd} (h : Qfb v es r) (hc : (decide (r.2 ≠ 0) || (stA r).isNone) = false) : ∃ o s al, r = (some (o, s, al), 0) ∧ VOk o v s al (Yv es) := by
 obtain ⟨_, ⟨h1, h2⟩ | ⟨o, s, al, h2, h3, h4⟩⟩ := h
 · unfold stA at hc; rw [h1] at hc; simp at hc
 exact ⟨o, s, al, Prod.ext h2 h3, h4⟩
section
variable {o : SO} {v : Vw} {s s' : KS} {al al' : List (Ed × Bool)} {A gone come : List Ed}
theorem Qrj (h : VOk o v s al A) (hl : Yn al gone come = 0) : (Jb A gone come).length + gone.length = A.length + come.length := by
 have h1 := Qnt h hl
 have h2 : (Jb A gone come).length = (goE A gone false).length + come.length := List.length_append
 omega
end

end Go.Proofs.YtklhdalppmjnaaaGreatDoor
