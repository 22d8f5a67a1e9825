/- The texts JnK of this claim, put together in their order. No condition of their own. -/
import Derived.Test.YtklhdalppmjnaaaGreatDoorQ5
import Derived.Test.YtklhdalppmjnaaaGreatDoorQ4
import Derived.WalkKit
import Derived.ProofKit
import Derived.Laws.RangeAny
set_option linter.unusedVariables false
set_option linter.unusedSimpArgs false
set_option linter.unusedSectionVars false
set_option maxHeartbeats 1000000
set_option maxRecDepth 20000
namespace Go.Proofs
open Go.Shelf Go.RowKit Go.Lib
abbrev U5 (r : Nat) : Bool := decide (r < 97) || decide (122 < r)
theorem Tryz.notLow_at (w : World) : PredAt Tryz.prog 84 #[] encR U5 w := fun W r _ => by
  unfold FnGives
  by_cases h1 : r < 97 <;> by_cases h2 : 122 < r
  all_goals
    have z1 : (r : Int) < 97 ↔ r < 97 := by omega
    have z2 : (122 : Int) < (r : Int) ↔ 122 < r := by omega
    go_enter Tryz.func84, Tryz.ntmps84
    go_wp2
    all_goals first | (exfalso; omega) | (go_ret; exact ⟨by simp [h1, h2], 0, rfl⟩)
theorem Tryz.contains_in (s : ByteArray) (w : World) : Calls Tryz.prog 83 #[.string s, .func (.func 84) #[] #[]] w fun e w' => e = .returned (.bool (decide (0 ≤ Lib.idxFunc U5 true s))) ∧ Below w.heap.size w w' :=
  Any.strings_ContainsFunc Tryz.lCfunc 84 #[] (enters_of Tryz.func84 (by kernel_rfl) rfl) U5 s w (Tryz.notLow_at w)
end Go.Proofs
namespace Go.Proofs.YtklhdalppmjnaaaGreatDoor
open Go Go.Gw Go.Jn Go.RowKit
section
variable {K0 : FH} {n0 : Nat}
theorem Qqe {H : FH} {A B : Ty} {args : List Value} (h : Kc H [A, B] args) : ∃ u v, args = [u, v] ∧ A.p H u ∧ B.p H v := by
  match args, h with
  | [u, v], h => exact ⟨u, v, rfl, h.1, h.2.1⟩
/-! ### ContainsFunc at 'no small letter' -/
theorem Qzf {b : UInt8} : U5 b.toNat = !Qbj b := by
  unfold U5 Qbj
  by_cases h1 : b.toNat < 97 <;> by_cases h2 : 122 < b.toNat <;> simp [h1, h2] <;> omega
theorem Qkr (l : List UInt8) : ∀ (f pos : Nat), l.length ≤ pos + f → decide (0 ≤ Lib.idxFuncFrom U5 true (bs l) f pos) = !(l.drop pos).all Qbj
  | 0, pos, h => by
    rw [List.drop_of_length_le (by omega)]; rfl
  | f + 1, pos, h => by
    unfold Lib.idxFuncFrom
    have hs := Qd6 l
    by_cases hp : pos < l.length
    · rw [if_pos (by omega)]
      have hb : (bs l)[pos]'(by omega) = l[pos] := rfl
      rw [List.drop_eq_getElem_cons hp, List.all_cons]
      by_cases ha : l[pos].toNat < 128
      · have hd := decode_ascii (bs l) pos (by omega) (by rw [hb]; exact ha)
        rw [hd, hb]
        simp only [Qzf]
        cases hx : Qbj l[pos] with
        | true => simpa using Qkr l f (pos + 1) (by omega)
        | false => simp
      · have hd := decode_high (bs l) pos (by omega) (by rw [hb]; omega)
        have hx : Qbj l[pos] = false := by unfold Qbj; simp; omega
        rw [if_pos (by unfold U5; simp; omega), hx]; simp
    · rw [if_neg (by omega), List.drop_of_length_le (by omega)]; rfl
theorem Qmb (l : List UInt8) : CtM K0 n0 Tryz.prog 83 [BsT l, IsV (.func (.func 84) #[] #[])] [] Unit (fun _ => Xe (!l.all Qbj)) (fun _ => []) (fun _ => True) :=
  Qlx fun H w args hK hon hA => by
    obtain ⟨u, v, rfl, hu, hv⟩ := Qqe hA
    obtain rfl : u = .string (bs l) := hu
    obtain rfl : v = .func (.func 84) #[] #[] := hv
    refine (Tryz.contains_in (bs l) w).mono fun e w' ⟨he, hb⟩ => ⟨_, he, ?_, hb⟩
    show _ = Value.bool _
    unfold Lib.idxFunc
    rw [Qkr l _ 0 (by rw [Qd6]; omega), List.drop_zero]
end
end Go.Proofs.YtklhdalppmjnaaaGreatDoor
