/- The texts JnK of this claim, put together in their order. No condition of their own. -/
import Derived.Test.YtklhdalppmjnaaaGreatDoorQ5
import Derived.Test.YtklhdalppmjnaaaGreatDoorQ4
import Derived.WalkKit
import Derived.ProofKit
import Derived.Laws.RangeAny
/- strings.ContainsFunc at 'no small letter', a name of the query package: what the kit's shelf has, as a contract of types. -/
namespace Go.Proofs
open Go.Shelf Go.RowKit Go.Lib
set_option linter.unusedVariables false
abbrev notLow (r : Nat) : Bool := decide (r < 97) || decide (122 < r)
theorem Tryz.notLow_at (w : World) : PredAt Tryz.prog 84 #[] encR notLow w := fun W r _ => by
  unfold FnGives
  by_cases h1 : r < 97 <;> by_cases h2 : 122 < r
  all_goals
    have z1 : (r : Int) < 97 ↔ r < 97 := by omega
    have z2 : (122 : Int) < (r : Int) ↔ 122 < r := by omega
    go_enter Tryz.func84, Tryz.ntmps84
    go_wp2
    all_goals first | (exfalso; omega) | (go_ret; exact ⟨by simp [h1, h2], 0, rfl⟩)
theorem Tryz.contains_in (s : ByteArray) (w : World) : Calls Tryz.prog 83 #[.string s, .func (.func 84) #[] #[]] w fun e w' => e = .returned (.bool (decide (0 ≤ Lib.idxFunc notLow true s))) ∧ Below w.heap.size w w' :=
  Any.strings_ContainsFunc Tryz.lCfunc 84 #[] (enters_of Tryz.func84 (by kernel_rfl) rfl) notLow s w (Tryz.notLow_at w)
end Go.Proofs
namespace Go.Proofs.YtklhdalppmjnaaaGreatDoor
open Go Go.Gw Go.Jn Go.RowKit
set_option linter.unusedVariables false
set_option linter.unusedSimpArgs false
section
variable {K0 : FH} {n0 : Nat}
theorem two_arg {H : FH} {A B : Ty} {args : List Value} (h : AllP H [A, B] args) : ∃ u v, args = [u, v] ∧ A.p H u ∧ B.p H v := by
  match args, h with
  | [u, v], h => exact ⟨u, v, rfl, h.1, h.2.1⟩
/-! ### ContainsFunc at 'no small letter' -/
theorem low_not {b : UInt8} : notLow b.toNat = !isLow b := by
  unfold notLow isLow
  by_cases h1 : b.toNat < 97 <;> by_cases h2 : 122 < b.toNat <;> simp [h1, h2] <;> omega
theorem idx_low (l : List UInt8) : ∀ (f pos : Nat), l.length ≤ pos + f → decide (0 ≤ Lib.idxFuncFrom notLow true (bs l) f pos) = !(l.drop pos).all isLow
  | 0, pos, h => by
    rw [List.drop_of_length_le (by omega)]; rfl
  | f + 1, pos, h => by
    unfold Lib.idxFuncFrom
    have hs := bs_size l
    by_cases hp : pos < l.length
    · rw [if_pos (by omega)]
      have hb : (bs l)[pos]'(by omega) = l[pos] := rfl
      rw [List.drop_eq_getElem_cons hp, List.all_cons]
      by_cases ha : l[pos].toNat < 128
      · have hd := decode_ascii (bs l) pos (by omega) (by rw [hb]; exact ha)
        rw [hd, hb]
        simp only [low_not]
        cases hx : isLow l[pos] with
        | true => simpa using idx_low l f (pos + 1) (by omega)
        | false => simp
      · have hd := decode_high (bs l) pos (by omega) (by rw [hb]; omega)
        have hx : isLow l[pos] = false := by unfold isLow; simp; omega
        rw [if_pos (by unfold notLow; simp; omega), hx]; simp
    · rw [if_neg (by omega), List.drop_of_length_le (by omega)]; rfl
theorem Contains_ct (l : List UInt8) : CtM K0 n0 Tryz.prog 83 [BsT l, IsV (.func (.func 84) #[] #[])] [] Unit (fun _ => BoolT (!l.all isLow)) (fun _ => []) (fun _ => True) :=
  ct_below fun H w args hK hon hA => by
    obtain ⟨u, v, rfl, hu, hv⟩ := two_arg hA
    obtain rfl : u = .string (bs l) := hu
    obtain rfl : v = .func (.func 84) #[] #[] := hv
    refine (Tryz.contains_in (bs l) w).mono fun e w' ⟨he, hb⟩ => ⟨_, he, ?_, hb⟩
    show _ = Value.bool _
    unfold Lib.idxFunc
    rw [idx_low l _ 0 (by rw [bs_size]; omega), List.drop_zero]
end
end Go.Proofs.YtklhdalppmjnaaaGreatDoor
