/- Lists of tuples that are small; deltas; the zero values of the types. -/
import Derived.Test.YtloblpklkhepbaaTu1
namespace Go.Tu
open Go Go.Gw Go.So
set_option linter.unusedVariables false
def Small (l : List Tp) : Prop := l.length ≤ 1000 ∧ ∀ x ∈ l, x.length ≤ 1000
theorem Small.at_ {l : List Tp} (h : Small l) (i : Int) : (at' l i).length ≤ 1000 := by
  unfold at'
  rw [List.getD_eq_getElem?_getD]
  cases e : l[i.toNat]? with
  | none => simp [default]
  | some x => exact h.2 x (List.mem_of_getElem? e)
theorem Small.sub {l m : List Tp} (h : Small l) (hs : m.Sublist l) : Small m := ⟨Nat.le_trans hs.length_le h.1, fun x hx => h.2 x (hs.subset hx)⟩
theorem Small.take {l : List Tp} (h : Small l) (k : Nat) : Small (l.take k) := h.sub (List.take_sublist _ _)
theorem Small.without {a : List Tp} (h : Small a) (b : List Tp) : Small (withoutL a b) := h.sub List.filter_sublist
theorem Small.setR {l : List Tp} (h : Small l) : Small (setR l) := ⟨Nat.le_trans (setR_len l) h.1, fun x hx => h.2 x (((setR_spec l).2 x).1 hx)⟩
abbrev kL : Kd (List Tp) := ksl kT
abbrev Dl := List Tp × List Tp
abbrev kD : Kd Dl := kpair kL kL
def sameB : List Tp → List Tp → Bool
  | [], [] => true
  | x :: a, y :: b => decide (x = y) && sameB a b
  | _, _ => false
theorem same_iff : ∀ {a b : List Tp}, sameB a b = decide (a = b)
  | [], [] => by simp [sameB]
  | [], _ :: _ => by simp [sameB]
  | _ :: _, [] => by simp [sameB]
  | x :: a, y :: b => by rw [sameB, same_iff]; simp [List.cons.injEq]
theorem eq_upto {a b : List Tp} (hl : a.length = b.length) (h : ∀ j, j < a.length → at' a (j : Int) = at' b (j : Int)) : a = b := by
  apply List.ext_getElem hl
  intro i h1 h2
  have := h i h1
  rw [at'_nat h1, at'_nat h2] at this; exact this
end Go.Tu
