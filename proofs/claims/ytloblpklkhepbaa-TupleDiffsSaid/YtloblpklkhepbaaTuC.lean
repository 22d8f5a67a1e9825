/- The reference's differences, both, applied: plain Lean. -/
import Derived.Test.YtloblpklkhepbaaTuB
import Derived.Test.YtloblpklkhepbaaG19
namespace Go.Tu
open Go Go.Gw Go.So
set_option linter.unusedVariables false
def diffR (a b : List Tp) : Dl × Int := if risesB a && risesB b then ((withoutL b a, withoutL a b), 0) else (([], []), 1)
def meetB (a b : List Tp) : Bool := decide (((withoutL a b).length : Int) < a.length)
def bothR (a b : List Tp) : List Tp := setR (a ++ b)
def applyR (s : List Tp) (d : Dl) : List Tp × Int :=
  if !risesB s || !risesB d.1 || !risesB d.2 then ([], 1) else
  if meetB d.1 s then ([], 2) else
  if 0 < ((withoutL d.2 s).length : Int) then ([], 4) else
  (bothR (withoutL s d.2) d.1, 0)
def thenR (a b : Dl) : Dl × Int :=
  if !risesB a.1 || !risesB a.2 || !risesB b.1 || !risesB b.2 then (([], []), 1) else
  if meetB a.1 b.1 || meetB a.2 b.2 || meetB a.1 a.2 || meetB b.1 b.2 then (([], []), 2) else
  ((bothR (withoutL a.1 b.2) (withoutL b.1 a.2), bothR (withoutL a.2 b.1) (withoutL b.2 a.1)), 0)
theorem Small.app {a b : List Tp} (h : a.length + b.length ≤ 1000) (ha : Small a) (hb : Small b) : Small (a ++ b) := ⟨by simpa using h, fun x hx => (List.mem_append.1 hx).elim (ha.2 x) (hb.2 x)⟩
/-- Each of at most 200 tuples, of at most 1000 numbers. -/
def Few (l : List Tp) : Prop := l.length ≤ 200 ∧ ∀ x ∈ l, x.length ≤ 1000
theorem Few.small {l : List Tp} (h : Few l) : Small l := ⟨by have := h.1; omega, h.2⟩
theorem Few.sub {l m : List Tp} (h : Few l) (hs : m.Sublist l) : Few m := ⟨Nat.le_trans hs.length_le h.1, fun x hx => h.2 x (hs.subset hx)⟩
theorem Few.without {a : List Tp} (h : Few a) (b : List Tp) : Few (withoutL a b) := h.sub List.filter_sublist
theorem Few.both {a b : List Tp} (ha : Few a) (hb : Few b) : Small (a ++ b) := Small.app (by have := ha.1; have := hb.1; omega) ha.small hb.small
def fewB (ls : List (List Tp)) : Bool := ls.all fun l => decide (l.length ≤ 40) && l.all fun x => decide (x.length ≤ 40)
theorem all_step {α : Type} [Inhabited α] {l : List α} {p : α → Bool} {k : Nat} (h : k < l.length) : (l.drop k).all p = (p (at' l (k : Int)) && (l.drop (k + 1)).all p) := by
  rw [at'_nat h, List.drop_eq_getElem_cons h]; rfl
theorem any_step {α : Type} [Inhabited α] {l : List α} {p : α → Bool} {k : Nat} (h : k < l.length) : (l.drop k).any p = (p (at' l (k : Int)) || (l.drop (k + 1)).any p) := by
  rw [at'_nat h, List.drop_eq_getElem_cons h]; rfl
end Go.Tu
