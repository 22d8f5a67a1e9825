/-
  No cell of these rows narrows 'for every input' (looked for: loops, veiled, ifaces, maps, wideKeys, modest, calm, conditions, laid).
  DERIVED. THE GIVEN ROWS OF THIS SEAT. 9 by the template 'for every input the law returns true; each argument reads behind the call as it read before'; 0 by the template 'total and deterministic' (their statements: YtloblpklkhepbaaTotals.lean).
  GIVEN WITH THE SEED: the statements are not yours to turn. If you find one false, say at which input.
  Laid BY PROGRAM, IN A SANDBOX (cutbox-rows.mjs): the forced cells as the released guide's own fill.sh prints them over the translation 4411a1668c3f88f7… (all of the seat's roots in one cut). By AI agents, Wed Nov 11 2026. No macro, syntax, notation, axiom, sorry.
-/
import Derived.Test.YtloblpklkhepbaaChecked
import GoSem.Claim
import GoSem.ClaimJoined
import GoSem.ClaimMapViews
import Derived.JoinedTies
import Derived.KernelRfl
namespace Go.Proofs.Ytloblpklkhepbaa
/- THE CELL 'sum', in the pinned program and in every row, IS THE sha256 OF THE DUMP (.gsa) THAT YtloblpklkhepbaaProg.lean LOADS. Nothing in Lean hashes anything: it is a label: what it is worth is what the hold of that sum in a sandbox is worth. -/
noncomputable def Try.pinned : Pinned := { name := "ytloblpklkhepbaa", sum := "4411a1668c3f88f7e5b59319563095afcd6854ac1deedd24bd440fb5ed91de04", checked := Try.checked }
namespace Rows
def none {H : Type} : Left H := { results := [], args := [] }

/-- 'rhizomelaw17.WaitCaught': WHATEVER THE INPUT: true; the input reads as it did. -/
def waitCaughtSpec : ChangeSpec := { name := "waitCaught", fn := fun _ => fun
  | [d] => { results := [.lit (.bool true)], args := [d] }
  | _ => none }
def waitCaughtRow : OpenClaim := { program := "ytloblpklkhepbaa", sum := "4411a1668c3f88f7e5b59319563095afcd6854ac1deedd24bd440fb5ed91de04", func := "rhizome/rhizomelaw17.WaitCaught", spec := "waitCaught", unfollowed := true, recurses := true, apart := false }
def WaitCaughtSaid : Prop := waitCaughtRow.holds Try.pinned (OpenSpec.ofChange waitCaughtSpec)

/-- ITS FALSE NEIGHBOUR: 'it returns false'. Refute it at one input. -/
def waitCaughtWrong : ChangeSpec := { name := "waitCaught", fn := fun _ => fun
  | [d] => { results := [.lit (.bool false)], args := [d] }
  | _ => none }
def WaitCaughtWrongFalsely : Prop := waitCaughtRow.holds Try.pinned (OpenSpec.ofChange waitCaughtWrong)

/-- 'rhizomelaw17.WaitRings': WHATEVER THE INPUT: true; the input reads as it did. -/
def waitRingsSpec : ChangeSpec := { name := "waitRings", fn := fun _ => fun
  | [d1, d2] => { results := [.lit (.bool true)], args := [d1, d2] }
  | _ => none }
def waitRingsRow : OpenClaim := { program := "ytloblpklkhepbaa", sum := "4411a1668c3f88f7e5b59319563095afcd6854ac1deedd24bd440fb5ed91de04", func := "rhizome/rhizomelaw17.WaitRings", spec := "waitRings", unfollowed := true, recurses := true, apart := false }
def WaitRingsSaid : Prop := waitRingsRow.holds Try.pinned (OpenSpec.ofChange waitRingsSpec)

/-- ITS FALSE NEIGHBOUR: 'it returns false'. Refute it at one input. -/
def waitRingsWrong : ChangeSpec := { name := "waitRings", fn := fun _ => fun
  | [d1, d2] => { results := [.lit (.bool false)], args := [d1, d2] }
  | _ => none }
def WaitRingsWrongFalsely : Prop := waitRingsRow.holds Try.pinned (OpenSpec.ofChange waitRingsWrong)

/-- 'rhizomelaw17.WaitMore': WHATEVER THE INPUT: true; the input reads as it did. -/
def waitMoreSpec : ChangeSpec := { name := "waitMore", fn := fun _ => fun
  | [d1, d2] => { results := [.lit (.bool true)], args := [d1, d2] }
  | _ => none }
def waitMoreRow : OpenClaim := { program := "ytloblpklkhepbaa", sum := "4411a1668c3f88f7e5b59319563095afcd6854ac1deedd24bd440fb5ed91de04", func := "rhizome/rhizomelaw17.WaitMore", spec := "waitMore", unfollowed := true, recurses := true, apart := false }
def WaitMoreSaid : Prop := waitMoreRow.holds Try.pinned (OpenSpec.ofChange waitMoreSpec)

/-- ITS FALSE NEIGHBOUR: 'it returns false'. Refute it at one input. -/
def waitMoreWrong : ChangeSpec := { name := "waitMore", fn := fun _ => fun
  | [d1, d2] => { results := [.lit (.bool false)], args := [d1, d2] }
  | _ => none }
def WaitMoreWrongFalsely : Prop := waitMoreRow.holds Try.pinned (OpenSpec.ofChange waitMoreWrong)

/-- 'rhizomelaw10.TupleOrders': WHATEVER THE INPUT: true; the input reads as it did. -/
def tupleOrdersSpec : ChangeSpec := { name := "tupleOrders", fn := fun _ => fun
  | [d1, d2, d3] => { results := [.lit (.bool true)], args := [d1, d2, d3] }
  | _ => none }
def tupleOrdersRow : OpenClaim := { program := "ytloblpklkhepbaa", sum := "4411a1668c3f88f7e5b59319563095afcd6854ac1deedd24bd440fb5ed91de04", func := "rhizome/rhizomelaw10.TupleOrders", spec := "tupleOrders", unfollowed := true, recurses := true, apart := false }
def TupleOrdersSaid : Prop := tupleOrdersRow.holds Try.pinned (OpenSpec.ofChange tupleOrdersSpec)

/-- ITS FALSE NEIGHBOUR: 'it returns false'. Refute it at one input. -/
def tupleOrdersWrong : ChangeSpec := { name := "tupleOrders", fn := fun _ => fun
  | [d1, d2, d3] => { results := [.lit (.bool false)], args := [d1, d2, d3] }
  | _ => none }
def TupleOrdersWrongFalsely : Prop := tupleOrdersRow.holds Try.pinned (OpenSpec.ofChange tupleOrdersWrong)

/-- 'rhizomelaw10.TupleThen': WHATEVER THE INPUT: true; the input reads as it did. -/
def tupleThenSpec : ChangeSpec := { name := "tupleThen", fn := fun _ => fun
  | [d1, d2] => { results := [.lit (.bool true)], args := [d1, d2] }
  | _ => none }
def tupleThenRow : OpenClaim := { program := "ytloblpklkhepbaa", sum := "4411a1668c3f88f7e5b59319563095afcd6854ac1deedd24bd440fb5ed91de04", func := "rhizome/rhizomelaw10.TupleThen", spec := "tupleThen", unfollowed := true, recurses := true, apart := false }
def TupleThenSaid : Prop := tupleThenRow.holds Try.pinned (OpenSpec.ofChange tupleThenSpec)

/-- ITS FALSE NEIGHBOUR: 'it returns false'. Refute it at one input. -/
def tupleThenWrong : ChangeSpec := { name := "tupleThen", fn := fun _ => fun
  | [d1, d2] => { results := [.lit (.bool false)], args := [d1, d2] }
  | _ => none }
def TupleThenWrongFalsely : Prop := tupleThenRow.holds Try.pinned (OpenSpec.ofChange tupleThenWrong)

/-- 'rhizomelaw10.TupleDiffs': WHATEVER THE INPUT: true; the input reads as it did. -/
def tupleDiffsSpec : ChangeSpec := { name := "tupleDiffs", fn := fun _ => fun
  | [d1, d2] => { results := [.lit (.bool true)], args := [d1, d2] }
  | _ => none }
def tupleDiffsRow : OpenClaim := { program := "ytloblpklkhepbaa", sum := "4411a1668c3f88f7e5b59319563095afcd6854ac1deedd24bd440fb5ed91de04", func := "rhizome/rhizomelaw10.TupleDiffs", spec := "tupleDiffs", unfollowed := true, recurses := true, apart := false }
def TupleDiffsSaid : Prop := tupleDiffsRow.holds Try.pinned (OpenSpec.ofChange tupleDiffsSpec)

/-- ITS FALSE NEIGHBOUR: 'it returns false'. Refute it at one input. -/
def tupleDiffsWrong : ChangeSpec := { name := "tupleDiffs", fn := fun _ => fun
  | [d1, d2] => { results := [.lit (.bool false)], args := [d1, d2] }
  | _ => none }
def TupleDiffsWrongFalsely : Prop := tupleDiffsRow.holds Try.pinned (OpenSpec.ofChange tupleDiffsWrong)

/-- 'rhizomelaw10.TupleSets': WHATEVER THE INPUT: true; the input reads as it did. -/
def tupleSetsSpec : ChangeSpec := { name := "tupleSets", fn := fun _ => fun
  | [d1, d2] => { results := [.lit (.bool true)], args := [d1, d2] }
  | _ => none }
def tupleSetsRow : OpenClaim := { program := "ytloblpklkhepbaa", sum := "4411a1668c3f88f7e5b59319563095afcd6854ac1deedd24bd440fb5ed91de04", func := "rhizome/rhizomelaw10.TupleSets", spec := "tupleSets", unfollowed := true, recurses := true, apart := false }
def TupleSetsSaid : Prop := tupleSetsRow.holds Try.pinned (OpenSpec.ofChange tupleSetsSpec)

/-- ITS FALSE NEIGHBOUR: 'it returns false'. Refute it at one input. -/
def tupleSetsWrong : ChangeSpec := { name := "tupleSets", fn := fun _ => fun
  | [d1, d2] => { results := [.lit (.bool false)], args := [d1, d2] }
  | _ => none }
def TupleSetsWrongFalsely : Prop := tupleSetsRow.holds Try.pinned (OpenSpec.ofChange tupleSetsWrong)

/-- 'rhizomelaw10.TupleApplies': WHATEVER THE INPUT: true; the input reads as it did. -/
def tupleAppliesSpec : ChangeSpec := { name := "tupleApplies", fn := fun _ => fun
  | [d1, d2] => { results := [.lit (.bool true)], args := [d1, d2] }
  | _ => none }
def tupleAppliesRow : OpenClaim := { program := "ytloblpklkhepbaa", sum := "4411a1668c3f88f7e5b59319563095afcd6854ac1deedd24bd440fb5ed91de04", func := "rhizome/rhizomelaw10.TupleApplies", spec := "tupleApplies", unfollowed := true, recurses := true, apart := false }
def TupleAppliesSaid : Prop := tupleAppliesRow.holds Try.pinned (OpenSpec.ofChange tupleAppliesSpec)

/-- ITS FALSE NEIGHBOUR: 'it returns false'. Refute it at one input. -/
def tupleAppliesWrong : ChangeSpec := { name := "tupleApplies", fn := fun _ => fun
  | [d1, d2] => { results := [.lit (.bool false)], args := [d1, d2] }
  | _ => none }
def TupleAppliesWrongFalsely : Prop := tupleAppliesRow.holds Try.pinned (OpenSpec.ofChange tupleAppliesWrong)

/-- 'rhizomelaw10.TupleRound': WHATEVER THE INPUT: true; the input reads as it did. -/
def tupleRoundSpec : ChangeSpec := { name := "tupleRound", fn := fun _ => fun
  | [d1, d2, d3] => { results := [.lit (.bool true)], args := [d1, d2, d3] }
  | _ => none }
def tupleRoundRow : OpenClaim := { program := "ytloblpklkhepbaa", sum := "4411a1668c3f88f7e5b59319563095afcd6854ac1deedd24bd440fb5ed91de04", func := "rhizome/rhizomelaw10.TupleRound", spec := "tupleRound", unfollowed := true, recurses := true, apart := false }
def TupleRoundSaid : Prop := tupleRoundRow.holds Try.pinned (OpenSpec.ofChange tupleRoundSpec)

/-- ITS FALSE NEIGHBOUR: 'it returns false'. Refute it at one input. -/
def tupleRoundWrong : ChangeSpec := { name := "tupleRound", fn := fun _ => fun
  | [d1, d2, d3] => { results := [.lit (.bool false)], args := [d1, d2, d3] }
  | _ => none }
def TupleRoundWrongFalsely : Prop := tupleRoundRow.holds Try.pinned (OpenSpec.ofChange tupleRoundWrong)

/- THE SECOND FORM. 'bulk': how many values and letters a reading holds, each counted each time it is reached (what is shared counts as often as it is met; a slice's spare places count too). A statement '..UptoSaid' is the law's where the arguments, and the package variables that the reading takes, are together of bulk at most 1048576: NARROWER than '..Said'. Prove '..Said' where nothing that the law and all that it calls make is longer than what came in: it says more and counts as full. Else prove '..UptoSaid'. A law counts once. -/
mutual
def uptoBulk {H : Type} : DataW H → Nat
  | .lit (.string bytes) => bytes.length + 1
  | .lit _ => 1
  | .nil => 1
  | .ptr d => uptoBulk d + 1
  | .slice elems spare => uptoBulkAll elems + uptoBulkAll spare + 1
  | .agg parts => uptoBulkAll parts + 1
  | .iface _ d => uptoBulk d + 1
  | .map entries => uptoBulkEntries entries + 1
  | .held _ => 1
def uptoBulkAll {H : Type} : List (DataW H) → Nat
  | [] => 0
  | d :: r => uptoBulk d + uptoBulkAll r
def uptoBulkEntries {H : Type} : List (Lit × DataW H) → Nat
  | [] => 0
  | x :: r => uptoBulkEntry x + uptoBulkEntries r
def uptoBulkEntry {H : Type} : Lit × DataW H → Nat
  | (.string bytes, d) => bytes.length + uptoBulk d + 1
  | (_, d) => uptoBulk d + 1
 end
def uptoSmall : (H : Type) → List (DataW H) → Bool := fun _ ds => decide (uptoBulkAll ds ≤ 1048576)
def OpenSpec.upto (s : _root_.Go.ChangeSpec) : _root_.Go.OpenSpec := { _root_.Go.OpenSpec.ofChange s with cond := some uptoSmall }

/-- 'rhizomelaw17.WaitCaught', WHERE WHAT IT READS IS OF BULK AT MOST 1048576: true; the input reads as it did. -/
def waitCaughtUptoRow : OpenClaim := { program := "ytloblpklkhepbaa", sum := "4411a1668c3f88f7e5b59319563095afcd6854ac1deedd24bd440fb5ed91de04", func := "rhizome/rhizomelaw17.WaitCaught", spec := "waitCaught", unfollowed := true, recurses := true, apart := false, narrowed := true }
def WaitCaughtUptoSaid : Prop := waitCaughtUptoRow.holds Try.pinned (OpenSpec.upto waitCaughtSpec)

/-- 'rhizomelaw17.WaitRings', WHERE WHAT IT READS IS OF BULK AT MOST 1048576: true; the input reads as it did. -/
def waitRingsUptoRow : OpenClaim := { program := "ytloblpklkhepbaa", sum := "4411a1668c3f88f7e5b59319563095afcd6854ac1deedd24bd440fb5ed91de04", func := "rhizome/rhizomelaw17.WaitRings", spec := "waitRings", unfollowed := true, recurses := true, apart := false, narrowed := true }
def WaitRingsUptoSaid : Prop := waitRingsUptoRow.holds Try.pinned (OpenSpec.upto waitRingsSpec)

/-- 'rhizomelaw17.WaitMore', WHERE WHAT IT READS IS OF BULK AT MOST 1048576: true; the input reads as it did. -/
def waitMoreUptoRow : OpenClaim := { program := "ytloblpklkhepbaa", sum := "4411a1668c3f88f7e5b59319563095afcd6854ac1deedd24bd440fb5ed91de04", func := "rhizome/rhizomelaw17.WaitMore", spec := "waitMore", unfollowed := true, recurses := true, apart := false, narrowed := true }
def WaitMoreUptoSaid : Prop := waitMoreUptoRow.holds Try.pinned (OpenSpec.upto waitMoreSpec)

/-- 'rhizomelaw10.TupleOrders', WHERE WHAT IT READS IS OF BULK AT MOST 1048576: true; the input reads as it did. -/
def tupleOrdersUptoRow : OpenClaim := { program := "ytloblpklkhepbaa", sum := "4411a1668c3f88f7e5b59319563095afcd6854ac1deedd24bd440fb5ed91de04", func := "rhizome/rhizomelaw10.TupleOrders", spec := "tupleOrders", unfollowed := true, recurses := true, apart := false, narrowed := true }
def TupleOrdersUptoSaid : Prop := tupleOrdersUptoRow.holds Try.pinned (OpenSpec.upto tupleOrdersSpec)

/-- 'rhizomelaw10.TupleThen', WHERE WHAT IT READS IS OF BULK AT MOST 1048576: true; the input reads as it did. -/
def tupleThenUptoRow : OpenClaim := { program := "ytloblpklkhepbaa", sum := "4411a1668c3f88f7e5b59319563095afcd6854ac1deedd24bd440fb5ed91de04", func := "rhizome/rhizomelaw10.TupleThen", spec := "tupleThen", unfollowed := true, recurses := true, apart := false, narrowed := true }
def TupleThenUptoSaid : Prop := tupleThenUptoRow.holds Try.pinned (OpenSpec.upto tupleThenSpec)

/-- 'rhizomelaw10.TupleDiffs', WHERE WHAT IT READS IS OF BULK AT MOST 1048576: true; the input reads as it did. -/
def tupleDiffsUptoRow : OpenClaim := { program := "ytloblpklkhepbaa", sum := "4411a1668c3f88f7e5b59319563095afcd6854ac1deedd24bd440fb5ed91de04", func := "rhizome/rhizomelaw10.TupleDiffs", spec := "tupleDiffs", unfollowed := true, recurses := true, apart := false, narrowed := true }
def TupleDiffsUptoSaid : Prop := tupleDiffsUptoRow.holds Try.pinned (OpenSpec.upto tupleDiffsSpec)

/-- 'rhizomelaw10.TupleSets', WHERE WHAT IT READS IS OF BULK AT MOST 1048576: true; the input reads as it did. -/
def tupleSetsUptoRow : OpenClaim := { program := "ytloblpklkhepbaa", sum := "4411a1668c3f88f7e5b59319563095afcd6854ac1deedd24bd440fb5ed91de04", func := "rhizome/rhizomelaw10.TupleSets", spec := "tupleSets", unfollowed := true, recurses := true, apart := false, narrowed := true }
def TupleSetsUptoSaid : Prop := tupleSetsUptoRow.holds Try.pinned (OpenSpec.upto tupleSetsSpec)

/-- 'rhizomelaw10.TupleApplies', WHERE WHAT IT READS IS OF BULK AT MOST 1048576: true; the input reads as it did. -/
def tupleAppliesUptoRow : OpenClaim := { program := "ytloblpklkhepbaa", sum := "4411a1668c3f88f7e5b59319563095afcd6854ac1deedd24bd440fb5ed91de04", func := "rhizome/rhizomelaw10.TupleApplies", spec := "tupleApplies", unfollowed := true, recurses := true, apart := false, narrowed := true }
def TupleAppliesUptoSaid : Prop := tupleAppliesUptoRow.holds Try.pinned (OpenSpec.upto tupleAppliesSpec)

/-- 'rhizomelaw10.TupleRound', WHERE WHAT IT READS IS OF BULK AT MOST 1048576: true; the input reads as it did. -/
def tupleRoundUptoRow : OpenClaim := { program := "ytloblpklkhepbaa", sum := "4411a1668c3f88f7e5b59319563095afcd6854ac1deedd24bd440fb5ed91de04", func := "rhizome/rhizomelaw10.TupleRound", spec := "tupleRound", unfollowed := true, recurses := true, apart := false, narrowed := true }
def TupleRoundUptoSaid : Prop := tupleRoundUptoRow.holds Try.pinned (OpenSpec.upto tupleRoundSpec)

end Rows
end Go.Proofs.Ytloblpklkhepbaa
