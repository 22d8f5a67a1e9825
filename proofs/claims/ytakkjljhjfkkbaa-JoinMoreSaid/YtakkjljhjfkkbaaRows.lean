/-
  No cell of these rows narrows 'for every input' (looked for: loops, veiled, ifaces, maps, wideKeys, modest, calm, conditions, laid).
  DERIVED. THE GIVEN ROWS OF THIS SEAT. 4 by the template 'for every input the law returns true; each argument reads behind the call as it read before'; 0 by the template 'total and deterministic' (their statements: YtakkjljhjfkkbaaTotals.lean).
  GIVEN WITH THE SEED: the statements are not yours to turn. If you find one false, say at which input.
  Laid BY PROGRAM, IN A SANDBOX (cutbox-rows.mjs): the forced cells as the released guide's own fill.sh prints them over the translation 2a27a3f6faf9fd4e… (all of the seat's roots in one cut). By AI agents, Wed Nov 11 2026. No macro, syntax, notation, axiom, sorry.
-/
import Derived.Test.YtakkjljhjfkkbaaChecked
import GoSem.Claim
import GoSem.ClaimJoined
import GoSem.ClaimMapViews
import Derived.JoinedTies
import Derived.KernelRfl
namespace Go.Proofs.Ytakkjljhjfkkbaa
/- THE CELL 'sum', in the pinned program and in every row, IS THE sha256 OF THE DUMP (.gsa) THAT YtakkjljhjfkkbaaProg.lean LOADS. Nothing in Lean hashes anything: it is a label: what it is worth is what the hold of that sum in a sandbox is worth. -/
noncomputable def Try.pinned : Pinned := { name := "ytakkjljhjfkkbaa", sum := "2a27a3f6faf9fd4e16d6ebf85c0f5f42fcc0f43069964d83e247cbb1c350d6e6", checked := Try.checked }
namespace Rows
def none {H : Type} : Left H := { results := [], args := [] }

/-- 'rhizomelaw11.JoinTurned': WHATEVER THE INPUT: true; the input reads as it did. -/
def joinTurnedSpec : ChangeSpec := { name := "joinTurned", fn := fun _ => fun
  | [d1, d2, d3] => { results := [.lit (.bool true)], args := [d1, d2, d3] }
  | _ => none }
def joinTurnedRow : OpenClaim := { program := "ytakkjljhjfkkbaa", sum := "2a27a3f6faf9fd4e16d6ebf85c0f5f42fcc0f43069964d83e247cbb1c350d6e6", func := "rhizome/rhizomelaw11.JoinTurned", spec := "joinTurned", unfollowed := true, recurses := true, plainKeys := false, apart := false }
def JoinTurnedSaid : Prop := joinTurnedRow.holds Try.pinned (OpenSpec.ofChange joinTurnedSpec)

/-- ITS FALSE NEIGHBOUR: 'it returns false'. Refute it at one input. -/
def joinTurnedWrong : ChangeSpec := { name := "joinTurned", fn := fun _ => fun
  | [d1, d2, d3] => { results := [.lit (.bool false)], args := [d1, d2, d3] }
  | _ => none }
def JoinTurnedWrongFalsely : Prop := joinTurnedRow.holds Try.pinned (OpenSpec.ofChange joinTurnedWrong)

/-- 'rhizomelaw11.JoinMore': WHATEVER THE INPUT: true; the input reads as it did. -/
def joinMoreSpec : ChangeSpec := { name := "joinMore", fn := fun _ => fun
  | [d1, d2, d3] => { results := [.lit (.bool true)], args := [d1, d2, d3] }
  | _ => none }
def joinMoreRow : OpenClaim := { program := "ytakkjljhjfkkbaa", sum := "2a27a3f6faf9fd4e16d6ebf85c0f5f42fcc0f43069964d83e247cbb1c350d6e6", func := "rhizome/rhizomelaw11.JoinMore", spec := "joinMore", unfollowed := true, recurses := true, plainKeys := false, apart := false }
def JoinMoreSaid : Prop := joinMoreRow.holds Try.pinned (OpenSpec.ofChange joinMoreSpec)

/-- ITS FALSE NEIGHBOUR: 'it returns false'. Refute it at one input. -/
def joinMoreWrong : ChangeSpec := { name := "joinMore", fn := fun _ => fun
  | [d1, d2, d3] => { results := [.lit (.bool false)], args := [d1, d2, d3] }
  | _ => none }
def JoinMoreWrongFalsely : Prop := joinMoreRow.holds Try.pinned (OpenSpec.ofChange joinMoreWrong)

/-- 'rhizomelaw11.JoinGreat': WHATEVER THE INPUT: true; the input reads as it did. -/
def joinGreatSpec : ChangeSpec := { name := "joinGreat", fn := fun _ => fun
  | [d1, d2] => { results := [.lit (.bool true)], args := [d1, d2] }
  | _ => none }
def joinGreatRow : OpenClaim := { program := "ytakkjljhjfkkbaa", sum := "2a27a3f6faf9fd4e16d6ebf85c0f5f42fcc0f43069964d83e247cbb1c350d6e6", func := "rhizome/rhizomelaw11.JoinGreat", spec := "joinGreat", unfollowed := true, recurses := true, plainKeys := false, apart := false }
def JoinGreatSaid : Prop := joinGreatRow.holds Try.pinned (OpenSpec.ofChange joinGreatSpec)

/-- ITS FALSE NEIGHBOUR: 'it returns false'. Refute it at one input. -/
def joinGreatWrong : ChangeSpec := { name := "joinGreat", fn := fun _ => fun
  | [d1, d2] => { results := [.lit (.bool false)], args := [d1, d2] }
  | _ => none }
def JoinGreatWrongFalsely : Prop := joinGreatRow.holds Try.pinned (OpenSpec.ofChange joinGreatWrong)

/-- 'rhizomelaw11.JoinProduct': WHATEVER THE INPUT: true; the input reads as it did. -/
def joinProductSpec : ChangeSpec := { name := "joinProduct", fn := fun _ => fun
  | [d1, d2] => { results := [.lit (.bool true)], args := [d1, d2] }
  | _ => none }
def joinProductRow : OpenClaim := { program := "ytakkjljhjfkkbaa", sum := "2a27a3f6faf9fd4e16d6ebf85c0f5f42fcc0f43069964d83e247cbb1c350d6e6", func := "rhizome/rhizomelaw11.JoinProduct", spec := "joinProduct", unfollowed := true, recurses := true, plainKeys := false, apart := false }
def JoinProductSaid : Prop := joinProductRow.holds Try.pinned (OpenSpec.ofChange joinProductSpec)

/-- ITS FALSE NEIGHBOUR: 'it returns false'. Refute it at one input. -/
def joinProductWrong : ChangeSpec := { name := "joinProduct", fn := fun _ => fun
  | [d1, d2] => { results := [.lit (.bool false)], args := [d1, d2] }
  | _ => none }
def JoinProductWrongFalsely : Prop := joinProductRow.holds Try.pinned (OpenSpec.ofChange joinProductWrong)

/- THE SECOND FORM. 'bulk': how many values and letters a reading holds, each counted each time it is reached (what is shared counts as often as it is met; a slice's spare places count too). A statement '..UptoSaid' is the law's where the arguments, and the package variables that the reading takes, are together of bulk at most 1048576: NARROWER than '..Said'. Prove '..Said' where nothing that the law and all that it calls make is longer than what came in: it says more and counts as full. Else prove '..UptoSaid'. A law counts once. -/
mutual
def uptoBulk {H : Type} : DataW H → Nat
  | .lit (.string bytes) => bytes.length + 1
  | .lit _ => 1
  | .nil => 1
  | .ptr d => uptoBulk d + 1
  | .slice elems spare => uptoBulkAll elems + uptoBulkAll spare + 1
  | .agg parts => uptoBulkAll parts + 1
  | .iface _ d => uptoBulk d + 1
  | .map entries => uptoBulkEntries entries + 1
  | .held _ => 1
def uptoBulkAll {H : Type} : List (DataW H) → Nat
  | [] => 0
  | d :: r => uptoBulk d + uptoBulkAll r
def uptoBulkEntries {H : Type} : List (Lit × DataW H) → Nat
  | [] => 0
  | x :: r => uptoBulkEntry x + uptoBulkEntries r
def uptoBulkEntry {H : Type} : Lit × DataW H → Nat
  | (.string bytes, d) => bytes.length + uptoBulk d + 1
  | (_, d) => uptoBulk d + 1
 end
def uptoSmall : (H : Type) → List (DataW H) → Bool := fun _ ds => decide (uptoBulkAll ds ≤ 1048576)
def OpenSpec.upto (s : _root_.Go.ChangeSpec) : _root_.Go.OpenSpec := { _root_.Go.OpenSpec.ofChange s with cond := some uptoSmall }

/-- 'rhizomelaw11.JoinTurned', WHERE WHAT IT READS IS OF BULK AT MOST 1048576: true; the input reads as it did. -/
def joinTurnedUptoRow : OpenClaim := { program := "ytakkjljhjfkkbaa", sum := "2a27a3f6faf9fd4e16d6ebf85c0f5f42fcc0f43069964d83e247cbb1c350d6e6", func := "rhizome/rhizomelaw11.JoinTurned", spec := "joinTurned", unfollowed := true, recurses := true, plainKeys := false, apart := false, narrowed := true }
def JoinTurnedUptoSaid : Prop := joinTurnedUptoRow.holds Try.pinned (OpenSpec.upto joinTurnedSpec)

/-- 'rhizomelaw11.JoinMore', WHERE WHAT IT READS IS OF BULK AT MOST 1048576: true; the input reads as it did. -/
def joinMoreUptoRow : OpenClaim := { program := "ytakkjljhjfkkbaa", sum := "2a27a3f6faf9fd4e16d6ebf85c0f5f42fcc0f43069964d83e247cbb1c350d6e6", func := "rhizome/rhizomelaw11.JoinMore", spec := "joinMore", unfollowed := true, recurses := true, plainKeys := false, apart := false, narrowed := true }
def JoinMoreUptoSaid : Prop := joinMoreUptoRow.holds Try.pinned (OpenSpec.upto joinMoreSpec)

/-- 'rhizomelaw11.JoinGreat', WHERE WHAT IT READS IS OF BULK AT MOST 1048576: true; the input reads as it did. -/
def joinGreatUptoRow : OpenClaim := { program := "ytakkjljhjfkkbaa", sum := "2a27a3f6faf9fd4e16d6ebf85c0f5f42fcc0f43069964d83e247cbb1c350d6e6", func := "rhizome/rhizomelaw11.JoinGreat", spec := "joinGreat", unfollowed := true, recurses := true, plainKeys := false, apart := false, narrowed := true }
def JoinGreatUptoSaid : Prop := joinGreatUptoRow.holds Try.pinned (OpenSpec.upto joinGreatSpec)

/-- 'rhizomelaw11.JoinProduct', WHERE WHAT IT READS IS OF BULK AT MOST 1048576: true; the input reads as it did. -/
def joinProductUptoRow : OpenClaim := { program := "ytakkjljhjfkkbaa", sum := "2a27a3f6faf9fd4e16d6ebf85c0f5f42fcc0f43069964d83e247cbb1c350d6e6", func := "rhizome/rhizomelaw11.JoinProduct", spec := "joinProduct", unfollowed := true, recurses := true, plainKeys := false, apart := false, narrowed := true }
def JoinProductUptoSaid : Prop := joinProductUptoRow.holds Try.pinned (OpenSpec.upto joinProductSpec)

end Rows
end Go.Proofs.Ytakkjljhjfkkbaa
