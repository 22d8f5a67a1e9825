/- TupleThen: whatever the input, the law returns true, and the input reads as it did.
No condition: the row is proved as given. -/
import Derived.Test.YtloblpklkhepbaaRows
import Derived.Test.YtloblpklkhepbaaTu11
import Derived.Test.YtloblpklkhepbaaG22
namespace Go.Proofs.Ytloblpklkhepbaa.tupleThen
open Go Go.Gw Go.So Go.Tu Go.ChangeShapes Go.WideShapes Go.ChangeAt Go.RowKit
open Go.ChangeMaps (open_string shut_string)
set_option linter.unusedVariables false
set_option linter.unusedSimpArgs false
theorem own : ownKnob Try.prog.godebug = none := by kernel_rfl
theorem laidOut : laidOutB Try.prog = true := by kernel_rfl
set_option maxRecDepth 100000 in
theorem lifted (os : Os) (started : os.Started) (H : Type) (enc : TypeId × Value → H) :
    ReturnsInHanded {} Try.checked os 7 .any (Rows.tupleThenSpec.pre6 enc Try.prog Try.f7 Rows.tupleThenRow.domain false) (Rows.tupleThenSpec.post enc Try.prog Try.f7 false true false false) := by
  refine returnsInHanded_of_change_sized (C := Try.checked) own started (by kernel_rfl) Try.func7
    (ChangeSpec.witness6 (enc := enc) (C := Try.checked) false ⟨#[], #[.agg #[.slice none 0 0, .slice none 0 0], .agg #[.slice none 0 0, .slice none 0 0]], []⟩ 8 (by kernel_rfl) (by kernel_rfl) (by kernel_rfl) (by kernel_rfl)) ?_
  intro W base args ds gs before hval0 hW hcnd hsz0 _
  have hsz : (DataW.weightsEach Try.prog (Try.f7.params.toList ++ Rows.tupleThenSpec.plain.varTypes Try.prog) (ds ++ gs)).all (· ≤ reachBytes) = true := hsz0
  have hval : ∀ (j : Nat) t v, Try.f7.params[j]? = some t → args[j]? = some v → Value.okWide Try.prog W .any base t v := hval0
  have hW' := hW
  obtain ⟨p, q, hA0, hV, rfl, hfz, hnd⟩ := hW
  have hA : DataW.TrodAll enc Try.prog W 0 (fun _ => true) true Try.f7.params.toList args.toList ds p := hA0
  rw [Try.params7] at hA hval hsz
  obtain ⟨v0, vs0, d0, ds0, p0, q0, hargs, rfl, rfl, h0, r0⟩ := trodAll_cons hA
  obtain ⟨v1, vs1, d1, ds1, p1, q1, rfl, rfl, rfl, h1, r1⟩ := trodAll_cons r0
  obtain ⟨rfl, rfl, rfl⟩ := trodAll_nil r1
  obtain rfl : args = #[v0, v1] := by cases args; simp_all
  obtain ⟨rfl, rfl⟩ := trodVars_none hV
  have k0 := h0
  have lt0 : ∀ x ∈ p0, x.block < W.heap.size := by obtain ⟨m, hm⟩ := k0; exact DataW.trod_lt m _ _ _ hm
  obtain ⟨cs0, rfl, cz0⟩ := okWide_struct Try.underlying44 (hval 0 44 v0 rfl rfl)
  obtain ⟨fuel0, hf0⟩ := h0
  obtain ⟨x0, hx0, good0⟩ := (opn_struct2 (a := kL) (b := kL) Try.underlying44 (opn_slice (d := kT) (opn_slice (d := kint .i64) (opn_int Try.underlying3) Try.underlying38 (by kernel_rfl) (by decide)) Try.underlying40 (by kernel_rfl) (by decide)) (opn_slice (d := kT) (opn_slice (d := kint .i64) (opn_int Try.underlying3) Try.underlying38 (by kernel_rfl) (by decide)) Try.underlying40 (by kernel_rfl) (by decide)) rfl rfl (by kernel_rfl) (by kernel_rfl) (by kernel_rfl)) H enc W fuel0 _ _ hf0
  have k1 := h1
  have lt1 : ∀ x ∈ p1, x.block < W.heap.size := by obtain ⟨m, hm⟩ := k1; exact DataW.trod_lt m _ _ _ hm
  obtain ⟨cs1, rfl, cz1⟩ := okWide_struct Try.underlying44 (hval 1 44 v1 rfl rfl)
  obtain ⟨fuel1, hf1⟩ := h1
  obtain ⟨x1, hx1, good1⟩ := (opn_struct2 (a := kL) (b := kL) Try.underlying44 (opn_slice (d := kT) (opn_slice (d := kint .i64) (opn_int Try.underlying3) Try.underlying38 (by kernel_rfl) (by decide)) Try.underlying40 (by kernel_rfl) (by decide)) (opn_slice (d := kT) (opn_slice (d := kint .i64) (opn_int Try.underlying3) Try.underlying38 (by kernel_rfl) (by decide)) Try.underlying40 (by kernel_rfl) (by decide)) rfl rfl (by kernel_rfl) (by kernel_rfl) (by kernel_rfl)) H enc W fuel1 _ _ hf1
  refine (ct_row (TupleThen_fn x0 x1) W (args := [_, _]) ⟨(⟨_, hx0, rfl⟩), ⟨(⟨_, hx1, rfl⟩), trivial⟩⟩).mono fun e W' ⟨he, bel⟩ => ?_
  subst he
  exact ⟨_, rfl, _, _, _, [], _, [], hW', trodAll_mk1 (shut_bool Try.underlying4 _), (trodAll_cons_mk (Below.trod laidOut (by kernel_rfl) (of_decide_eq_true (by kernel_rfl)) k0 bel lt0) (trodAll_cons_mk (Below.trod laidOut (by kernel_rfl) (of_decide_eq_true (by kernel_rfl)) k1 bel lt1) trodAll_mk0)), rfl, bel.frame _, fun h => by cases h⟩
theorem over : Rows.tupleThenRow.holds Try.pinned (OpenSpec.ofChange Rows.tupleThenSpec) :=
  OpenClaim.holds_of_wide 7 Try.f7 rfl rfl rfl rfl rfl rfl rfl ⟨rfl, rfl, rfl, rfl, rfl⟩ rfl rfl rfl rfl rfl (by kernel_rfl) Try.func7 (by kernel_rfl)
    (of_decide_eq_true (by kernel_rfl)) (by unfold Func.isWrapper; first | (rw [if_pos (by decide +kernel)]; kernel_rfl) | (rw [if_neg (by decide +kernel)]; exact ⟨rfl, rfl⟩))
    (fun os started H enc _ => lifted os started H enc)
theorem proved : Rows.TupleThenSaid := over
end Go.Proofs.Ytloblpklkhepbaa.tupleThen
namespace Go.Proofs.Ytloblpklkhepbaa
/-- The row, under a short name, for the claim. -/
theorem tupleThen_holds : Rows.TupleThenSaid := tupleThen.proved
end Go.Proofs.Ytloblpklkhepbaa
