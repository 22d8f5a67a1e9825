/- JoinMore: whatever the input, the law returns true, and the input reads as it did.
No condition: the row is proved as given. -/
import Derived.Test.YtakkjljhjfkkbaaRows
import Derived.Test.YtakkjljhjfkkbaaQ10
import Derived.Test.YtakkjljhjfkkbaaQ1
import Derived.Test.YtakkjljhjfkkbaaQ2
namespace Go.Proofs.Ytakkjljhjfkkbaa.joinMore
open Go Go.Gw Go.So Go.Tu Go.ChangeShapes Go.WideShapes Go.ChangeAt Go.RowKit
open Go.ChangeMaps (open_string shut_string)
set_option linter.unusedVariables false
set_option linter.unusedSimpArgs false
theorem own : ownKnob Try.prog.godebug = none := by kernel_rfl
theorem laidOut : laidOutB Try.prog = true := by kernel_rfl
set_option maxRecDepth 100000 in
theorem lifted (os : Os) (started : os.Started) (H : Type) (enc : TypeId × Value → H) :
    ReturnsInHanded {} Try.checked os 4 .any (Rows.joinMoreSpec.pre6 enc Try.prog Try.f4 Rows.joinMoreRow.domain false) (Rows.joinMoreSpec.post enc Try.prog Try.f4 false true false false) := by
  refine returnsInHanded_of_change_sized (C := Try.checked) own started (by kernel_rfl) Try.func4
    (ChangeSpec.witness6 (enc := enc) (C := Try.checked) false ⟨#[], #[.agg #[.string ByteArray.empty, .int .i64 0, .slice none 0 0, .slice none 0 0, .string ByteArray.empty], .slice none 0 0, .agg #[.int .i64 0, .string ByteArray.empty, .int .i64 0]], []⟩ 8 (by kernel_rfl) (by kernel_rfl) (by kernel_rfl) (by kernel_rfl)) ?_
  intro W base args ds gs before hval0 hW hcnd hsz0 _
  have hsz : (DataW.weightsEach Try.prog (Try.f4.params.toList ++ Rows.joinMoreSpec.plain.varTypes Try.prog) (ds ++ gs)).all (· ≤ reachBytes) = true := hsz0
  have hval : ∀ (j : Nat) t v, Try.f4.params[j]? = some t → args[j]? = some v → Value.okWide Try.prog W .any base t v := hval0
  have hW' := hW
  obtain ⟨p, q, hA0, hV, rfl, hfz, hnd⟩ := hW
  have hA : DataW.TrodAll enc Try.prog W 0 (fun _ => true) true Try.f4.params.toList args.toList ds p := hA0
  rw [Try.params4] at hA hval hsz
  obtain ⟨v0, vs0, d0, ds0, p0, q0, hargs, rfl, rfl, h0, r0⟩ := trodAll_cons hA
  obtain ⟨v1, vs1, d1, ds1, p1, q1, rfl, rfl, rfl, h1, r1⟩ := trodAll_cons r0
  obtain ⟨v2, vs2, d2, ds2, p2, q2, rfl, rfl, rfl, h2, r2⟩ := trodAll_cons r1
  obtain ⟨rfl, rfl, rfl⟩ := trodAll_nil r2
  obtain rfl : args = #[v0, v1, v2] := by cases args; simp_all
  obtain ⟨rfl, rfl⟩ := trodVars_none hV
  have k0 := h0
  have lt0 : ∀ x ∈ p0, x.block < W.heap.size := by obtain ⟨m, hm⟩ := k0; exact DataW.trod_lt m _ _ _ hm
  obtain ⟨cs0, rfl, cz0⟩ := okWide_struct Try.underlying25 (hval 0 25 v0 rfl rfl)
  obtain ⟨fuel0, hf0⟩ := h0
  obtain ⟨x0, hx0, good0⟩ := (opn_struct5 (a := kS) (b := kint .i64) (c := ksl kS) (d := ksl kA) (e := kS) Try.underlying25 (opn_bs Try.underlying9) (opn_int Try.underlying3) (opn_slice (d := kS) (opn_bs Try.underlying9) Try.underlying22 (by kernel_rfl) (by decide)) (opn_slice (d := kA) (opn_struct3 (a := kS) (b := kS) (c := kS) Try.underlying31 (opn_bs Try.underlying9) (opn_bs Try.underlying9) (opn_bs Try.underlying9) rfl rfl rfl (by kernel_rfl) (by kernel_rfl) (by kernel_rfl) (by kernel_rfl)) Try.underlying23 (by kernel_rfl) (by decide)) (opn_bs Try.underlying9) rfl rfl rfl rfl rfl (by kernel_rfl) (by kernel_rfl) (by kernel_rfl) (by kernel_rfl) (by kernel_rfl) (by kernel_rfl)) H enc W fuel0 _ _ hf0
  have k1 := h1
  have lt1 : ∀ x ∈ p1, x.block < W.heap.size := by obtain ⟨m, hm⟩ := k1; exact DataW.trod_lt m _ _ _ hm
  obtain ⟨a1, len1, cap1, rfl⟩ := okWide_slice Try.underlying26 (hval 1 26 v1 rfl rfl)
  obtain ⟨fuel1, hf1⟩ := h1
  obtain ⟨x1, hx1, good1⟩ := (opn_slice (d := kE) (opn_struct3 (a := kint .i64) (b := kS) (c := kint .i64) Try.underlying34 (opn_int Try.underlying3) (opn_bs Try.underlying9) (opn_int Try.underlying3) rfl rfl rfl (by kernel_rfl) (by kernel_rfl) (by kernel_rfl) (by kernel_rfl)) Try.underlying26 (by kernel_rfl) (by decide)) H enc W fuel1 _ _ hf1
  obtain ⟨u1, hu1, sl1⟩ := hx1
  obtain rfl := List.singleton_inj.1 hu1
  have mx1 : x1.length ≤ maxLen := by obtain ⟨_, _, _, _, h, _⟩ := sl1; exact h
  have k2 := h2
  have lt2 : ∀ x ∈ p2, x.block < W.heap.size := by obtain ⟨m, hm⟩ := k2; exact DataW.trod_lt m _ _ _ hm
  obtain ⟨cs2, rfl, cz2⟩ := okWide_struct Try.underlying34 (hval 2 34 v2 rfl rfl)
  obtain ⟨fuel2, hf2⟩ := h2
  obtain ⟨x2, hx2, good2⟩ := (opn_struct3 (a := kint .i64) (b := kS) (c := kint .i64) Try.underlying34 (opn_int Try.underlying3) (opn_bs Try.underlying9) (opn_int Try.underlying3) rfl rfl rfl (by kernel_rfl) (by kernel_rfl) (by kernel_rfl) (by kernel_rfl)) H enc W fuel2 _ _ hf2
  refine (ct_row (JoinMore_fn x0 x1 x2) W (args := [_, _, _]) ⟨(⟨_, hx0, rfl⟩), ⟨sl1, ⟨(⟨_, hx2, rfl⟩), trivial⟩⟩⟩).mono fun e W' ⟨he, bel⟩ => ?_
  subst he
  exact ⟨_, rfl, _, _, _, [], _, [], hW', trodAll_mk1 (shut_bool Try.underlying4 _), (trodAll_cons_mk (Below.trod laidOut (by kernel_rfl) (of_decide_eq_true (by kernel_rfl)) k0 bel lt0) (trodAll_cons_mk (Below.trod laidOut (by kernel_rfl) (of_decide_eq_true (by kernel_rfl)) k1 bel lt1) (trodAll_cons_mk (Below.trod laidOut (by kernel_rfl) (of_decide_eq_true (by kernel_rfl)) k2 bel lt2) trodAll_mk0))), rfl, bel.frame _, fun h => by cases h⟩
theorem over : Rows.joinMoreRow.holds Try.pinned (OpenSpec.ofChange Rows.joinMoreSpec) :=
  OpenClaim.holds_of_wide 4 Try.f4 rfl rfl rfl rfl rfl rfl rfl ⟨rfl, rfl, rfl, rfl, rfl⟩ rfl rfl rfl rfl rfl (by kernel_rfl) Try.func4 (by kernel_rfl)
    (of_decide_eq_true (by kernel_rfl)) (by unfold Func.isWrapper; first | (rw [if_pos (by decide +kernel)]; kernel_rfl) | (rw [if_neg (by decide +kernel)]; exact ⟨rfl, rfl⟩))
    (fun os started H enc _ => lifted os started H enc)
theorem proved : Rows.JoinMoreSaid := over
end Go.Proofs.Ytakkjljhjfkkbaa.joinMore
namespace Go.Proofs.Ytakkjljhjfkkbaa
/-- The row, under a short name, for the claim. -/
theorem joinMore_holds : Rows.JoinMoreSaid := joinMore.proved
end Go.Proofs.Ytakkjljhjfkkbaa
