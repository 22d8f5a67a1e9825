/- ValCuts: whatever the input, the law returns true, and the input reads as it did.
Condition: the listed package-level variables start as the program's text lays them; the card ties them to that text. -/
import Derived.Test.YtdlendioamiagaaDoorRows
import Derived.Test.YtdlendioamiagaaDoorCards
import Derived.Test.YtdlendioamiagaaDoorTie
import Derived.Test.YtdlendioamiagaaDoorQ8
import Derived.JoinedOf
import Derived.JoinedAt
import Derived.RowKit3
import Derived.RowKitTokens
import Derived.ChangeSame
import Derived.ChangeVars
import Derived.SevenTiedAt
import Derived.ProofKit
import Derived.LaidOnce
namespace Go.Proofs.YtdlendioamiagaaDoor.valCuts
open Go Go.Gw Go.Vl Go.ChangeShapes Go.WideShapes Go.ChangeAt Go.RowKit
open Go.ChangeMaps (open_string shut_string)
set_option linter.unusedVariables false
set_option linter.unusedSimpArgs false
theorem own : ownKnob Tryd.prog.godebug = none := by kernel_rfl
theorem laidOut : laidOutB Tryd.prog = true := by kernel_rfl
set_option maxRecDepth 100000 in
theorem lifted (os : Os) (started : os.Started) (H : Type) (enc : TypeId × Value → H) :
    ReturnsInHanded {} Tryd.checked os 6 .any (fun w args => (Rows.valCutsSpec.pre enc Tryd.prog Tryd.f6 Rows.valCutsRow.domain false w args ∧ laidMetH Tryd.prog laidL w) ∧ sizedMet enc Tryd.prog Tryd.f6 (OpenSpec.ofChange Rows.valCutsSpec) false w args) (Rows.valCutsSpec.post enc Tryd.prog Tryd.f6 false true false false) := by
  refine returns_shaped (C := Tryd.checked) (X := fun w _ => laidMetH Tryd.prog laidL w) (fun _ _ _ hh h => h.of_heap hh) own started (by kernel_rfl) Tryd.func6
    (ChangeSpec.witness_shaped (enc := enc) (C := Tryd.checked) (os := os) (X := fun w _ => laidMetH Tryd.prog laidL w) false (World.laidAll Tryd.prog os laidL) #[.string ByteArray.empty, .int .i64 0, .int .i64 0] 8 (World.laidAll_os _ _ _) (shp os) (by kernel_rfl) (by kernel_rfl) (by kernel_rfl) (by rw [plain_all]; exact met os _)) ?_
  intro W base args ds gs before hShape hval0 hW _ hsz0 hL
  have hsz : (DataW.weightsEach Tryd.prog (Tryd.f6.params.toList ++ Rows.valCutsSpec.plain.varTypes Tryd.prog) (ds ++ gs)).all (· ≤ reachBytes) = true := hsz0
  have hval : ∀ (j : Nat) t v, Tryd.f6.params[j]? = some t → args[j]? = some v → Value.okWide Tryd.prog W .any base t v := hval0
  have hW' := hW
  obtain ⟨p, q, hA0, hV, rfl, hfz, hnd⟩ := hW
  have hA : DataW.TrodAll enc Tryd.prog W 0 (fun _ => true) true Tryd.f6.params.toList args.toList ds p := hA0
  rw [Tryd.params6] at hA hval hsz
  rw [plain_all] at hL
  have hVars := vars_of hShape hL
  obtain ⟨v0, vs0, d0, ds0, p0, q0, hargs, rfl, rfl, h0, r0⟩ := trodAll_cons hA
  obtain ⟨v1, vs1, d1, ds1, p1, q1, rfl, rfl, rfl, h1, r1⟩ := trodAll_cons r0
  obtain ⟨v2, vs2, d2, ds2, p2, q2, rfl, rfl, rfl, h2, r2⟩ := trodAll_cons r1
  obtain ⟨rfl, rfl, rfl⟩ := trodAll_nil r2
  obtain rfl : args = #[v0, v1, v2] := by cases args; simp_all
  obtain ⟨rfl, rfl⟩ := trodVars_none hV
  have hrb : reachBytes = 140737488351232 := by decide
  obtain ⟨s0, rfl, rfl, rfl, y0⟩ := open_string Tryd.underlying9 (hval 0 9 v0 rfl rfl) h0
  have w0 : s0.data.toList.length ≤ 140737488351232 := by
    rw [← hrb]
    exact sized_string hsz (j := 0) (t := 9) rfl rfl
  obtain ⟨x1, rfl, rfl, rfl, w1⟩ := open_int Tryd.underlying3 (hval 1 3 v1 rfl rfl) h1
  have wf1 : IntKind.i64.min ≤ x1 ∧ x1 ≤ IntKind.i64.max := by simpa [Lit.wf] using w1
  simp [IntKind.min, IntKind.max, IntKind.signed, IntKind.bits] at wf1
  obtain ⟨x2, rfl, rfl, rfl, w2⟩ := open_int Tryd.underlying3 (hval 2 3 v2 rfl rfl) h2
  have wf2 : IntKind.i64.min ≤ x2 ∧ x2 ≤ IntKind.i64.max := by simpa [Lit.wf] using w2
  simp [IntKind.min, IntKind.max, IntKind.signed, IntKind.bits] at wf2
  have hmax : (140737488351232 : Nat) ≤ maxLen := by decide
  refine (ctM_row W (ValCuts_fn _ x1 x2 hVars (by omega) (by omega) (by omega)) (args := [_, _, _]) ⟨(congrArg Value.string (bs_of s0).symm), ⟨rfl, ⟨rfl, trivial⟩⟩⟩).mono fun e W' ⟨he, bel⟩ => ?_
  subst he
  exact ⟨_, rfl, _, _, _, [], _, [], hW', trodAll_mk1 (shut_bool Tryd.underlying4 _), (trodAll_cons_mk (shut_string Tryd.underlying9 y0) (trodAll_cons_mk (shut_int Tryd.underlying3 w1) (trodAll_cons_mk (shut_int Tryd.underlying3 w2) trodAll_mk0))), rfl, bel.frame _, fun h => by cases h⟩
theorem over : Rows.valCutsRow.holds Tryd.pinned (OpenSpec.ofChange Rows.valCutsSpec) :=
  OpenClaim.holds_of_wide 6 Tryd.f6 rfl rfl rfl rfl rfl rfl rfl ⟨rfl, rfl, rfl, rfl, rfl⟩ rfl rfl rfl rfl rfl (by kernel_rfl) Tryd.func6 (by kernel_rfl)
    (of_decide_eq_true (by kernel_rfl)) (by unfold Func.isWrapper; first | (rw [if_pos (by decide +kernel)]; kernel_rfl) | (rw [if_neg (by decide +kernel)]; exact ⟨rfl, rfl⟩))
    (fun os started H enc _ => lifted os started H enc)
theorem proved : Rows.ValCutsSaid := over
theorem card : Rows.ValCutsCardSaid :=
  Claim7.holds_tied_plain_at .later [] [.data, .data, .data, .data, .sentinel, .sentinel, .pinned] true (true, "6011a5f51ddfc4ffe2a909bdcc23fb0ade6000b3086d5acbd52ad68ab6786ef7") true over (fun _ h => by cases h) (by kernel_rfl) (fun _ h => by cases h) valCuts_row_tie rfl ⟨rfl, rfl⟩ (by kernel_rfl) rfl
    (fun f fn hf hfn => by
      obtain rfl : f = 6 := Option.some.inj ((show Tryd.prog.funcNamed Rows.valCutsRow.func = some 6 by kernel_rfl).symm.trans hf) |>.symm
      obtain rfl : fn = Tryd.f6 := (Option.some.inj (Tryd.func6.symm.trans hfn)).symm
      exact ⟨by kernel_rfl, fun j t ht => by
        rw [Tryd.params6] at ht
        have hm : t ∈ [9, 3, 3] := by simpa using Array.mem_of_getElem? ht
        have hall : ([9, 3, 3].all fun u => !Tryd.prog.wantsStandIn u) = true := by kernel_rfl
        exact (show Tryd.prog.wantsStandIn t = false by simpa using List.all_eq_true.1 hall t hm)⟩)
    (by kernel_rfl)
end Go.Proofs.YtdlendioamiagaaDoor.valCuts
namespace Go.Proofs.YtdlendioamiagaaDoor
/-- The card, under a short name, for the claim. -/
theorem valCuts_holds : Rows.ValCutsCardSaid := valCuts.card
end Go.Proofs.YtdlendioamiagaaDoor
