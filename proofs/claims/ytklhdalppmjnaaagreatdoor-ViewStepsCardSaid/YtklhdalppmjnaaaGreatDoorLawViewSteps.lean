/- ViewSteps: whatever the input, the law returns true, and the input reads as it did.
Condition: the listed package-level variables start as the program's text lays them; the card ties them to that text. -/
import Derived.Test.YtklhdalppmjnaaaGreatDoorRows
import Derived.Test.YtklhdalppmjnaaaGreatDoorCards
import Derived.Test.YtklhdalppmjnaaaGreatDoorTie
import Derived.Test.YtklhdalppmjnaaaGreatDoorQ9
import Derived.Test.YtklhdalppmjnaaaGreatDoorQ1
import Derived.JoinedOf
import Derived.JoinedAt
import Derived.RowKit3
import Derived.RowKitTokens
import Derived.ChangeSame
import Derived.ChangeVars
import Derived.SevenTiedAt
import Derived.ProofKit
import Derived.LaidOnce
namespace Go.Proofs.YtklhdalppmjnaaaGreatDoor.viewSteps
open Go Go.Gw Go.So Go.Tu Go.Jn Go.ChangeShapes Go.WideShapes Go.ChangeAt Go.RowKit
open Go.ChangeMaps (open_string shut_string)
set_option linter.unusedVariables false
set_option linter.unusedSimpArgs false
theorem own : ownKnob Tryz.prog.godebug = none := by kernel_rfl
theorem laidOut : laidOutB Tryz.prog = true := by kernel_rfl
set_option maxRecDepth 100000 in
theorem lifted (os : Os) (started : os.Started) (H : Type) (enc : TypeId × Value → H) :
    ReturnsInHanded {} Tryz.checked os 4 .any (fun w args => (Rows.viewStepsSpec.pre enc Tryz.prog Tryz.f4 Rows.viewStepsRow.domain false w args ∧ laidMetH Tryz.prog laidL w) ∧ sizedMet enc Tryz.prog Tryz.f4 (OpenSpec.ofChange Rows.viewStepsSpec) false w args) (Rows.viewStepsSpec.post enc Tryz.prog Tryz.f4 false true false false) := by
  refine returns_shaped (C := Tryz.checked) (X := fun w _ => laidMetH Tryz.prog laidL w) (fun _ _ _ hh h => h.of_heap hh) own started (by kernel_rfl) Tryz.func4
    (ChangeSpec.witness_shaped (enc := enc) (C := Tryz.checked) (os := os) (X := fun w _ => laidMetH Tryz.prog laidL w) false (World.laidAll Tryz.prog os laidL) #[.slice none 0 0] 8 (World.laidAll_os _ _ _) (shp os) (by kernel_rfl) (by kernel_rfl) (by kernel_rfl) (by rw [plain_all]; exact met os _)) ?_
  intro W base args ds gs before hShape hval0 hW _ hsz0 hL
  have hsz : (DataW.weightsEach Tryz.prog (Tryz.f4.params.toList ++ Rows.viewStepsSpec.plain.varTypes Tryz.prog) (ds ++ gs)).all (· ≤ reachBytes) = true := hsz0
  have hval : ∀ (j : Nat) t v, Tryz.f4.params[j]? = some t → args[j]? = some v → Value.okWide Tryz.prog W .any base t v := hval0
  have hW' := hW
  obtain ⟨p, q, hA0, hV, rfl, hfz, hnd⟩ := hW
  have hA : DataW.TrodAll enc Tryz.prog W 0 (fun _ => true) true Tryz.f4.params.toList args.toList ds p := hA0
  rw [Tryz.params4] at hA hval hsz
  rw [plain_all] at hL
  have hVars := vars_of hShape hL
  obtain ⟨v0, vs0, d0, ds0, p0, q0, hargs, rfl, rfl, h0, r0⟩ := trodAll_cons hA
  obtain ⟨rfl, rfl, rfl⟩ := trodAll_nil r0
  obtain rfl : args = #[v0] := by cases args; simp_all
  obtain ⟨rfl, rfl⟩ := trodVars_none hV
  have hrb : reachBytes = 140737488351232 := by decide
  have k0 := h0
  have lt0 : ∀ x ∈ p0, x.block < W.heap.size := by obtain ⟨m, hm⟩ := k0; exact DataW.trod_lt m _ _ _ hm
  obtain ⟨a0, len0, cap0, rfl⟩ := okWide_slice Tryz.underlying26 (hval 0 26 v0 rfl rfl)
  obtain ⟨fuel0, hf0⟩ := h0
  obtain ⟨x0, hx0, good0⟩ := (opn_slice (d := kE) (opn_struct3g (a := kint .i64) (b := kS) (c := kint .i64) Tryz.underlying42 (opn_int Tryz.underlying3) (opn_bs Tryz.underlying9) (opn_int Tryz.underlying3) rfl rfl rfl (by kernel_rfl) (by kernel_rfl) (by kernel_rfl) (by kernel_rfl)) Tryz.underlying26 (by kernel_rfl) (by decide)).w H enc W fuel0 _ _ hf0 (fun n hn => by simpa using List.all_eq_true.1 hsz n (DataW.weights_mem_each (j := 0) (t := 26) rfl rfl n hn))
  obtain ⟨u0, hu0, sl0⟩ := hx0
  obtain rfl := List.singleton_inj.1 hu0
  have mx0 : x0.length ≤ maxLen := by obtain ⟨_, _, _, _, h, _⟩ := sl0; exact h
  have sz0 : x0.length * 32 ≤ 140737488351232 := by
    have e := sized_len hsz (B := 32) (j := 0) (t := 26) rfl rfl Tryz.underlying26 (by kernel_rfl) k0
    obtain ⟨_, _, e2, _⟩ := sl0; cases e2; exact e
  have hmax : (140737488351232 : Nat) ≤ maxLen := by decide
  refine (ctM_row W ((ViewSteps_fn x0 (by omega) (fun e he => by unfold in64; have h9 : (Lit.int .i64 e.1).wf = true ∧ True ∧ (Lit.int .i64 e.2.2).wf = true := good0 e he; simp [Lit.wf, IntKind.min, IntKind.max, IntKind.signed, IntKind.bits] at h9; omega)).toM) (args := [_]) ⟨sl0, trivial⟩).mono fun e W' ⟨he, bel⟩ => ?_
  subst he
  exact ⟨_, rfl, _, _, _, [], _, [], hW', trodAll_mk1 (shut_bool Tryz.underlying4 _), (trodAll_cons_mk (Below.trod laidOut (by kernel_rfl) (of_decide_eq_true (by kernel_rfl)) k0 bel lt0) trodAll_mk0), rfl, bel.frame _, fun h => by cases h⟩
theorem over : Rows.viewStepsRow.holds Tryz.pinned (OpenSpec.ofChange Rows.viewStepsSpec) :=
  OpenClaim.holds_of_wide 4 Tryz.f4 rfl rfl rfl rfl rfl rfl rfl ⟨rfl, rfl, rfl, rfl, rfl⟩ rfl rfl rfl rfl rfl (by kernel_rfl) Tryz.func4 (by kernel_rfl)
    (of_decide_eq_true (by kernel_rfl)) (by unfold Func.isWrapper; first | (rw [if_pos (by decide +kernel)]; kernel_rfl) | (rw [if_neg (by decide +kernel)]; exact ⟨rfl, rfl⟩))
    (fun os started H enc _ => lifted os started H enc)
theorem proved : Rows.ViewStepsSaid := over
theorem card : Rows.ViewStepsCardSaid :=
  Claim7.holds_tied_plain_at .later [] [.data, .pinned] true (true, "67f1b5a45b8cb2554793b894757c6b013340c4294ac2e23ef17c7c9c87daf13c") true over (fun _ h => by cases h) (by kernel_rfl) (fun _ h => by cases h) viewSteps_row_tie rfl ⟨rfl, rfl⟩ (by kernel_rfl) rfl
    (fun f fn hf hfn => by
      obtain rfl : f = 4 := Option.some.inj ((show Tryz.prog.funcNamed Rows.viewStepsRow.func = some 4 by kernel_rfl).symm.trans hf) |>.symm
      obtain rfl : fn = Tryz.f4 := (Option.some.inj (Tryz.func4.symm.trans hfn)).symm
      exact ⟨by kernel_rfl, fun j t ht => by
        rw [Tryz.params4] at ht
        have hm : t ∈ [26] := by simpa using Array.mem_of_getElem? ht
        have hall : ([26].all fun u => !Tryz.prog.wantsStandIn u) = true := by kernel_rfl
        exact (show Tryz.prog.wantsStandIn t = false by simpa using List.all_eq_true.1 hall t hm)⟩)
    (by kernel_rfl)
end Go.Proofs.YtklhdalppmjnaaaGreatDoor.viewSteps
namespace Go.Proofs.YtklhdalppmjnaaaGreatDoor
/-- The card, under a short name, for the claim. -/
theorem viewSteps_holds : Rows.ViewStepsCardSaid := viewSteps.card
end Go.Proofs.YtklhdalppmjnaaaGreatDoor
