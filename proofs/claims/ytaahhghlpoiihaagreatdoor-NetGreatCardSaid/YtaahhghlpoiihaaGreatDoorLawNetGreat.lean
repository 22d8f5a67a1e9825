/- NetGreat: whatever the input, the law returns true, and the input reads as it did.
Condition: the listed package-level variables start as the program's text lays them; the card ties them to that text. -/
import Derived.Test.YtaahhghlpoiihaaGreatDoorRows
import Derived.Test.YtaahhghlpoiihaaGreatDoorCards
import Derived.Test.YtaahhghlpoiihaaGreatDoorTie
import Derived.Test.YtaahhghlpoiihaaGreatDoorQ9
import Derived.Test.YtaahhghlpoiihaaGreatDoorQ7
import Derived.Test.YtaahhghlpoiihaaGreatDoorQ1
import Derived.JoinedOf
import Derived.JoinedAt
import Derived.RowKit3
import Derived.RowKitTokens
import Derived.ChangeSame
import Derived.ChangeVars
import Derived.SevenTiedAt
import Derived.ProofKit
import Derived.LaidOnce
namespace Go.Proofs.YtaahhghlpoiihaaGreatDoor.netGreat
open Go Go.Gw Go.So Go.Tu Go.Nt Go.ChangeShapes Go.WideShapes Go.ChangeAt Go.RowKit
open Go.ChangeMaps (open_string shut_string)
set_option linter.unusedVariables false
set_option linter.unusedSimpArgs false
theorem own : ownKnob Tryz.prog.godebug = none := by kernel_rfl
theorem laidOut : laidOutB Tryz.prog = true := by kernel_rfl
set_option maxRecDepth 100000 in
theorem lifted (os : Os) (started : os.Started) (H : Type) (enc : TypeId × Value → H) :
    ReturnsInHanded {} Tryz.checked os 4 .any (fun w args => (Rows.netGreatSpec.pre enc Tryz.prog Tryz.f4 Rows.netGreatRow.domain false w args ∧ laidMetH Tryz.prog laidL w) ∧ sizedMet enc Tryz.prog Tryz.f4 (OpenSpec.ofChange Rows.netGreatSpec) false w args) (Rows.netGreatSpec.post enc Tryz.prog Tryz.f4 false true false false) := by
  refine returns_shaped (C := Tryz.checked) (X := fun w _ => laidMetH Tryz.prog laidL w) (fun _ _ _ hh h => h.of_heap hh) own started (by kernel_rfl) Tryz.func4
    (ChangeSpec.witness_shaped (enc := enc) (C := Tryz.checked) (os := os) (X := fun w _ => laidMetH Tryz.prog laidL w) false (World.laidAll Tryz.prog os laidL) #[.int .i64 0] 8 (World.laidAll_os _ _ _) (shp os) (by kernel_rfl) (by kernel_rfl) (by kernel_rfl) (by rw [plain_all]; exact met os _)) ?_
  intro W base args ds gs before hShape hval0 hW _ hsz0 hL
  have hsz : (DataW.weightsEach Tryz.prog (Tryz.f4.params.toList ++ Rows.netGreatSpec.plain.varTypes Tryz.prog) (ds ++ gs)).all (· ≤ reachBytes) = true := hsz0
  have hval : ∀ (j : Nat) t v, Tryz.f4.params[j]? = some t → args[j]? = some v → Value.okWide Tryz.prog W .any base t v := hval0
  have hW' := hW
  obtain ⟨p, q, hA0, hV, rfl, hfz, hnd⟩ := hW
  have hA : DataW.TrodAll enc Tryz.prog W 0 (fun _ => true) true Tryz.f4.params.toList args.toList ds p := hA0
  rw [Tryz.params4] at hA hval hsz
  rw [plain_all] at hL
  have hVars := vars_of hShape hL
  obtain ⟨v0, vs0, d0, ds0, p0, q0, hargs, rfl, rfl, h0, r0⟩ := trodAll_cons hA
  obtain ⟨rfl, rfl, rfl⟩ := trodAll_nil r0
  obtain rfl : args = #[v0] := by cases args; simp_all
  obtain ⟨rfl, rfl⟩ := trodVars_none hV
  have hrb : reachBytes = 140737488351232 := by decide
  obtain ⟨x0, rfl, rfl, rfl, w0⟩ := open_int Tryz.underlying3 (hval 0 3 v0 rfl rfl) h0
  have wf0 : IntKind.i64.min ≤ x0 ∧ x0 ≤ IntKind.i64.max := by simpa [Lit.wf] using w0
  simp [IntKind.min, IntKind.max, IntKind.signed, IntKind.bits] at wf0
  have hmax : (140737488351232 : Nat) ≤ maxLen := by decide
  refine (ctM_row W ((NetGreat_fn x0).toM) (args := [_]) ⟨rfl, trivial⟩).mono fun e W' ⟨he, bel⟩ => ?_
  subst he
  exact ⟨_, rfl, _, _, _, [], _, [], hW', trodAll_mk1 (shut_bool Tryz.underlying4 _), (trodAll_cons_mk (shut_int Tryz.underlying3 w0) trodAll_mk0), rfl, bel.frame _, fun h => by cases h⟩
theorem over : Rows.netGreatRow.holds Tryz.pinned (OpenSpec.ofChange Rows.netGreatSpec) :=
  OpenClaim.holds_of_wide 4 Tryz.f4 rfl rfl rfl rfl rfl rfl rfl ⟨rfl, rfl, rfl, rfl, rfl⟩ rfl rfl rfl rfl rfl (by kernel_rfl) Tryz.func4 (by kernel_rfl)
    (of_decide_eq_true (by kernel_rfl)) (by unfold Func.isWrapper; first | (rw [if_pos (by decide +kernel)]; kernel_rfl) | (rw [if_neg (by decide +kernel)]; exact ⟨rfl, rfl⟩))
    (fun os started H enc _ => lifted os started H enc)
theorem proved : Rows.NetGreatSaid := over
theorem card : Rows.NetGreatCardSaid :=
  Claim7.holds_tied_plain_at .later [] [.data, .pinned] true (true, "9854bb51b919f7cf85b6ca0bccb2eecf1c0dc6069bf2a399c81c07748162a02a") false over (fun _ h => by cases h) (by kernel_rfl) (fun _ h => by cases h) netGreat_row_tie rfl ⟨rfl, rfl⟩ (by kernel_rfl) rfl
    (fun f fn hf hfn => by
      obtain rfl : f = 4 := Option.some.inj ((show Tryz.prog.funcNamed Rows.netGreatRow.func = some 4 by kernel_rfl).symm.trans hf) |>.symm
      obtain rfl : fn = Tryz.f4 := (Option.some.inj (Tryz.func4.symm.trans hfn)).symm
      exact ⟨by kernel_rfl, fun j t ht => by
        rw [Tryz.params4] at ht
        have hm : t ∈ [3] := by simpa using Array.mem_of_getElem? ht
        have hall : ([3].all fun u => !Tryz.prog.wantsStandIn u) = true := by kernel_rfl
        exact (show Tryz.prog.wantsStandIn t = false by simpa using List.all_eq_true.1 hall t hm)⟩)
    (by kernel_rfl)
end Go.Proofs.YtaahhghlpoiihaaGreatDoor.netGreat
namespace Go.Proofs.YtaahhghlpoiihaaGreatDoor
/-- The card, under a short name, for the claim. -/
theorem netGreat_holds : Rows.NetGreatCardSaid := netGreat.card
end Go.Proofs.YtaahhghlpoiihaaGreatDoor
