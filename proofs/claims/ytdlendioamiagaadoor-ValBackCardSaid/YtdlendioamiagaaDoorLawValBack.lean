/- ValBack: whatever the input, the law returns true, and the input reads as it did.
Condition: the listed package-level variables start as the program's text lays them; the card ties them to that text. -/
import Derived.Test.YtdlendioamiagaaDoorRows
import Derived.Test.YtdlendioamiagaaDoorCards
import Derived.Test.YtdlendioamiagaaDoorTie
import Derived.Test.YtdlendioamiagaaDoorQ8
import Derived.JoinedOf
import Derived.JoinedAt
import Derived.RowKit3
import Derived.RowKitTokens
import Derived.ChangeSame
import Derived.ChangeVars
import Derived.SevenTiedAt
import Derived.ProofKit
import Derived.LaidOnce
namespace Go.Proofs.YtdlendioamiagaaDoor.valBack
open Go Go.Gw Go.Vl Go.ChangeShapes Go.WideShapes Go.ChangeAt Go.RowKit
open Go.ChangeMaps (open_string shut_string)
set_option linter.unusedVariables false
set_option linter.unusedSimpArgs false
theorem own : ownKnob Tryd.prog.godebug = none := by kernel_rfl
theorem laidOut : laidOutB Tryd.prog = true := by kernel_rfl
set_option maxRecDepth 100000 in
theorem lifted (os : Os) (started : os.Started) (H : Type) (enc : TypeId × Value → H) :
    ReturnsInHanded {} Tryd.checked os 9 .any (fun w args => (Rows.valBackSpec.pre enc Tryd.prog Tryd.f9 Rows.valBackRow.domain false w args ∧ laidMetH Tryd.prog laidL w) ∧ sizedMet enc Tryd.prog Tryd.f9 (OpenSpec.ofChange Rows.valBackSpec) false w args) (Rows.valBackSpec.post enc Tryd.prog Tryd.f9 false true false false) := by
  refine returns_shaped (C := Tryd.checked) (X := fun w _ => laidMetH Tryd.prog laidL w) (fun _ _ _ hh h => h.of_heap hh) own started (by kernel_rfl) Tryd.func9
    (ChangeSpec.witness_shaped (enc := enc) (C := Tryd.checked) (os := os) (X := fun w _ => laidMetH Tryd.prog laidL w) false (World.laidAll Tryd.prog os laidL) #[.agg #[.int .i64 0, .int .i64 0, .string ByteArray.empty], .slice none 0 0] 8 (World.laidAll_os _ _ _) (shp os) (by kernel_rfl) (by kernel_rfl) (by kernel_rfl) (by rw [plain_all]; exact met os _)) ?_
  intro W base args ds gs before hShape hval0 hW _ hsz0 hL
  have hsz : (DataW.weightsEach Tryd.prog (Tryd.f9.params.toList ++ Rows.valBackSpec.plain.varTypes Tryd.prog) (ds ++ gs)).all (· ≤ reachBytes) = true := hsz0
  have hval : ∀ (j : Nat) t v, Tryd.f9.params[j]? = some t → args[j]? = some v → Value.okWide Tryd.prog W .any base t v := hval0
  have hW' := hW
  obtain ⟨p, q, hA0, hV, rfl, hfz, hnd⟩ := hW
  have hA : DataW.TrodAll enc Tryd.prog W 0 (fun _ => true) true Tryd.f9.params.toList args.toList ds p := hA0
  rw [Tryd.params9] at hA hval hsz
  rw [plain_all] at hL
  have hVars := vars_of hShape hL
  obtain ⟨v0, vs0, d0, ds0, p0, q0, hargs, rfl, rfl, h0, r0⟩ := trodAll_cons hA
  obtain ⟨v1, vs1, d1, ds1, p1, q1, rfl, rfl, rfl, h1, r1⟩ := trodAll_cons r0
  obtain ⟨rfl, rfl, rfl⟩ := trodAll_nil r1
  obtain rfl : args = #[v0, v1] := by cases args; simp_all
  obtain ⟨rfl, rfl⟩ := trodVars_none hV
  have hrb : reachBytes = 140737488351232 := by decide
  have k0 := h0
  have lt0 : ∀ x ∈ p0, x.block < W.heap.size := by obtain ⟨m, hm⟩ := k0; exact DataW.trod_lt m _ _ _ hm
  obtain ⟨cs0, rfl, cz0⟩ := okWide_struct Tryd.underlying23 (hval 0 23 v0 rfl rfl)
  obtain ⟨fuel0, hf0⟩ := h0
  obtain ⟨x0, hx0, good0⟩ := (opnw_struct3 (a := kint .i64) (b := kint .i64) (c := kS) Tryd.underlying23 (opn_int Tryd.underlying3).w (opn_int Tryd.underlying3).w (opnw_bs Tryd.underlying9) rfl rfl rfl (by kernel_rfl) (by kernel_rfl) (by kernel_rfl) (by kernel_rfl)) H enc W fuel0 _ _ hf0 (fun n hn => by simpa using List.all_eq_true.1 hsz n (DataW.weights_mem_each (j := 0) (t := 23) rfl rfl n hn))
  have k1 := h1
  have lt1 : ∀ x ∈ p1, x.block < W.heap.size := by obtain ⟨m, hm⟩ := k1; exact DataW.trod_lt m _ _ _ hm
  obtain ⟨a1, len1, cap1, rfl⟩ := okWide_slice Tryd.underlying26 (hval 1 26 v1 rfl rfl)
  obtain ⟨fuel1, hf1⟩ := h1
  obtain ⟨x1, hx1, good1⟩ := (opn_slice (d := kint .u8) (opn_int Tryd.underlying5) Tryd.underlying26 (by kernel_rfl) (by decide)).w H enc W fuel1 _ _ hf1 (fun n hn => by simpa using List.all_eq_true.1 hsz n (DataW.weights_mem_each (j := 1) (t := 26) rfl rfl n hn))
  obtain ⟨u1, hu1, sl1⟩ := hx1
  obtain rfl := List.singleton_inj.1 hu1
  have mx1 : x1.length ≤ maxLen := by obtain ⟨_, _, _, _, h, _⟩ := sl1; exact h
  obtain ⟨b1, rfl⟩ := nums_of (xs := x1) (fun x h => by have h9 := good1 x h; simp [Lit.wf, IntKind.min, IntKind.max, IntKind.signed, IntKind.bits] at h9; omega)
  have hmax : (140737488351232 : Nat) ≤ maxLen := by decide
  refine (ctM_row W (ValBack_fn x0 b1 hVars (by have h9 := good0.2.2; unfold reachBytes at h9; omega) (by have h9 := good0.2.1; simp [Lit.wf, IntKind.min, IntKind.max, IntKind.signed, IntKind.bits] at h9; omega) (by have h9 := good0.2.1; simp [Lit.wf, IntKind.min, IntKind.max, IntKind.signed, IntKind.bits] at h9; omega)) (args := [_, _]) ⟨(⟨_, hx0, rfl⟩), ⟨sl1, trivial⟩⟩).mono fun e W' ⟨he, bel⟩ => ?_
  subst he
  exact ⟨_, rfl, _, _, _, [], _, [], hW', trodAll_mk1 (shut_bool Tryd.underlying4 _), (trodAll_cons_mk (Below.trod laidOut (by kernel_rfl) (of_decide_eq_true (by kernel_rfl)) k0 bel lt0) (trodAll_cons_mk (Below.trod laidOut (by kernel_rfl) (of_decide_eq_true (by kernel_rfl)) k1 bel lt1) trodAll_mk0)), rfl, bel.frame _, fun h => by cases h⟩
theorem over : Rows.valBackRow.holds Tryd.pinned (OpenSpec.ofChange Rows.valBackSpec) :=
  OpenClaim.holds_of_wide 9 Tryd.f9 rfl rfl rfl rfl rfl rfl rfl ⟨rfl, rfl, rfl, rfl, rfl⟩ rfl rfl rfl rfl rfl (by kernel_rfl) Tryd.func9 (by kernel_rfl)
    (of_decide_eq_true (by kernel_rfl)) (by unfold Func.isWrapper; first | (rw [if_pos (by decide +kernel)]; kernel_rfl) | (rw [if_neg (by decide +kernel)]; exact ⟨rfl, rfl⟩))
    (fun os started H enc _ => lifted os started H enc)
theorem proved : Rows.ValBackSaid := over
theorem card : Rows.ValBackCardSaid :=
  Claim7.holds_tied_plain_at .later [] [.data, .data, .data, .data, .sentinel, .sentinel, .pinned] true (true, "6011a5f51ddfc4ffe2a909bdcc23fb0ade6000b3086d5acbd52ad68ab6786ef7") true over (fun _ h => by cases h) (by kernel_rfl) (fun _ h => by cases h) valBack_row_tie rfl ⟨rfl, rfl⟩ (by kernel_rfl) rfl
    (fun f fn hf hfn => by
      obtain rfl : f = 9 := Option.some.inj ((show Tryd.prog.funcNamed Rows.valBackRow.func = some 9 by kernel_rfl).symm.trans hf) |>.symm
      obtain rfl : fn = Tryd.f9 := (Option.some.inj (Tryd.func9.symm.trans hfn)).symm
      exact ⟨by kernel_rfl, fun j t ht => by
        rw [Tryd.params9] at ht
        have hm : t ∈ [23, 26] := by simpa using Array.mem_of_getElem? ht
        have hall : ([23, 26].all fun u => !Tryd.prog.wantsStandIn u) = true := by kernel_rfl
        exact (show Tryd.prog.wantsStandIn t = false by simpa using List.all_eq_true.1 hall t hm)⟩)
    (by kernel_rfl)
end Go.Proofs.YtdlendioamiagaaDoor.valBack
namespace Go.Proofs.YtdlendioamiagaaDoor
/-- The card, under a short name, for the claim. -/
theorem valBack_holds : Rows.ValBackCardSaid := valBack.card
end Go.Proofs.YtdlendioamiagaaDoor
