/- ViewDeltas: whatever the input, the law returns true, and the input reads as it did.
Condition: the listed package-level variables start as the program's text lays them; the card ties them to that text. -/
import Derived.Test.YtklhdalppmjnaaaGreatDoorRows
import Derived.Test.YtklhdalppmjnaaaGreatDoorCards
import Derived.Test.YtklhdalppmjnaaaGreatDoorTie
import Derived.Test.YtklhdalppmjnaaaGreatDoorQ15
import Derived.Test.YtklhdalppmjnaaaGreatDoorQ16
import Derived.Test.YtklhdalppmjnaaaGreatDoorQ1
import Derived.JoinedOf
import Derived.JoinedAt
import Derived.RowKit3
import Derived.RowKitTokens
import Derived.ChangeSame
import Derived.ChangeVars
import Derived.SevenTiedAt
import Derived.ProofKit
import Derived.LaidOnce
namespace Go.Proofs.YtklhdalppmjnaaaGreatDoor.viewDeltas
open Go Go.Gw Go.So Go.Tu Go.Jn Go.ChangeShapes Go.WideShapes Go.ChangeAt Go.RowKit
open Go.ChangeMaps (open_string shut_string)
set_option linter.unusedVariables false
set_option linter.unusedSimpArgs false
theorem own : ownKnob Tryz.prog.godebug = none := by kernel_rfl
theorem laidOut : laidOutB Tryz.prog = true := by kernel_rfl
set_option maxRecDepth 100000 in
theorem lifted (os : Os) (started : os.Started) (H : Type) (enc : TypeId × Value → H) :
    ReturnsInHanded {} Tryz.checked os 7 .any (fun w args => (Rows.viewDeltasSpec.pre enc Tryz.prog Tryz.f7 Rows.viewDeltasRow.domain false w args ∧ laidMetH Tryz.prog Qj4 w) ∧ sizedMet enc Tryz.prog Tryz.f7 (OpenSpec.ofChange Rows.viewDeltasSpec) false w args) (Rows.viewDeltasSpec.post enc Tryz.prog Tryz.f7 false true false false) := by
  refine Qvj (C := Tryz.checked) (X := fun w _ => laidMetH Tryz.prog Qj4 w) (fun _ _ _ hh h => h.of_heap hh) own started (by kernel_rfl) Tryz.func7
    (ChangeSpec.witness_shaped (enc := enc) (C := Tryz.checked) (os := os) (X := fun w _ => laidMetH Tryz.prog Qj4 w) false (World.laidAll Tryz.prog os Qj4) #[.agg #[.string ByteArray.empty, .int .i64 0, .slice none 0 0, .slice none 0 0, .string ByteArray.empty], .slice none 0 0, .slice none 0 0] 8 (World.laidAll_os _ _ _) (shp os) (by kernel_rfl) (by kernel_rfl) (by kernel_rfl) (by rw [Q4l]; exact met os _)) ?_
  intro W base args ds gs before hShape hval0 hW _ hsz0 hL
  have hsz : (DataW.weightsEach Tryz.prog (Tryz.f7.params.toList ++ Rows.viewDeltasSpec.plain.varTypes Tryz.prog) (ds ++ gs)).all (· ≤ reachBytes) = true := hsz0
  have hval : ∀ (j : Nat) t v, Tryz.f7.params[j]? = some t → args[j]? = some v → Value.okWide Tryz.prog W .any base t v := hval0
  have hW' := hW
  obtain ⟨p, q, hA0, hV, rfl, hfz, hnd⟩ := hW
  have hA : DataW.TrodAll enc Tryz.prog W 0 (fun _ => true) true Tryz.f7.params.toList args.toList ds p := hA0
  rw [Tryz.params7] at hA hval hsz
  rw [Q4l] at hL
  have hVars := Q5o hShape hL
  obtain ⟨v0, vs0, d0, ds0, p0, q0, hargs, rfl, rfl, h0, r0⟩ := trodAll_cons hA
  obtain ⟨v1, vs1, d1, ds1, p1, q1, rfl, rfl, rfl, h1, r1⟩ := trodAll_cons r0
  obtain ⟨v2, vs2, d2, ds2, p2, q2, rfl, rfl, rfl, h2, r2⟩ := trodAll_cons r1
  obtain ⟨rfl, rfl, rfl⟩ := trodAll_nil r2
  obtain rfl : args = #[v0, v1, v2] := by cases args; simp_all
  obtain ⟨rfl, rfl⟩ := trodVars_none hV
  have hrb : reachBytes = 140737488351232 := by decide
  have k0 := h0
  have lt0 : ∀ x ∈ p0, x.block < W.heap.size := by obtain ⟨m, hm⟩ := k0; exact DataW.trod_lt m _ _ _ hm
  obtain ⟨cs0, rfl, cz0⟩ := okWide_struct Tryz.underlying25 (hval 0 25 v0 rfl rfl)
  obtain ⟨fuel0, hf0⟩ := h0
  obtain ⟨x0, hx0, good0⟩ := (Q1c (a := kS) (b := Jw .i64) (c := ksl kS) (d := ksl kA) (e := kS) Tryz.underlying25 (Q5n Tryz.underlying9) (Q5l Tryz.underlying3).w (Q4j (d := kS) (Q51 Tryz.underlying9) Tryz.underlying22 (by kernel_rfl) (by decide)).w (Q4j (d := kA) (Q2o (a := kS) (b := kS) (c := kS) Tryz.underlying49 (Q51 Tryz.underlying9) (Q51 Tryz.underlying9) (Q51 Tryz.underlying9) rfl rfl rfl (by kernel_rfl) (by kernel_rfl) (by kernel_rfl) (by kernel_rfl)) Tryz.underlying23 (by kernel_rfl) (by decide)).w (Q5n Tryz.underlying9) rfl rfl rfl rfl rfl (by kernel_rfl) (by kernel_rfl) (by kernel_rfl) (by kernel_rfl) (by kernel_rfl) (by kernel_rfl)) H enc W fuel0 _ _ hf0 (fun n hn => by simpa using List.all_eq_true.1 hsz n (DataW.weights_mem_each (j := 0) (t := 25) rfl rfl n hn))
  have k1 := h1
  have lt1 : ∀ x ∈ p1, x.block < W.heap.size := by obtain ⟨m, hm⟩ := k1; exact DataW.trod_lt m _ _ _ hm
  obtain ⟨a1, len1, cap1, rfl⟩ := okWide_slice Tryz.underlying26 (hval 1 26 v1 rfl rfl)
  obtain ⟨fuel1, hf1⟩ := h1
  obtain ⟨x1, hx1, good1⟩ := (Q4j (d := kE) (Q1a (a := Jw .i64) (b := kS) (c := Jw .i64) Tryz.underlying42 (Q5l Tryz.underlying3) (Q51 Tryz.underlying9) (Q5l Tryz.underlying3) rfl rfl rfl (by kernel_rfl) (by kernel_rfl) (by kernel_rfl) (by kernel_rfl)) Tryz.underlying26 (by kernel_rfl) (by decide)).w H enc W fuel1 _ _ hf1 (fun n hn => by simpa using List.all_eq_true.1 hsz n (DataW.weights_mem_each (j := 1) (t := 26) rfl rfl n hn))
  obtain ⟨u1, hu1, sl1⟩ := hx1
  obtain rfl := List.singleton_inj.1 hu1
  have mx1 : x1.length ≤ maxLen := by obtain ⟨_, _, _, _, h, _⟩ := sl1; exact h
  have sz1 : x1.length * 32 ≤ 140737488351232 := by
    have e := Q4k hsz (B := 32) (j := 1) (t := 26) rfl rfl Tryz.underlying26 (by kernel_rfl) k1
    obtain ⟨_, _, e2, _⟩ := sl1; cases e2; exact e
  have k2 := h2
  have lt2 : ∀ x ∈ p2, x.block < W.heap.size := by obtain ⟨m, hm⟩ := k2; exact DataW.trod_lt m _ _ _ hm
  obtain ⟨a2, len2, cap2, rfl⟩ := okWide_slice Tryz.underlying31 (hval 2 31 v2 rfl rfl)
  obtain ⟨fuel2, hf2⟩ := h2
  obtain ⟨x2, hx2, good2⟩ := (Q3y (d := kSp) 48 (Q1b (a := ksl kE) (b := ksl kE) Tryz.underlying28 (Q3y (d := kE) 32 (Q1a (a := Jw .i64) (b := kS) (c := Jw .i64) Tryz.underlying42 (Q5l Tryz.underlying3) (Q51 Tryz.underlying9) (Q5l Tryz.underlying3) rfl rfl rfl (by kernel_rfl) (by kernel_rfl) (by kernel_rfl) (by kernel_rfl)).w Tryz.underlying26 (by kernel_rfl) (by kernel_rfl) (by decide)) (Q3y (d := kE) 32 (Q1a (a := Jw .i64) (b := kS) (c := Jw .i64) Tryz.underlying42 (Q5l Tryz.underlying3) (Q51 Tryz.underlying9) (Q5l Tryz.underlying3) rfl rfl rfl (by kernel_rfl) (by kernel_rfl) (by kernel_rfl) (by kernel_rfl)).w Tryz.underlying26 (by kernel_rfl) (by kernel_rfl) (by decide)) rfl rfl (by kernel_rfl) (by kernel_rfl) (by kernel_rfl)) Tryz.underlying31 (by kernel_rfl) (by kernel_rfl) (by decide)) H enc W fuel2 _ _ hf2 (fun n hn => by simpa using List.all_eq_true.1 hsz n (DataW.weights_mem_each (j := 2) (t := 31) rfl rfl n hn))
  obtain ⟨u2, hu2, sl2⟩ := hx2
  obtain rfl := List.singleton_inj.1 hu2
  have mx2 : x2.length ≤ maxLen := by obtain ⟨_, _, _, _, h, _⟩ := sl2; exact h
  have sz2 : x2.length * 48 ≤ 140737488351232 := by
    have e := Q4k hsz (B := 48) (j := 2) (t := 31) rfl rfl Tryz.underlying31 (by kernel_rfl) k2
    obtain ⟨_, _, e2, _⟩ := sl2; cases e2; exact e
  have hmax : (140737488351232 : Nat) ≤ maxLen := by decide
  refine (Q5m W ((Qy1 x0 x1 x2 (by omega) (fun o ho => ⟨(by have h8 := (good2.1 o ho).1.2; rw [hrb] at h8; omega), (by have h8 := (good2.1 o ho).2.2; rw [hrb] at h8; omega)⟩) (by omega) (by have h8 := good0.1; rw [hrb] at h8; omega) (by have h8 := good0.2.2.2.2; rw [hrb] at h8; omega) (fun e he => by unfold Y8; have h9 : (Lit.int .i64 e.1).wf = true ∧ True ∧ (Lit.int .i64 e.2.2).wf = true := good1 e he; simp [Lit.wf, IntKind.min, IntKind.max, IntKind.signed, IntKind.bits] at h9; omega) (fun o ho => ⟨fun e he => by unfold Y8; have h9 : (Lit.int .i64 e.1).wf = true ∧ True ∧ (Lit.int .i64 e.2.2).wf = true := (good2.1 o ho).1.1 e he; simp [Lit.wf, IntKind.min, IntKind.max, IntKind.signed, IntKind.bits] at h9; omega, fun e he => by unfold Y8; have h9 : (Lit.int .i64 e.1).wf = true ∧ True ∧ (Lit.int .i64 e.2.2).wf = true := (good2.1 o ho).2.1 e he; simp [Lit.wf, IntKind.min, IntKind.max, IntKind.signed, IntKind.bits] at h9; omega⟩)).toM) (args := [_, _, _]) ⟨(⟨_, hx0, rfl⟩), ⟨sl1, ⟨sl2, trivial⟩⟩⟩).mono fun e W' ⟨he, bel⟩ => ?_
  subst he
  exact ⟨_, rfl, _, _, _, [], _, [], hW', trodAll_mk1 (shut_bool Tryz.underlying4 _), (trodAll_cons_mk (Below.trod laidOut (by kernel_rfl) (of_decide_eq_true (by kernel_rfl)) k0 bel lt0) (trodAll_cons_mk (Below.trod laidOut (by kernel_rfl) (of_decide_eq_true (by kernel_rfl)) k1 bel lt1) (trodAll_cons_mk (Below.trod laidOut (by kernel_rfl) (of_decide_eq_true (by kernel_rfl)) k2 bel lt2) trodAll_mk0))), rfl, bel.frame _, fun h => by cases h⟩
theorem over : Rows.viewDeltasRow.holds Tryz.pinned (OpenSpec.ofChange Rows.viewDeltasSpec) :=
  OpenClaim.holds_of_wide 7 Tryz.f7 rfl rfl rfl rfl rfl rfl rfl ⟨rfl, rfl, rfl, rfl, rfl⟩ rfl rfl rfl rfl rfl (by kernel_rfl) Tryz.func7 (by kernel_rfl)
    (of_decide_eq_true (by kernel_rfl)) (by unfold Func.isWrapper; first | (rw [if_pos (by decide +kernel)]; kernel_rfl) | (rw [if_neg (by decide +kernel)]; exact ⟨rfl, rfl⟩))
    (fun os started H enc _ => lifted os started H enc)
theorem proved : Rows.ViewDeltasSaid := over
theorem card : Rows.ViewDeltasCardSaid :=
  Claim7.holds_tied_plain_at .later [] [.data, .pinned] true (true, "67f1b5a45b8cb2554793b894757c6b013340c4294ac2e23ef17c7c9c87daf13c") true over (fun _ h => by cases h) (by kernel_rfl) (fun _ h => by cases h) viewDeltas_row_tie rfl ⟨rfl, rfl⟩ (by kernel_rfl) rfl
    (fun f fn hf hfn => by
      obtain rfl : f = 7 := Option.some.inj ((show Tryz.prog.funcNamed Rows.viewDeltasRow.func = some 7 by kernel_rfl).symm.trans hf) |>.symm
      obtain rfl : fn = Tryz.f7 := (Option.some.inj (Tryz.func7.symm.trans hfn)).symm
      exact ⟨by kernel_rfl, fun j t ht => by
        rw [Tryz.params7] at ht
        have hm : t ∈ [25, 26, 31] := by simpa using Array.mem_of_getElem? ht
        have hall : ([25, 26, 31].all fun u => !Tryz.prog.wantsStandIn u) = true := by kernel_rfl
        exact (show Tryz.prog.wantsStandIn t = false by simpa using List.all_eq_true.1 hall t hm)⟩)
    (by kernel_rfl)
end Go.Proofs.YtklhdalppmjnaaaGreatDoor.viewDeltas
namespace Go.Proofs.YtklhdalppmjnaaaGreatDoor
/-- The card, under a short name, for the claim. -/
theorem viewDeltas_holds : Rows.ViewDeltasCardSaid := viewDeltas.card
end Go.Proofs.YtklhdalppmjnaaaGreatDoor
