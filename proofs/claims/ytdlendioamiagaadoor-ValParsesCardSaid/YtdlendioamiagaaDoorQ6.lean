/- The texts VlT of this claim, put together in their order. No condition of their own. -/
import Derived.Test.YtdlendioamiagaaDoorQ4
import Derived.Lib.Walk
import Derived.Lib.BitFns
/- bits.TrailingZeros at 16, by the kit's own walk. -/
namespace Go.Proofs
open Go.Shelf Go.RowKit Go.Lib
set_option linter.unusedVariables false
theorem idx16 : (IntKind.u64.wrap (bits BinOp.and IntKind.u64 16 (IntKind.u64.wrap (-16)) * 285870213051353865) / 288230376151711744).toNat = 15 := by decide
set_option maxHeartbeats 2000000 in
set_option maxRecDepth 20000 in
theorem Tryd.tz64_16 (w : World) (hc : w.cell? ⟨7, 15, none⟩ = some (.int .u8 4)) : Calls Tryd.prog 108 #[.int .u64 16] w fun e w' => e = .returned (.int .i64 4) ∧ w' = w := by
  go_enter Tryd.func108, Tryd.ntmps108
  have hc2 : w.cell? ⟨7, (IntKind.u64.wrap (bits BinOp.and IntKind.u64 16 (IntKind.u64.wrap (-16)) * 285870213051353865) / 288230376151711744).toNat, none⟩ = some (.int .u8 4) := by rw [idx16]; exact hc
  go_wp2
  go_ret
  exact ⟨rfl, rfl⟩
set_option maxHeartbeats 2000000 in
set_option maxRecDepth 20000 in
theorem Tryd.tz16 (w : World) (hc : w.cell? ⟨7, 15, none⟩ = some (.int .u8 4)) : Calls Tryd.prog 100 #[.int .u64 16] w fun e w' => e = .returned (.int .i64 4) ∧ w' = w := by
  go_enter Tryd.func100, Tryd.ntmps100
  go_wp2_with (go_at_call 108; refine (Tryd.tz64_16 _ hc).mono ?_; rintro e w' ⟨rfl, rfl⟩)
  go_ret
  exact ⟨rfl, rfl⟩
end Go.Proofs
namespace Go.Proofs.YtdlendioamiagaaDoor
open Go Go.Gw Go.Vl Go.RowKit
theorem Tz16_ct {K0 : FH} {n0 : Nat} (hV : VarsV K0) : CtM K0 n0 Tryd.prog 100 [IntT .u64 16] [] Unit (fun _ => I64 4) (fun _ => []) (fun _ => True) :=
  ct_below fun H w args hK hon hA => by
    obtain ⟨u, rfl, hu⟩ := one_arg hA
    obtain rfl : u = .int .u64 16 := hu
    exact (Tryd.tz16 w (hV.tz w (on_sub hK hon))).mono fun e w' ⟨he, hw⟩ => ⟨_, he, rfl, hw ▸ Below.refl _ _⟩
end Go.Proofs.YtdlendioamiagaaDoor
