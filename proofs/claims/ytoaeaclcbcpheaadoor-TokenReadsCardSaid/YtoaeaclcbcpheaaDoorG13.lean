/- Typed walks: pointers that are seen not to be nil; conversions of whole numbers. Over any program. -/
import Derived.Test.YtoaeaclcbcpheaaDoorG12
namespace Go.Gw
open Go
set_option linter.unusedVariables false
set_option linter.unusedSimpArgs false
section
variable {C : Cx} {Γ : Env} {L : List It} {dst : Option Tmp} {ty : TypeId} {pos : String} {after : Array Edge} {guard : Option (Nat × Bool)} {x : Operand}
theorem pu_nilCheck {b off : Nat} (hx : OT C.N Γ x (IsV (pt b off))) : Pure C Γ L ⟨dst, .nilCheck x, ty, pos, after, guard⟩ (IsV (pt b off)) := fun a w H f s ow => by
  have hv : a.eval x = pt b off := hx a H f
  exact ⟨_, by simp [execOp, hv], rfl⟩
end
end Go.Gw
namespace Go.Gw
open Go
set_option linter.unusedVariables false
/-- A function of one value that leaves the world as it was. -/
theorem ct_one {P : Program} {f : FuncId} {a r : Value} (h : ∀ w, Calls P f #[a] w fun e w' => e = .returned r ∧ w' = w) : Ct P f [IsV a] [] Unit (fun _ => IsV r) (fun _ => []) (fun _ => True) := by
  intro H w args hon hA hO
  match args, hA with
  | [v], hA =>
    have hv : v = a := hA.1
    subst hv
    refine (h w).mono fun e w' hp => ?_
    obtain ⟨rfl, rfl⟩ := hp
    exact ⟨(), r, H, rfl, trivial, St.refl hon, rfl, ⟨fun _ h => by simp at h, by simp [blks], fun g hg => by simp [blks] at hg⟩⟩
end Go.Gw
namespace Go.Gw
open Go
set_option linter.unusedVariables false
set_option linter.unusedSimpArgs false
section
variable {C : Cx} {Γ : Env} {L : List It} {dst : Option Tmp} {ty : TypeId} {pos : String} {after : Array Edge} {guard : Option (Nat × Bool)} {x y : Operand}
theorem pu_convert {s t : TypeId} {us : TypeDesc} {k k' : IntKind} {n : Int} (hx : OT C.N Γ x (IntT k n)) (hs : C.P.underlying s = some us) (ht : C.P.underlying t = some (.int k')) : Pure C Γ L ⟨dst, .convert s t x, ty, pos, after, guard⟩ (IntT k' (k'.wrap n)) := fun a w H f s' ow => by
  have h1 : a.eval x = .int k n := hx a H f
  refine ⟨.int k' (k'.wrap n), ?_, rfl⟩
  simp only [execOp, convert, h1, Sem.run_bind, run_underlying hs, run_underlying ht, Result.andThen_ok]
  cases us <;> rfl
theorem wrap_in {k : IntKind} {n : Int} (h0 : 0 ≤ n) (h1 : n < 2 ^ (k.bits - 1)) : k.wrap n = n := by
  have hp : (2 : Int) ^ k.bits = 2 * 2 ^ (k.bits - 1) := by cases k <;> rfl
  have hm : n % 2 ^ k.bits = n := Int.emod_eq_of_lt h0 (by omega)
  simp only [IntKind.wrap, hm]
  rw [if_neg]
  simp only [Bool.and_eq_true, decide_eq_true_eq, not_and]
  intro _; omega
theorem pu_convert' {s t : TypeId} {us : TypeDesc} {k k' : IntKind} {n : Int} (hx : OT C.N Γ x (IntT k n)) (hs : C.P.underlying s = some us) (ht : C.P.underlying t = some (.int k')) (h0 : 0 ≤ n) (h1 : n < 9223372036854775808) (hb : k'.bits = 64) : Pure C Γ L ⟨dst, .convert s t x, ty, pos, after, guard⟩ (IntT k' n) := by
  have := pu_convert (C := C) (L := L) (dst := dst) (ty := ty) (pos := pos) (after := after) (guard := guard) hx hs ht
  rwa [wrap_in h0 (by rw [hb]; exact h1)] at this
end
end Go.Gw
namespace Go.Gw
open Go
set_option linter.unusedVariables false
section
variable {C : Cx} {Γ : Env} {L : List It} {Q : Exit → Act → World → Prop}
/-! ### Where branches join again -/
def Joined (C : Cx) {σ : Type} (Γ : σ → Env) (L : σ → List It) (I : σ → Prop) : Act → World → Prop := fun a w =>
  ∃ s H, I s ∧ Fits C.N (Γ s) H a ∧ St C.M C.H0 C.w0 H w ∧ Owns C.ok w H (L s)
theorem tr_joinK {σ : Type} {Γk : Env} (hk : EnvSub C.N Γ Γk) (Δ : σ → Env) (Lj : σ → List It) (I : σ → Prop) {x y : Code}
    (h1 : Tr C Γ L (x.wp C.P (Exit.then (Joined C (fun s => Δ s ++ Γk) Lj I) Q)))
    (h2 : ∀ s, I s → Tr C (Δ s ++ Γk) (Lj s) (y.wp C.P Q)) : Tr C Γ L ((Code.seq x y).wp C.P Q) := by
  refine tr_seq (h1.imp fun a w h => ?_)
  intro b k cs
  obtain ⟨e, a', w', hq, harr⟩ := h b k cs
  refine ⟨e, a', w', ?_, harr⟩
  cases e with
  | normal =>
    obtain ⟨s, H, hI, hf, hs, ho⟩ := hq
    exact h2 s hI a' w' H hf hs ho
  | _ => exact hq
theorem tr_joined {σ : Type} {Γj : σ → Env} {Lj : σ → List It} {I : σ → Prop} (s : σ) (hI : I s) (hΓ : EnvSub C.N Γ (Γj s)) (hL : ∀ w H, Owns C.ok w H L → Owns C.ok w H (Lj s)) :
    Tr C Γ L (Joined C Γj Lj I) := fun a w H f st o => ⟨s, H, hI, hΓ a H f, st, hL w H o⟩
end
end Go.Gw
namespace Go.Gw
open Go
section
variable {C : Cx} {Γ : Env} {L : List It} {dst : Option Tmp} {ty : TypeId} {pos : String} {after : Array Edge} {guard : Option (Nat × Bool)} {x y : Operand}
/-- Of any kind of 64 bits: no overflow. -/
theorem pu_sub_u {t t2 : TypeId} {k : IntKind} {m n : Int} (hx : OT C.N Γ x (IntT k m)) (hy : OT C.N Γ y (IntT k n)) (h0 : 0 ≤ m - n) (h1 : m - n < 9223372036854775808) (hb : k.bits = 64 := by rfl) : Pure C Γ L ⟨dst, .binOp .sub t x y t2, ty, pos, after, guard⟩ (IntT k (m - n)) := by
  have := pu_sub (C := C) (L := L) (dst := dst) (ty := ty) (pos := pos) (after := after) (guard := guard) (t := t) (t2 := t2) hx hy
  rwa [wrap_in h0 (by rw [hb]; exact h1)] at this
theorem pu_add_u {t t2 : TypeId} {k : IntKind} {m n : Int} (hx : OT C.N Γ x (IntT k m)) (hy : OT C.N Γ y (IntT k n)) (h0 : 0 ≤ m + n) (h1 : m + n < 9223372036854775808) (hb : k.bits = 64 := by rfl) : Pure C Γ L ⟨dst, .binOp .add t x y t2, ty, pos, after, guard⟩ (IntT k (m + n)) := by
  have := pu_add (C := C) (L := L) (dst := dst) (ty := ty) (pos := pos) (after := after) (guard := guard) (t := t) (t2 := t2) hx hy
  rwa [wrap_in h0 (by rw [hb]; exact h1)] at this
end
end Go.Gw
