/- Typed walks: what the operations on plain values come to. Over any program. -/
import Derived.Test.YtoaeaclcbcpheaaDoorG1
namespace Go.Gw
open Go
set_option linter.unusedVariables false

section
variable {C : Cx} {Γ : Env} {L : List It} {Q : Exit → Act → World → Prop} {ops : Array Oper} {rest : List Oper}
variable {dst : Option Tmp} {ty : TypeId} {pos : String} {after : Array Edge} {guard : Option (Nat × Bool)} {x y z : Operand}

theorem Pure.conv {o : Oper} {T T' : Ty} (h : Pure C Γ L o T) (hc : ∀ H v, T.p H v → T'.p H v) : Pure C Γ L o T' := fun a w H f s ow => let ⟨v, hr, hv⟩ := h a w H f s ow; ⟨v, hr, hc H v hv⟩

/-! ### moves -/
theorem pu_move {T : Ty} (h : OT C.N Γ x T) : Pure C Γ L ⟨dst, .move x, ty, pos, after, guard⟩ T := fun a w H f s ow => ⟨_, rfl, h a H f⟩
theorem pu_assign {T : Ty} (h : OT C.N Γ x T) : Pure C Γ L ⟨dst, .assign x, ty, pos, after, guard⟩ T := fun a w H f s ow => ⟨_, rfl, h a H f⟩

/-! ### a result under a guard -/
/-- If p: of type T; else nothing was done. -/
def GuT (p : Prop) (T : Ty) : Ty := ⟨fun H v => (p → T.p H v) ∧ (¬ p → v = undef), fun hs h => ⟨fun hp => T.mono hs (h.1 hp), h.2⟩⟩
theorem OT.gu {N : Nat} {p : Prop} {T : Ty} (h : OT N Γ x (GuT p T)) (hp : p) : OT N Γ x T := fun a H f => (h a H f).1 hp
theorem OT.gu_mk {N : Nat} {T : Ty} (h : OT N Γ x T) : OT N Γ x (GuT True T) := fun a H f => ⟨fun _ => h a H f, fun hn => absurd trivial hn⟩

theorem wanted_gu {N : Nat} {H : FH} {a : Act} {o : Oper} {j d : Nat} {want b : Bool} {p : Prop} (f : Fits N Γ H a) (hg : o.guard = some (j, want)) (hj : (ops[j]?).bind (·.dst) = some d) (hdN : decide (d < N) = true) (hb : OT N Γ (.tmp d) (GuT p (BoolT b))) :
    (Region.wanted o (yielded ops a.tmps) = true ↔ (p ∧ b = want)) := by
  have h := hb a H f
  simp only [Act.eval] at h
  have hd : d < a.tmps.size := by rw [f.size]; exact of_decide_eq_true hdN
  have hget : a.tmps.getD d undef = a.tmps[d] := by simp [Array.getD_eq_getD_getElem?, hd]
  simp only [Region.wanted, hg, yielded, hj, Option.bind_some, Array.getElem?_eq_getElem hd]
  rw [hget] at h
  by_cases hp : p
  · have h1 : a.tmps[d] = .bool b := h.1 hp
    rw [h1]; simp [hp]
  · have h1 : a.tmps[d] = undef := h.2 hp
    rw [h1]; simp [hp, undef]

theorem op_gu {o : Oper} {T : Ty} {j d : Nat} {want b : Bool} {p : Prop} (hg : o.guard = some (j, want)) (hj : (ops[j]?).bind (·.dst) = some d) (hdN : decide (d < C.N) = true) (hb : OT C.N Γ (.tmp d) (GuT p (BoolT b)))
    (hp : p ∧ b = want → Pure C Γ L o T) (hd : dstOk C.N o.dst = true) (h : Tr C (upd o.dst (GuT (p ∧ b = want) T) Γ) L (wpList C.P ops Q rest)) : Tr C Γ L (wpList C.P ops Q (o :: rest)) := by
  intro a w H f s ow
  have hw := wanted_gu f hg hj hdN hb
  refine wpList_step fun K hK => ?_
  by_cases hc : p ∧ b = want
  · rw [if_pos (hw.2 hc)]
    obtain ⟨v, hr, hv⟩ := hp hc a w H f s ow
    simp only [Oper.wp, hr, Oper.upon_value]
    exact hK _ _ (h _ w H (f.put o.dst hd ⟨fun _ => hv, fun hn => absurd hc hn⟩) s ow)
  · rw [if_neg (fun e => hc (hw.1 e))]
    exact hK _ _ (h _ w H (f.put o.dst hd ⟨fun e => absurd e hc, fun _ => rfl⟩) s ow)
/-- A guarded operation that makes memory and writes nothing; what it makes is not owned. -/
theorem op_gu_acts {o : Oper} {ρ : Type} {T : ρ → Ty} {φ : ρ → Prop} {j d : Nat} {want b : Bool} {p : Prop} (r0 : ρ) (hg : o.guard = some (j, want)) (hj : (ops[j]?).bind (·.dst) = some d) (hdN : decide (d < C.N) = true) (hb : OT C.N Γ (.tmp d) (GuT p (BoolT b)))
    (hp : p ∧ b = want → Acts C Γ L o [] ρ T (fun _ => []) φ) (hd : dstOk C.N o.dst = true) (h : ∀ r, (p ∧ b = want → φ r) → Tr C (upd o.dst (GuT (p ∧ b = want) (T r)) Γ) L (wpList C.P ops Q rest)) : Tr C Γ L (wpList C.P ops Q (o :: rest)) := by
  intro a w H f s ow
  have hw := wanted_gu f hg hj hdN hb
  refine wpList_step fun K hK => ?_
  by_cases hc : p ∧ b = want
  · rw [if_pos (hw.2 hc)]
    refine hp hc a w H f s ow Q K fun r v w' H' hφ s' hv ho => hK _ _ ?_
    have hn : ∀ g, ¬ g ∈ blks ([] : List It) := fun g hg => by simp [blks] at hg
    exact h r (fun _ => hφ) _ w' H' ((f.mono s'.sub).put o.dst hd ⟨fun _ => hv, fun hn => absurd hc hn⟩) (s.trans s' fun k hk => absurd hk (hn k)) (ow.st s' fun g _ => hn g)
  · rw [if_neg (fun e => hc (hw.1 e))]
    exact hK _ _ (h r0 (fun e => absurd e hc) _ w H (f.put o.dst hd ⟨fun e => absurd e hc, fun _ => rfl⟩) s ow)
/-- A guarded operation on a way on which its guard is known. -/
theorem op_gu_yes {o : Oper} {j d : Nat} {want : Bool} (hg : o.guard = some (j, want)) (hj : (ops[j]?).bind (·.dst) = some d) (hdN : decide (d < C.N) = true) (hb : OT C.N Γ (.tmp d) (BoolT want)) (h : Tr C Γ L (wpList C.P ops Q ({ o with guard := none } :: rest))) : Tr C Γ L (wpList C.P ops Q (o :: rest)) := by
  intro a w H f s ow
  have hw := (wanted_gu f hg hj hdN (OT.gu_mk hb)).2 ⟨trivial, rfl⟩
  have h1 := h a w H f s ow
  unfold wpList at h1 ⊢
  rw [if_pos hw]
  rw [if_pos (by simp [Region.wanted])] at h1
  exact h1
theorem op_gu_no {o : Oper} {j d : Nat} {want b : Bool} (hg : o.guard = some (j, want)) (hj : (ops[j]?).bind (·.dst) = some d) (hdN : decide (d < C.N) = true) (hb : OT C.N Γ (.tmp d) (BoolT b)) (hne : b = !want) (hd : dstOk C.N o.dst = true) (h : Tr C (upd o.dst (IsV undef) Γ) L (wpList C.P ops Q rest)) : Tr C Γ L (wpList C.P ops Q (o :: rest)) := by
  intro a w H f s ow
  have hw : ¬ Region.wanted o (yielded ops a.tmps) = true := fun e => by
    have := ((wanted_gu f hg hj hdN (OT.gu_mk hb)).1 e).2
    rw [hne] at this; cases want <;> simp at this
  refine wpList_step fun K hK => ?_
  rw [if_neg hw]
  exact hK _ _ (h _ w H (f.put o.dst hd rfl) s ow)
/-- 'a && b', 'a || b': the second part stands under the first one's outcome. -/
theorem pu_pick_or {a b : Bool} (hx : OT C.N Γ x (BoolT a)) (hz : OT C.N Γ z (GuT (True ∧ a = false) (BoolT b))) : Pure C Γ L ⟨dst, .pick x (.const (.bool true)) z, ty, pos, after, guard⟩ (BoolT (a || b)) := fun ac w H f s ow => by
  have h1 : ac.eval x = .bool a := hx ac H f
  have h2 := hz ac H f
  cases a with
  | true => exact ⟨.bool true, by simp [execOp, h1, asBool, show ac.eval (.const (.bool true)) = .bool true from rfl], rfl⟩
  | false =>
    have h3 : ac.eval z = .bool b := h2.1 ⟨trivial, rfl⟩
    exact ⟨.bool b, by simp [execOp, h1, h3, asBool], by simp [BoolT, IsV]⟩
theorem pu_pick_and {a b : Bool} (hx : OT C.N Γ x (BoolT a)) (hy : OT C.N Γ y (GuT (True ∧ a = true) (BoolT b))) : Pure C Γ L ⟨dst, .pick x y (.const (.bool false)), ty, pos, after, guard⟩ (BoolT (a && b)) := fun ac w H f s ow => by
  have h1 : ac.eval x = .bool a := hx ac H f
  have h2 := hy ac H f
  cases a with
  | false => exact ⟨.bool false, by simp [execOp, h1, asBool, show ac.eval (.const (.bool false)) = .bool false from rfl], rfl⟩
  | true =>
    have h3 : ac.eval y = .bool b := h2.1 ⟨trivial, rfl⟩
    exact ⟨.bool b, by simp [execOp, h1, h3, asBool], by simp [BoolT, IsV]⟩
theorem pu_pick_or_p {p : Prop} {a b : Bool} (hp : p) (hx : OT C.N Γ x (BoolT a)) (hz : OT C.N Γ z (GuT (p ∧ a = false) (BoolT b))) : Pure C Γ L ⟨dst, .pick x (.const (.bool true)) z, ty, pos, after, guard⟩ (BoolT (a || b)) :=
  pu_pick_or hx fun ac H f => ⟨fun h => (hz ac H f).1 ⟨hp, h.2⟩, fun h => (hz ac H f).2 fun e => h ⟨trivial, e.2⟩⟩
theorem pu_pick_and_p {p : Prop} {a b : Bool} (hp : p) (hx : OT C.N Γ x (BoolT a)) (hy : OT C.N Γ y (GuT (p ∧ a = true) (BoolT b))) : Pure C Γ L ⟨dst, .pick x y (.const (.bool false)), ty, pos, after, guard⟩ (BoolT (a && b)) :=
  pu_pick_and hx fun ac H f => ⟨fun h => (hy ac H f).1 ⟨hp, h.2⟩, fun h => (hy ac H f).2 fun e => h ⟨trivial, e.2⟩⟩

/-! ### numbers -/
theorem i64_in {n : Int} (h : -9223372036854775808 ≤ n ∧ n ≤ 9223372036854775807) : IntKind.i64.wrap n = n := by
  simp only [IntKind.wrap, IntKind.bits, IntKind.signed]; simp; omega
theorem run_bin_int {P : Program} {w : World} {op : BinOp} {t t2 : TypeId} {k : IntKind} {m n : Int} {ρ : Operand → Value} (hx : ρ x = .int k m) (hy : ρ y = .int k n) :
    (execOp ρ ⟨dst, .binOp op t x y t2, ty, pos, after, guard⟩).run P w = ((binOp op t (.int k m) (.int k n)).run P w).andThen fun v w' => .ok (.value v) w' := by
  have hg : (eqGuard op t x y (.int k m) (.int k n)).run P w = .ok () w := by
    unfold eqGuard; cases op <;> simp
  simp [execOp, hx, hy, hg]
theorem pu_add {t t2 : TypeId} {k : IntKind} {m n : Int} (hx : OT C.N Γ x (IntT k m)) (hy : OT C.N Γ y (IntT k n)) : Pure C Γ L ⟨dst, .binOp .add t x y t2, ty, pos, after, guard⟩ (IntT k (k.wrap (m + n))) := fun a w H f s ow => ⟨_, by rw [run_bin_int (hx a H f) (hy a H f)]; simp [binOp, Op.intArith], rfl⟩
theorem pu_sub {t t2 : TypeId} {k : IntKind} {m n : Int} (hx : OT C.N Γ x (IntT k m)) (hy : OT C.N Γ y (IntT k n)) : Pure C Γ L ⟨dst, .binOp .sub t x y t2, ty, pos, after, guard⟩ (IntT k (k.wrap (m - n))) := fun a w H f s ow => ⟨_, by rw [run_bin_int (hx a H f) (hy a H f)]; simp [binOp, Op.intArith], rfl⟩
theorem pu_mul {t t2 : TypeId} {k : IntKind} {m n : Int} (hx : OT C.N Γ x (IntT k m)) (hy : OT C.N Γ y (IntT k n)) : Pure C Γ L ⟨dst, .binOp .mul t x y t2, ty, pos, after, guard⟩ (IntT k (k.wrap (m * n))) := fun a w H f s ow => ⟨_, by rw [run_bin_int (hx a H f) (hy a H f)]; simp [binOp, Op.intArith], rfl⟩
theorem pu_add' {t t2 : TypeId} {m n : Int} (hx : OT C.N Γ x (I64 m)) (hy : OT C.N Γ y (I64 n)) (h : -9223372036854775808 ≤ m + n ∧ m + n ≤ 9223372036854775807) : Pure C Γ L ⟨dst, .binOp .add t x y t2, ty, pos, after, guard⟩ (I64 (m + n)) := by
  have := pu_add (C := C) (L := L) (dst := dst) (ty := ty) (pos := pos) (after := after) (guard := guard) (t := t) (t2 := t2) hx hy
  rwa [i64_in h] at this
theorem pu_sub' {t t2 : TypeId} {m n : Int} (hx : OT C.N Γ x (I64 m)) (hy : OT C.N Γ y (I64 n)) (h : -9223372036854775808 ≤ m - n ∧ m - n ≤ 9223372036854775807) : Pure C Γ L ⟨dst, .binOp .sub t x y t2, ty, pos, after, guard⟩ (I64 (m - n)) := by
  have := pu_sub (C := C) (L := L) (dst := dst) (ty := ty) (pos := pos) (after := after) (guard := guard) (t := t) (t2 := t2) hx hy
  rwa [i64_in h] at this
theorem pu_mul' {t t2 : TypeId} {m n : Int} (hx : OT C.N Γ x (I64 m)) (hy : OT C.N Γ y (I64 n)) (h : -9223372036854775808 ≤ m * n ∧ m * n ≤ 9223372036854775807) : Pure C Γ L ⟨dst, .binOp .mul t x y t2, ty, pos, after, guard⟩ (I64 (m * n)) := by
  have := pu_mul (C := C) (L := L) (dst := dst) (ty := ty) (pos := pos) (after := after) (guard := guard) (t := t) (t2 := t2) hx hy
  rwa [i64_in h] at this
theorem pu_quo {t t2 : TypeId} {k : IntKind} {m n : Int} (hx : OT C.N Γ x (IntT k m)) (hy : OT C.N Γ y (IntT k n)) (hn : n ≠ 0) : Pure C Γ L ⟨dst, .binOp .quo t x y t2, ty, pos, after, guard⟩ (IntT k (k.wrap (m.tdiv n))) := fun a w H f s ow => ⟨_, by rw [run_bin_int (hx a H f) (hy a H f)]; simp [binOp, Op.intDiv, hn], rfl⟩
theorem pu_rem {t t2 : TypeId} {k : IntKind} {m n : Int} (hx : OT C.N Γ x (IntT k m)) (hy : OT C.N Γ y (IntT k n)) (hn : n ≠ 0) : Pure C Γ L ⟨dst, .binOp .rem t x y t2, ty, pos, after, guard⟩ (IntT k (m.tmod n)) := fun a w H f s ow => ⟨_, by rw [run_bin_int (hx a H f) (hy a H f)]; simp [binOp, Op.intDiv, hn], rfl⟩
theorem pu_quo' {t t2 : TypeId} {m n : Int} (hx : OT C.N Γ x (I64 m)) (hy : OT C.N Γ y (I64 n)) (hm : 0 ≤ m ∧ m ≤ 9223372036854775807) (hn : 0 < n) : Pure C Γ L ⟨dst, .binOp .quo t x y t2, ty, pos, after, guard⟩ (I64 (m / n)) := by
  have := pu_quo (C := C) (L := L) (dst := dst) (ty := ty) (pos := pos) (after := after) (guard := guard) (t := t) (t2 := t2) hx hy (by omega)
  rw [Int.tdiv_eq_ediv_of_nonneg hm.1, i64_in ⟨by have := Int.ediv_nonneg hm.1 (by omega : 0 ≤ n); omega, by have := Int.ediv_le_self n hm.1; omega⟩] at this
  exact this
theorem pu_rem' {t t2 : TypeId} {k : IntKind} {m n : Int} (hx : OT C.N Γ x (IntT k m)) (hy : OT C.N Γ y (IntT k n)) (hm : 0 ≤ m) (hn : 0 < n) : Pure C Γ L ⟨dst, .binOp .rem t x y t2, ty, pos, after, guard⟩ (IntT k (m % n)) := by
  have := pu_rem (C := C) (L := L) (dst := dst) (ty := ty) (pos := pos) (after := after) (guard := guard) (t := t) (t2 := t2) hx hy (by omega)
  rwa [Int.tmod_eq_emod_of_nonneg hm] at this
def bitsV (op : BinOp) (k : IntKind) (m n : Int) : Int :=
  let a := BitVec.ofInt k.bits m
  let b := BitVec.ofInt k.bits n
  k.wrap (match op with | .and => (a &&& b).toNat | .or => (a ||| b).toNat | .xor => (a ^^^ b).toNat | _ => (a &&& ~~~b).toNat)
theorem pu_bits {op : BinOp} {t t2 : TypeId} {k : IntKind} {m n : Int} (hx : OT C.N Γ x (IntT k m)) (hy : OT C.N Γ y (IntT k n)) (ho : op = .and ∨ op = .or ∨ op = .xor ∨ op = .andNot) : Pure C Γ L ⟨dst, .binOp op t x y t2, ty, pos, after, guard⟩ (IntT k (bitsV op k m n)) := fun a w H f s ow => ⟨_, by rw [run_bin_int (hx a H f) (hy a H f)]; rcases ho with rfl | rfl | rfl | rfl <;> simp [binOp, Op.intBits, bitsV], rfl⟩
theorem run_bin_shift {P : Program} {w : World} {op : BinOp} {t t2 : TypeId} {k k2 : IntKind} {m n : Int} {ρ : Operand → Value} (ho : op = .shl ∨ op = .shr) (hx : ρ x = .int k m) (hy : ρ y = .int k2 n) (hn : 0 ≤ n) :
    (execOp ρ ⟨dst, .binOp op t x y t2, ty, pos, after, guard⟩).run P w = .ok (.value (.int k (if op = .shl then k.wrap (m * 2 ^ min n.toNat k.bits) else m.fdiv (2 ^ min n.toNat k.bits)))) w := by
  rcases ho with rfl | rfl <;> simp [execOp, hx, hy, eqGuard, binOp, Op.shift, Int.not_lt.2 hn]
theorem pu_shl {t t2 : TypeId} {k k2 : IntKind} {m n : Int} (hx : OT C.N Γ x (IntT k m)) (hy : OT C.N Γ y (IntT k2 n)) (hn : 0 ≤ n) : Pure C Γ L ⟨dst, .binOp .shl t x y t2, ty, pos, after, guard⟩ (IntT k (k.wrap (m * 2 ^ min n.toNat k.bits))) := fun a w H f s ow => ⟨_, by rw [run_bin_shift (.inl rfl) (hx a H f) (hy a H f) hn]; rfl, rfl⟩
theorem pu_shr {t t2 : TypeId} {k k2 : IntKind} {m n : Int} (hx : OT C.N Γ x (IntT k m)) (hy : OT C.N Γ y (IntT k2 n)) (hn : 0 ≤ n) : Pure C Γ L ⟨dst, .binOp .shr t x y t2, ty, pos, after, guard⟩ (IntT k (m.fdiv (2 ^ min n.toNat k.bits))) := fun a w H f s ow => ⟨_, by rw [run_bin_shift (.inr rfl) (hx a H f) (hy a H f) hn]; rfl, rfl⟩
theorem pu_lss {t t2 : TypeId} {k : IntKind} {m n : Int} (hx : OT C.N Γ x (IntT k m)) (hy : OT C.N Γ y (IntT k n)) : Pure C Γ L ⟨dst, .binOp .lss t x y t2, ty, pos, after, guard⟩ (BoolT (decide (m < n))) := fun a w H f s ow => ⟨_, by rw [run_bin_int (hx a H f) (hy a H f)]; simp [binOp, Op.intCmp], rfl⟩
theorem pu_leq {t t2 : TypeId} {k : IntKind} {m n : Int} (hx : OT C.N Γ x (IntT k m)) (hy : OT C.N Γ y (IntT k n)) : Pure C Γ L ⟨dst, .binOp .leq t x y t2, ty, pos, after, guard⟩ (BoolT (decide (m ≤ n))) := fun a w H f s ow => ⟨_, by rw [run_bin_int (hx a H f) (hy a H f)]; simp [binOp, Op.intCmp], rfl⟩
theorem pu_gtr {t t2 : TypeId} {k : IntKind} {m n : Int} (hx : OT C.N Γ x (IntT k m)) (hy : OT C.N Γ y (IntT k n)) : Pure C Γ L ⟨dst, .binOp .gtr t x y t2, ty, pos, after, guard⟩ (BoolT (decide (n < m))) := fun a w H f s ow => ⟨_, by rw [run_bin_int (hx a H f) (hy a H f)]; simp [binOp, Op.intCmp], rfl⟩
theorem pu_geq {t t2 : TypeId} {k : IntKind} {m n : Int} (hx : OT C.N Γ x (IntT k m)) (hy : OT C.N Γ y (IntT k n)) : Pure C Γ L ⟨dst, .binOp .geq t x y t2, ty, pos, after, guard⟩ (BoolT (decide (n ≤ m))) := fun a w H f s ow => ⟨_, by rw [run_bin_int (hx a H f) (hy a H f)]; simp [binOp, Op.intCmp], rfl⟩
theorem pu_eql {t t2 : TypeId} {k : IntKind} {m n : Int} (hx : OT C.N Γ x (IntT k m)) (hy : OT C.N Γ y (IntT k n)) : Pure C Γ L ⟨dst, .binOp .eql t x y t2, ty, pos, after, guard⟩ (BoolT (decide (m = n))) := fun a w H f s ow => ⟨.bool (m == n), by rw [run_bin_int (hx a H f) (hy a H f)]; simp [binOp, Op.intCmp], by by_cases h : m = n <;> simp [BoolT, IsV, h]⟩
theorem pu_neq {t t2 : TypeId} {k : IntKind} {m n : Int} (hx : OT C.N Γ x (IntT k m)) (hy : OT C.N Γ y (IntT k n)) : Pure C Γ L ⟨dst, .binOp .neq t x y t2, ty, pos, after, guard⟩ (BoolT (decide (m ≠ n))) := fun a w H f s ow => ⟨.bool (m != n), by rw [run_bin_int (hx a H f) (hy a H f)]; simp [binOp, Op.intCmp], by by_cases h : m = n <;> simp [BoolT, IsV, h]⟩
theorem pu_not {t : TypeId} {b : Bool} (hx : OT C.N Γ x (BoolT b)) : Pure C Γ L ⟨dst, .unOp .not t x, ty, pos, after, guard⟩ (BoolT (!b)) := fun a w H f s ow => by
  have h1 : a.eval x = .bool b := hx a H f
  exact ⟨_, by simp [execOp, h1, Op.unary], rfl⟩
theorem pu_neg {t : TypeId} {n : Int} (hx : OT C.N Γ x (I64 n)) (h : -9223372036854775807 ≤ n ∧ n ≤ 9223372036854775807) : Pure C Γ L ⟨dst, .unOp .neg t x, ty, pos, after, guard⟩ (I64 (-n)) := fun a w H f s ow => by
  have h1 : a.eval x = .int .i64 n := hx a H f
  exact ⟨_, by simp [execOp, h1, Op.unary, Op.intArith]; rfl, by simp only [I64, IsV]; rw [i64_in (by omega)]⟩
/-! ### texts, truth values -/
theorem pu_str_eql {t t2 : TypeId} {u v : ByteArray} (hx : OT C.N Γ x (StrT u)) (hy : OT C.N Γ y (StrT v)) : Pure C Γ L ⟨dst, .binOp .eql t x y t2, ty, pos, after, guard⟩ (BoolT (u.toList == v.toList)) := fun a w H f s ow => by
  have h1 : a.eval x = .string u := hx a H f
  have h2 : a.eval y = .string v := hy a H f
  exact ⟨_, by simp [execOp, h1, h2, eqGuard, binOp, Op.stringOp], rfl⟩
theorem pu_str_neq {t t2 : TypeId} {u v : ByteArray} (hx : OT C.N Γ x (StrT u)) (hy : OT C.N Γ y (StrT v)) : Pure C Γ L ⟨dst, .binOp .neq t x y t2, ty, pos, after, guard⟩ (BoolT (!(u.toList == v.toList))) := fun a w H f s ow => by
  have h1 : a.eval x = .string u := hx a H f
  have h2 : a.eval y = .string v := hy a H f
  exact ⟨_, by simp [execOp, h1, h2, eqGuard, binOp, Op.stringOp], rfl⟩
theorem pu_str_add {t t2 : TypeId} {u v : ByteArray} (hx : OT C.N Γ x (StrT u)) (hy : OT C.N Γ y (StrT v)) (hl : u.size + v.size ≤ 9223372036854775807) : Pure C Γ L ⟨dst, .binOp .add t x y t2, ty, pos, after, guard⟩ (StrT (u ++ v)) := fun a w H f s ow => by
  have h1 : a.eval x = .string u := hx a H f
  have h2 : a.eval y = .string v := hy a H f
  have h3 : ¬ ((u.size + v.size : Nat) : Int) > IntKind.i64.max := by simp [IntKind.max, IntKind.bits, IntKind.signed]; omega
  exact ⟨_, by simp only [execOp, h1, h2, eqGuard, binOp, Op.stringOp, if_neg h3]; simp, rfl⟩
theorem pu_len_str {t : TypeId} {u : ByteArray} (ht : C.P.underlying t = some .string) (hx : OT C.N Γ x (StrT u)) : Pure C Γ L ⟨dst, .call ⟨.builtin .len, #[x], #[t]⟩, ty, pos, after, guard⟩ (I64 u.size) := fun a w H f s ow => by
  have h1 : a.eval x = .string u := hx a H f
  exact ⟨_, by simp [execOp, resolve, invoke, builtin, Builtin.len_, h1, run_underlying ht, goInt], rfl⟩
/-! ### several results -/
theorem pu_extract {Ts : List Ty} {i : Nat} {T : Ty} (hx : OT C.N Γ x (TupT Ts)) (hi : Ts[i]? = some T) : Pure C Γ L ⟨dst, .extract x i, ty, pos, after, guard⟩ T := fun a w H f s ow => by
  obtain ⟨vs, h1, h2⟩ := hx a H f
  have key : ∀ (Ts : List Ty) (vs : List Value) (i : Nat), AllP H Ts vs → Ts[i]? = some T → ∃ v, vs[i]? = some v ∧ T.p H v := by
    intro Ts
    induction Ts with
    | nil => intro vs i _ hi; simp at hi
    | cons U Ts ih =>
      intro vs i hA hi
      cases vs with
      | nil => exact hA.elim
      | cons v vs =>
        cases i with
        | zero => simp at hi; subst hi; exact ⟨v, rfl, hA.1⟩
        | succ i => simpa using ih vs i hA.2 (by simpa using hi)
  obtain ⟨v, h3, h4⟩ := key Ts vs i h2 hi
  exact ⟨v, by simp [execOp, h1, Instr.extract, h3], h4⟩
end
end Go.Gw
