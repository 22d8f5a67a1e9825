/- Tokens compared by '=='; what the laws say, plain. -/
import Derived.Test.YtoaeaclcbcpheaaDoorTk4
import Derived.ChangeKeysEq
import Derived.Laws.StructEq
namespace Go.Proofs.YtoaeaclcbcpheaaDoor
open Go Go.Gw Go.Tk
set_option linter.unusedVariables false
set_option linter.unusedSimpArgs false
theorem aggT {H : FH} {t : Tok} {a : Value} (h : (kTok.T t).p H a) : a = .agg #[.string (bs t.1), .int .i64 t.2.1, .int .i64 t.2.2] := by
  obtain ⟨cs, ⟨c1, c2, h1, ⟨c3, c4, h3, h4, rfl⟩, rfl⟩, rfl⟩ := h
  have e1 : c1 = [Value.string (bs t.1)] := h1
  have e3 : c3 = [Value.int .i64 t.2.1] := h3
  have e4 : c4 = [Value.int .i64 t.2.2] := h4
  subst e1 e3 e4
  rfl
abbrev tv (t : Tok) : Array Value := #[.string (bs t.1), .int .i64 t.2.1, .int .i64 t.2.2]
theorem run_equal23d (w : World) (d : Nat) (u v : Tok) : (Op.equalIn (d + 1 + 1) 23 (.agg (tv u)) (.agg (tv v))).run Tryd.prog w = .ok (decide (u = v)) w := by
  have hf : Tryd.prog.underlying 23 = some (.struct (Tryd.prog.fieldsOf 23)) := by unfold Program.fieldsOf; rw [Tryd.underlying23]
  have hp : Tryd.prog.stoodInHeld 23 = false := by decide +kernel
  rw [run_equalIn_agg w (d + 1) 23 _ _ hf hp]
  clear hf
  simp only [Program.fieldsOf, Tryd.underlying23]
  have k9 : Tryd.prog.plainKey 9 = true := by decide +kernel
  have k3 : Tryd.prog.plainKey 3 = true := by decide +kernel
  have u9 : Tryd.prog.underlying 9 = some .string := Tryd.underlying9
  have u3 : Tryd.prog.underlying 3 = some (.int .i64) := Tryd.underlying3
  have p0 : ∀ t : Tok, (part 9 (tv t) 0).run Tryd.prog w = .ok (.string (bs t.1)) w := fun t => run_part_plain w k9 rfl
  have p1 : ∀ t : Tok, (part 3 (tv t) 1).run Tryd.prog w = .ok (.int .i64 t.2.1) w := fun t => run_part_plain w k3 rfl
  have p2 : ∀ t : Tok, (part 3 (tv t) 2).run Tryd.prog w = .ok (.int .i64 t.2.2) w := fun t => run_part_plain w k3 rfl
  have e3 : ∀ (a b : Int), (Op.equalIn (d + 1) 3 (.int .i64 a) (.int .i64 b)).run Tryd.prog w = .ok (a == b) w := fun a b => run_equalIn_int w d 3 .i64 .i64 a b u3
  have e9 : ∀ (a b : List UInt8), (Op.equalIn (d + 1) 9 (.string (bs a)) (.string (bs b))).run Tryd.prog w = .ok (decide (a = b)) w := fun a b => by rw [run_equalIn_string w d 9 _ _ u9, beq_bs]
  obtain ⟨u0, u1, u2⟩ := u
  obtain ⟨v0, v1, v2⟩ := v
  simp only [Op.eqFields, show ("View" ≠ "_") from by decide, show ("Born" ≠ "_") from by decide, show ("Seq" ≠ "_") from by decide, if_true, ne_eq, not_false_eq_true, Sem.run_bind, p0, p1, p2, e3, e9, Result.andThen_ok]
  by_cases h0 : u0 = v0
  · by_cases h1 : u1 = v1
    · by_cases h2 : u2 = v2 <;> simp [h0, h1, h2, p1, p2, e3, Op.eqFields]
    · simp [h0, h1, p1, e3]
  · simp [h0]
theorem eq23 : EqOk Tryd.prog 23 kTok := fun H w u v a b x y ha hb => by
  rw [aggT ha, aggT hb]
  have hg : Tryd.prog.eqGuardType Tryd.prog.depth 23 = false := by decide +kernel
  refine ⟨run_eqGuard_agg w .eql 23 x y _ _ hg, run_eqGuard_agg w .neq 23 x y _ _ hg, ?_, ?_⟩
  · rw [run_eql_struct w 23, show (Op.equalIn 10000 23 (.agg (tv u)) (.agg (tv v))).run Tryd.prog w = _ from run_equal23d w 9998 u v]; rfl
  · rw [run_neq_struct w 23, show (Op.equalIn 10000 23 (.agg (tv u)) (.agg (tv v))).run Tryd.prog w = _ from run_equal23d w 9998 u v]; rfl
/-! ### The document's example -/
def T0 : Tok := ([102], 1, 12)
theorem itoa_1 : Lib.itoa 1 = [49] := by
  rw [show (1 : Int) = ((1 : Nat) : Int) from rfl, Lib.itoa_nonneg, Lib.decDigits_one (by decide)]; rfl
theorem itoa_12 : Lib.itoa 12 = [49, 50] := by
  rw [show (12 : Int) = ((12 : Nat) : Int) from rfl, Lib.itoa_nonneg, Lib.decDigits_two (by decide) (by decide)]; rfl
theorem good_T0 : goodB T0 = true := by decide
theorem body_T0 : bodyL T0 = [102, 45, 49, 45, 49, 50] := by
  unfold bodyL T0
  rw [itoa_1, itoa_12]; rfl
theorem enc_T0 : encT T0 = textL T0 := by rw [encT, good_T0]; rfl
theorem encE_T0 : encE T0 = 0 := by rw [encE, good_T0]; rfl
theorem text_T0 : textL T0 = [102, 45, 49, 45, 49, 50, 45] ++ checkL [102, 45, 49, 45, 49, 50] := by
  rw [textL, body_T0]; rfl
theorem decE_text {t : Tok} (h : goodB t = true) : decE (textL t) = 0 := by rw [decE, dec_text h]; rfl
theorem decT_text {t : Tok} (h : goodB t = true) : decT (textL t) = t := by rw [decT, dec_text h]; exact tok_text h
theorem encT_good {t : Tok} (h : goodB t = true) : encT t = textL t := by rw [encT, h]; rfl
theorem encE_good {t : Tok} (h : goodB t = true) : encE t = 0 := by rw [encE, h]; rfl
theorem enc_len (t : Tok) : (encT t).length ≤ 41 := by
  unfold encT
  split
  · rename_i h
    have := body_len h
    rw [text_len]; omega
  · simp
end Go.Proofs.YtoaeaclcbcpheaaDoor
