/- Tokens, plain: the steps of the loops: the check's sum, a numeral's value, a numeral's digits, a name's letters, the parts of a text. -/
import Derived.Test.YtoaeaclcbcpheaaDoorTkP
namespace Go.Tk
open Go Go.Gw Go.Lib
set_option linter.unusedVariables false
set_option linter.unusedSimpArgs false
theorem nums_at {l : List UInt8} {k : Nat} (h : k < l.length) : at' (nums l) (k : Int) = (l[k].toNat : Int) := by
  rw [at'_nat (by simpa using h)]; simp
theorem nums_bd {l : List UInt8} {k : Nat} (h : k < l.length) : 0 ≤ at' (nums l) (k : Int) ∧ at' (nums l) (k : Int) ≤ 255 := by
  rw [nums_at h]
  have := UInt8.toNat_lt l[k]
  omega
theorem nums_len (l : List UInt8) : (nums l).length = l.length := by simp
theorem mod_step (S b k r : Nat) (hr : r % 676 = (k + 1) % 676) : (S % 676 + b * r) % 676 = (S + b * (k + 1)) % 676 := by
  have e1 : S = 676 * (S / 676) + S % 676 := (Nat.div_add_mod S 676).symm
  have e2 : (b * r) % 676 = (b * (k + 1)) % 676 := by rw [Nat.mul_mod, hr, ← Nat.mul_mod]
  omega
theorem chk_step {l : List UInt8} {k : Nat} (h : k < l.length) : (((wsum 0 (l.take k) % 676 : Nat) : Int) + at' (nums l) (k : Int) * ((k : Int) % 676 + 1)) % 676 = ((wsum 0 (l.take (k + 1)) % 676 : Nat) : Int) := by
  rw [nums_at h, wsum_take h]
  generalize wsum 0 (l.take k) = S
  generalize l[k].toNat = b
  have e := mod_step S b k (k % 676 + 1) (by omega)
  have hc : (b : Int) * ((k : Int) % 676 + 1) = ((b * (k % 676 + 1) : Nat) : Int) := by rw [Int.natCast_mul, Int.natCast_add, Int.natCast_emod]; rfl
  rw [hc, ← e]
  generalize b * (k % 676 + 1) = z
  omega
theorem ref_step {l : List UInt8} {k : Nat} (h : k < l.length) : (((wsum 0 (l.take k) % 676 : Nat) : Int) + at' (nums l) (k : Int) * (((k : Int) + 1) % 676)) % 676 = ((wsum 0 (l.take (k + 1)) % 676 : Nat) : Int) := by
  rw [nums_at h, wsum_take h]
  generalize wsum 0 (l.take k) = S
  generalize l[k].toNat = b
  have e := mod_step S b k ((k + 1) % 676) (by omega)
  have hc : (b : Int) * (((k : Int) + 1) % 676) = ((b * ((k + 1) % 676) : Nat) : Int) := by rw [Int.natCast_mul, Int.natCast_emod, Int.natCast_add]; rfl
  rw [hc, ← e]
  generalize b * ((k + 1) % 676) = z
  omega
theorem u8_wrap {n : Int} (h0 : 0 ≤ n) (h1 : n < 256) : IntKind.u8.wrap n = n := by
  show (let m := n % 2 ^ 8; _) = n
  simp [IntKind.wrap, IntKind.bits, IntKind.signed]; omega
theorem ofNat_int (n : Nat) : UInt8.ofNat ((n : Int)).toNat = UInt8.ofNat n := by simp
theorem chk_end (l : List UInt8) : unnum [IntKind.u8.wrap (97 + IntKind.u8.wrap (((wsum 0 l % 676 : Nat) : Int) / 26)), IntKind.u8.wrap (97 + IntKind.u8.wrap (((wsum 0 l % 676 : Nat) : Int) % 26))] = checkL l := by
  have h := sumL_lt l
  unfold checkL
  unfold sumL at h ⊢
  generalize wsum 0 l % 676 = s at *
  rw [u8_wrap (n := (s : Int) / 26) (by omega) (by omega), u8_wrap (n := (s : Int) % 26) (by omega) (by omega), u8_wrap (n := 97 + (s : Int) / 26) (by omega) (by omega), u8_wrap (n := 97 + (s : Int) % 26) (by omega) (by omega)]
  show [UInt8.ofNat (97 + (s : Int) / 26).toNat, UInt8.ofNat (97 + (s : Int) % 26).toNat] = _
  rw [show (97 + (s : Int) / 26).toNat = 97 + s / 26 from by omega, show (97 + (s : Int) % 26).toNat = 97 + s % 26 from by omega]
theorem ref_end (l : List UInt8) : unnum [IntKind.u8.wrap (97 + ((wsum 0 l % 676 : Nat) : Int) / 26), IntKind.u8.wrap (97 + ((wsum 0 l % 676 : Nat) : Int) % 26)] = checkL l := by
  have h := sumL_lt l
  unfold checkL
  unfold sumL at h ⊢
  generalize wsum 0 l % 676 = s at *
  rw [u8_wrap (by omega) (by omega), u8_wrap (by omega) (by omega)]
  show [UInt8.ofNat (97 + (s : Int) / 26).toNat, UInt8.ofNat (97 + (s : Int) % 26).toNat] = _
  rw [show (97 + (s : Int) / 26).toNat = 97 + s / 26 from by omega, show (97 + (s : Int) % 26).toNat = 97 + s % 26 from by omega]
/-! ### names -/
theorem low_at {l : List UInt8} {k : Nat} (h : k < l.length) : (decide (at' (nums l) (k : Int) < 97) || decide (122 < at' (nums l) (k : Int))) = !isLow l[k] := by
  rw [nums_at h]
  unfold isLow
  have e1 : ((l[k].toNat : Int) < 97) ↔ l[k].toNat < 97 := by omega
  have e2 : ((122 : Int) < (l[k].toNat : Int)) ↔ 122 < l[k].toNat := by omega
  by_cases h1 : l[k].toNat < 97 <;> by_cases h2 : 122 < l[k].toNat <;> simp [e1, e2, h1, h2] <;> omega
theorem low_iff {l : List UInt8} {k : Nat} (h : k < l.length) : (at' (nums l) (k : Int) < 97 ∨ 122 < at' (nums l) (k : Int)) ↔ isLow l[k] = false := by
  rw [nums_at h]
  unfold isLow
  simp
  omega
theorem name_no {l : List UInt8} {k : Nat} (h : k < l.length) (hb : isLow l[k] = false) : nameB l = false := by
  have : l.all isLow = false := by
    rw [Bool.eq_false_iff]
    intro ha
    rw [List.all_eq_true.1 ha _ (List.getElem_mem h)] at hb; cases hb
  simp [nameB, this]
theorem all_take {l : List UInt8} {k : Nat} (h : k < l.length) (ha : (l.take k).all isLow = true) (hb : isLow l[k] = true) : (l.take (k + 1)).all isLow = true := by
  rw [List.take_succ_eq_append_getElem h, List.all_append, ha]; simp [hb]
theorem name_end {l : List UInt8} (h : l.all isLow = true) : (decide (0 < (l.length : Int)) && decide ((l.length : Int) ≤ 16)) = nameB l := by
  have e : ((l.length : Int) ≤ 16) ↔ l.length ≤ 16 := by omega
  simp [nameB, h, e]
/-! ### numbers -/
theorem decFrom_bad {b : UInt8} (hb : ¬ isDig b) (r : List UInt8) : ∀ (a : List UInt8) (acc : Nat), decFrom acc (a ++ b :: r) = none
  | [], acc => by
    have : digitVal b = none := by unfold isDig at hb; unfold digitVal; rw [if_neg hb]
    simp [decFrom, this]
  | c :: a, acc => by
    rw [List.cons_append]
    simp only [decFrom]
    split
    · exact decFrom_bad hb r a _
    · rfl
theorem num_bad {l : List UInt8} {k : Nat} (h : k < l.length) (hb : ¬ isDig l[k]) : numV l = -1 := by
  unfold numV
  split
  · rfl
  · have e : l = l.take k ++ l[k] :: l.drop (k + 1) := by rw [← List.drop_eq_getElem_cons h, List.take_append_drop]
    have : decFrom 0 l = none := by
      conv => lhs; rw [e]
      exact decFrom_bad hb _ _ _
    rw [this]
theorem dig_at {l : List UInt8} {k : Nat} (h : k < l.length) : (at' (nums l) (k : Int) < 48 ∨ 57 < at' (nums l) (k : Int)) ↔ ¬ isDig l[k] := by
  rw [nums_at h]; unfold isDig; omega
theorem num_step {l : List UInt8} {k m : Nat} (h : k < l.length) (hd : isDig l[k]) (hm : decFrom 0 (l.take k) = some m) : decFrom 0 (l.take (k + 1)) = some (m * 10 + (l[k].toNat - 48)) := by
  rw [List.take_succ_eq_append_getElem h]; exact decFrom_snoc hd _ _ _ hm
theorem num_end {l : List UInt8} {m : Nat} (h1 : 1 ≤ l.length) (h2 : l.length ≤ 10) (hm : decFrom 0 l = some m) : numV l = m := by
  unfold numV; rw [if_neg (by omega), hm]
/-! ### digits -/
theorem dig_unnum (k : Nat) : unnum [IntKind.u8.wrap (48 + (k : Int) % 10)] = [UInt8.ofNat (48 + k % 10)] := by
  rw [u8_wrap (by omega) (by omega)]
  show [UInt8.ofNat (48 + (k : Int) % 10).toNat] = _
  rw [show (48 + (k : Int) % 10).toNat = 48 + k % 10 from by omega]
def DigInv (n k : Nat) (s : List UInt8) : Prop := (k = 0 ∧ s = decDigits n) ∨ (0 < k ∧ decDigits n = decDigits k ++ s)
theorem dig_start {n : Nat} (h : 0 < n) : DigInv n n [] := .inr ⟨h, by simp⟩
theorem dig_next {n k : Nat} {s : List UInt8} (h : DigInv n k s) (hk : 0 < k) : DigInv n (k / 10) (UInt8.ofNat (48 + k % 10) :: s) := by
  rcases h with ⟨h, _⟩ | ⟨_, h⟩
  · omega
  · have e : decDigits k = if h : k < 10 then [UInt8.ofNat (48 + k)] else decDigits (k / 10) ++ [UInt8.ofNat (48 + k % 10)] := by conv => lhs; rw [decDigits]
    rw [e] at h
    split at h
    · rename_i h10
      rw [show k / 10 = 0 from by omega, show k % 10 = k from by omega]
      exact .inl ⟨rfl, by rw [h]; rfl⟩
    · exact .inr ⟨by omega, by rw [h, List.append_assoc]; rfl⟩
theorem dig_end {n : Nat} {s : List UInt8} (h : DigInv n 0 s) : s = decDigits n := by
  rcases h with ⟨_, h⟩ | ⟨h, _⟩
  · exact h
  · omega
theorem dig_len {n k : Nat} {s : List UInt8} (h : DigInv n k s) : s.length ≤ (decDigits n).length := by
  rcases h with ⟨_, h⟩ | ⟨_, h⟩
  · rw [h]; exact Nat.le_refl _
  · rw [h, List.length_append]; omega
/-! ### parts -/
theorem splitL_snoc (c b : UInt8) : ∀ (l : List UInt8) (done : List (List UInt8)) (cur : List UInt8), splitL c l = done ++ [cur] → splitL c (l ++ [b]) = if b = c then done ++ [cur] ++ [[]] else done ++ [cur ++ [b]]
  | [], done, cur, h => by
    have h2 : [[]] = done ++ [cur] := h
    have hl := congrArg List.length h2
    have hd : done = [] := List.length_eq_zero_iff.1 (by simpa using hl)
    subst hd
    obtain rfl : cur = [] := by simpa using h2.symm
    by_cases hb : b = c <;> simp [hb, splitL]
  | a :: l, done, cur, h => by
    rw [List.cons_append]
    simp only [splitL] at h ⊢
    by_cases ha : a = c
    · rw [if_pos ha] at h ⊢
      cases done with
      | nil => injection h with _ h; exact absurd h (splitL_ne c l)
      | cons d done =>
        injection h with h1 h2
        rw [splitL_snoc c b l done cur h2, h1]
        by_cases hb : b = c <;> simp [hb]
    · rw [if_neg ha] at h ⊢
      cases hs : splitL c l with
      | nil => exact absurd hs (splitL_ne c l)
      | cons x t =>
        rw [hs] at h
        cases done with
        | nil =>
          have h : [a :: x] ++ t = [cur] := h
          have ht : t = [] := by have := congrArg List.length h; simpa using this
          subst ht
          obtain rfl : a :: x = cur := by simpa using h
          rw [splitL_snoc c b l [] x (by rw [hs]; rfl)]
          by_cases hb : b = c <;> simp [hb]
        | cons d done =>
          injection h with h1 h2
          subst h1
          rw [splitL_snoc c b l (x :: done) cur (by rw [hs, h2]; rfl)]
          by_cases hb : b = c <;> simp [hb]
/-- Behind i bytes: the parts that are done, and where the next one begins. -/
def PartsAt (l : List UInt8) (i f : Nat) (done : List (List UInt8)) : Prop :=
  if i ≤ l.length then f ≤ i ∧ splitL 45 (l.take i) = done ++ [(l.take i).drop f] else done = splitL 45 l
theorem parts_start (l : List UInt8) : PartsAt l 0 0 [] := by unfold PartsAt; rw [if_pos (Nat.zero_le _)]; simp [splitL]
theorem parts_skip {l : List UInt8} {i f : Nat} {done : List (List UInt8)} (h : PartsAt l i f done) (hi : i < l.length) (hb : l[i] ≠ 45) : PartsAt l (i + 1) f done := by
  unfold PartsAt at h ⊢
  rw [if_pos (by omega)] at h ⊢
  refine ⟨by omega, ?_⟩
  rw [List.take_succ_eq_append_getElem hi, splitL_snoc 45 _ _ _ _ h.2, if_neg hb, List.drop_append_of_le_length (by rw [List.length_take]; omega)]
theorem parts_cut {l : List UInt8} {i f : Nat} {done : List (List UInt8)} (h : PartsAt l i f done) (hi : i < l.length) (hb : l[i] = 45) : PartsAt l (i + 1) (i + 1) (done ++ [(l.take i).drop f]) := by
  unfold PartsAt at h ⊢
  rw [if_pos (by omega)] at h ⊢
  refine ⟨by omega, ?_⟩
  rw [List.take_succ_eq_append_getElem hi, splitL_snoc 45 _ _ _ _ h.2, if_pos hb, List.drop_of_length_le (l := l.take i ++ [l[i]]) (by simp; omega)]
theorem parts_last {l : List UInt8} {f : Nat} {done : List (List UInt8)} (h : PartsAt l l.length f done) (g : Nat) : PartsAt l (l.length + 1) g (done ++ [(l.take l.length).drop f]) := by
  unfold PartsAt at h ⊢
  rw [if_pos (Nat.le_refl _)] at h
  rw [if_neg (by omega), ← h.2, List.take_length]
theorem parts_end {l : List UInt8} {f : Nat} {done : List (List UInt8)} (h : PartsAt l (l.length + 1) f done) : done = splitL 45 l := by
  unfold PartsAt at h
  rwa [if_neg (by omega)] at h
theorem parts_from {l : List UInt8} {i f : Nat} {done : List (List UInt8)} (h : PartsAt l i f done) (hi : i ≤ l.length) : f ≤ i := by
  unfold PartsAt at h
  rw [if_pos hi] at h; exact h.1
theorem splitL_length (c : UInt8) (l : List UInt8) : (splitL c l).length ≤ l.length + 1 := by
  induction l with
  | nil => simp [splitL]
  | cons b l ih =>
    unfold splitL
    split
    · simp; omega
    · split <;> simp_all <;> omega
theorem parts_len {l : List UInt8} {i f : Nat} {done : List (List UInt8)} (h : PartsAt l i f done) (hi : i ≤ l.length) : done.length ≤ l.length := by
  unfold PartsAt at h
  rw [if_pos hi] at h
  have := splitL_length 45 (l.take i)
  rw [h.2, List.length_append, List.length_take] at this
  simp at this; omega
theorem part_mem (c : UInt8) : ∀ (l p : List UInt8), p ∈ splitL c l → p.length ≤ l.length
  | [], p, h => by rw [List.mem_singleton.1 h]; exact Nat.le_refl _
  | b :: l, p, h => by
    unfold splitL at h
    split at h
    · rcases List.mem_cons.1 h with rfl | h
      · simp
      · have := part_mem c l p h; simp; omega
    · split at h
      · rw [List.mem_singleton.1 h]; simp
      · rename_i x t hs
        rcases List.mem_cons.1 h with rfl | h
        · have := part_mem c l x (by rw [hs]; exact List.mem_cons_self); simp; omega
        · have := part_mem c l p (by rw [hs]; exact List.mem_cons_of_mem _ h); simp; omega
theorem part_len (l : List UInt8) (i : Int) : (at' (splitL 45 l) i).length ≤ l.length := by
  unfold at'
  rw [List.getD_eq_getElem?_getD]
  cases h : (splitL 45 l)[i.toNat]? with
  | none => exact Nat.zero_le _
  | some p => exact part_mem 45 l p (List.mem_of_getElem? h)
theorem good_expr (t : Tok) : (decide (1 ≤ (t.1.length : Int)) && decide ((t.1.length : Int) ≤ 16) && !!t.1.all isLow && decide (1 ≤ t.2.1) && decide (t.2.1 ≤ 2147483648) && decide (0 ≤ t.2.2) && decide (t.2.2 ≤ 2147483648)) = goodB t := by
  have e1 : ((1 : Int) ≤ (t.1.length : Int)) ↔ 0 < t.1.length := by omega
  have e2 : ((t.1.length : Int) ≤ 16) ↔ t.1.length ≤ 16 := by omega
  simp only [goodB, nameB, Bool.not_not, e1, e2]
theorem dec_no {l : List UInt8} (h : (splitL 45 l).length ≠ 4) : decOk l = false := by simp [decOk, h]
theorem ref_no {l : List UInt8} (h : (splitL 45 l).length ≠ 4) : refOk l = false := by simp [refOk, h]
theorem dec_expr {l : List UInt8} (h : (splitL 45 l).length = 4) : (!atoiB ((splitL 45 l).getD 1 []) || !atoiB ((splitL 45 l).getD 2 []) || decide (encE (tokOf l) ≠ 0) || decide (encT (tokOf l) ≠ l)) = !decOk l := by
  unfold decOk encE encT
  simp only [h, decide_true, Bool.true_and]
  cases h1 : goodB (tokOf l) with
  | false => simp
  | true => cases h2 : atoiB ((splitL 45 l).getD 1 []) <;> cases h3 : atoiB ((splitL 45 l).getD 2 []) <;> simp
theorem ref_expr {l : List UInt8} (h : (splitL 45 l).length = 4) : (!goodB (refTok l) || decide (textL (refTok l) ≠ l)) = !refOk l := by
  unfold refOk
  simp only [h, decide_true, Bool.true_and]
  cases h1 : goodB (refTok l) <;> simp
end Go.Tk
