/- Tokens, plain: texts cut at a byte, decimal digits, the check, a token's text; that of any text just a token's is read, and read back; that a text with one byte changed is no token's. -/
import Derived.Lib.AtoiTie
import Derived.Lib.SplitLaws
import Derived.Lib.ItoaMem
import Derived.Test.YtoaeaclcbcpheaaDoorG27
namespace Go.Tk
open Go Go.Gw Go.Lib
set_option linter.unusedVariables false
set_option linter.unusedSimpArgs false
/-! ### Cut at a byte -/
def splitL (c : UInt8) : List UInt8 → List (List UInt8)
  | [] => [[]]
  | b :: l => if b = c then [] :: splitL c l else match splitL c l with
    | [] => [[b]]
    | h :: t => (b :: h) :: t
theorem splitL_ne (c : UInt8) (l : List UInt8) : splitL c l ≠ [] := by
  cases l with
  | nil => simp [splitL]
  | cons b l => unfold splitL; split; · simp
                · split <;> simp
theorem splitK_eq (c : UInt8) : ∀ l : List UInt8, splitK [c] 0 (count l [c]) l = splitL c l
  | [] => by rw [count_miss (by simp [index])]; rfl
  | b :: l => by
    have ih := splitK_eq c l
    by_cases h : b = c
    · subst h
      have hix : index (b :: l) [b] = 0 := by rw [index]; simp [List.isPrefixOf]
      rw [count_cons_eq, Nat.add_comm, splitK, hix]
      simp [splitL, ih]
    · have hp : ([c] : List UInt8).isPrefixOf (b :: l) = false := by simp [List.isPrefixOf, Ne.symm h]
      have hix : index (b :: l) [c] = if index l [c] == -1 then -1 else index l [c] + 1 := by rw [index, hp]; simp
      rw [count_cons_ne b c l h, splitL, if_neg h, ← ih]
      cases hk : count l [c] with
      | zero => simp [splitK]
      | succ k =>
        have hne : index l [c] ≠ -1 := fun e => by rw [count_miss e] at hk; cases hk
        have hge := index_ge l [c]
        obtain ⟨j, hj⟩ : ∃ j : Nat, index l [c] = j := ⟨(index l [c]).toNat, by omega⟩
        have h1 : (index l [c] == -1) = false := by simpa using hne
        have h2 : index (b :: l) [c] = ((j + 1 : Nat) : Int) := by rw [hix, h1, hj]; simp
        have h3 : (index (b :: l) [c] == -1) = false := by rw [h2]; simp; omega
        rw [splitK, splitK, h1, h3, h2, hj]
        simp
theorem splitL_sep {c : UInt8} {a : List UInt8} (h : c ∉ a) (r : List UInt8) : splitL c (a ++ c :: r) = a :: splitL c r := by
  induction a with
  | nil => simp [splitL]
  | cons b a ih =>
    have h1 : b ≠ c := fun e => h (e ▸ List.mem_cons_self)
    have h2 := ih fun e => h (List.mem_cons_of_mem _ e)
    rw [List.cons_append, splitL, if_neg h1, h2]
theorem splitL_no {c : UInt8} {a : List UInt8} (h : c ∉ a) : splitL c a = [a] := by
  induction a with
  | nil => simp [splitL]
  | cons b a ih =>
    have h1 : b ≠ c := fun e => h (e ▸ List.mem_cons_self)
    have h2 := ih fun e => h (List.mem_cons_of_mem _ e)
    rw [splitL, if_neg h1, h2]
/-! ### Decimal digits -/
def isDig (b : UInt8) : Prop := 48 ≤ b.toNat ∧ b.toNat ≤ 57
theorem dig_of {d : Nat} (h : d < 10) : (UInt8.ofNat (48 + d)).toNat = 48 + d := by
  simp [UInt8.toNat_ofNat]; omega
theorem decDigits_dig (u : Nat) : ∀ b ∈ decDigits u, isDig b := by
  induction u using Nat.strongRecOn with
  | ind u ih =>
    intro b hb
    rw [decDigits] at hb
    split at hb
    · rename_i h
      rw [List.mem_singleton] at hb
      subst hb
      have := dig_of h; constructor <;> omega
    · rename_i h
      rcases List.mem_append.1 hb with hb | hb
      · exact ih (u / 10) (by omega) b hb
      · rw [List.mem_singleton] at hb
        subst hb
        have := dig_of (d := u % 10) (by omega); constructor <;> omega
theorem decDigits_ne (u : Nat) : decDigits u ≠ [] := by
  rw [decDigits]; split <;> simp
theorem decFrom_snoc {b : UInt8} (hb : isDig b) : ∀ (l : List UInt8) (acc n : Nat), decFrom acc l = some n → decFrom acc (l ++ [b]) = some (n * 10 + (b.toNat - 48))
  | [], acc, n, h => by
    simp only [decFrom] at h
    cases h
    simp [decFrom, digitVal, hb.1, hb.2]
  | a :: l, acc, n, h => by
    rw [List.cons_append]
    simp only [decFrom] at h ⊢
    split at h
    · exact decFrom_snoc hb l _ n h
    · cases h
theorem decFrom_digits (u : Nat) : decFrom 0 (decDigits u) = some u := by
  induction u using Nat.strongRecOn with
  | ind u ih =>
    rw [decDigits]
    split
    · rename_i h
      have := dig_of h
      have h2 : isDig (UInt8.ofNat (48 + u)) := ⟨by omega, by omega⟩
      have h3 := decFrom_snoc h2 [] 0 0 rfl
      rw [List.nil_append, this] at h3
      rw [h3]; congr 1; omega
    · rename_i h
      have h1 := dig_of (d := u % 10) (by omega)
      have h2 : isDig (UInt8.ofNat (48 + u % 10)) := ⟨by omega, by omega⟩
      rw [decFrom_snoc h2 _ _ _ (ih (u / 10) (by omega)), h1]
      congr 1; omega
theorem nDigits_le : ∀ (k u : Nat), u < 10 ^ (k + 1) → nDigits u ≤ k + 1
  | 0, u, h => by rw [nDigits_small (by simpa using h)]; omega
  | k + 1, u, h => by
    by_cases h1 : u < 10
    · rw [nDigits_small h1]; omega
    · rw [nDigits_big h1]
      have : u / 10 < 10 ^ (k + 1) := by rw [Nat.pow_succ] at h; omega
      have := nDigits_le k (u / 10) this
      omega
theorem itoa_len10 {n : Int} (h0 : 0 ≤ n) (h1 : n ≤ 2147483648) : 1 ≤ (itoa n).length ∧ (itoa n).length ≤ 10 := by
  obtain ⟨u, rfl⟩ : ∃ u : Nat, n = u := ⟨n.toNat, by omega⟩
  rw [itoa_nonneg]
  refine ⟨List.length_pos_iff.2 (decDigits_ne u), ?_⟩
  rw [decDigits_length]
  exact nDigits_le 9 u (by omega)
theorem itoa_dig {n : Int} (h0 : 0 ≤ n) : ∀ b ∈ itoa n, isDig b := by
  obtain ⟨u, rfl⟩ : ∃ u : Nat, n = u := ⟨n.toNat, by omega⟩
  rw [itoa_nonneg]
  exact decDigits_dig u
/-- What strconv.Atoi gives: the number, and whether the error is nil. -/
def atoiV (l : List UInt8) : Int := match atoiAll l with
  | .ok v => v
  | .syntax => 0
  | .range => atoiSat l
def atoiB (l : List UInt8) : Bool := match atoiAll l with
  | .ok _ => true
  | _ => false
theorem atoi_digits {l : List UInt8} (hd : ∀ b ∈ l, isDig b) : atoi l = (decNat l).map fun (m : Nat) => (m : Int) := by
  cases l with
  | nil => rfl
  | cons b r =>
    have hb := hd b List.mem_cons_self
    have h1 : (b == 45) = false := by simp; rintro rfl; revert hb; unfold isDig; decide
    have h2 : (b == 43) = false := by simp; rintro rfl; revert hb; unfold isDig; decide
    simp [atoi, h1, h2]
theorem atoi_itoa {n : Int} (h0 : 0 ≤ n) (h1 : n ≤ 2147483648) : atoiAll (itoa n) = .ok n := by
  have hl := itoa_len10 h0 h1
  rw [atoiAll_short _ (by omega), atoi_digits (itoa_dig h0)]
  obtain ⟨u, rfl⟩ : ∃ u : Nat, n = u := ⟨n.toNat, by omega⟩
  rw [itoa_nonneg] at hl ⊢
  have : (decDigits u).isEmpty = false := by rw [List.isEmpty_eq_false_iff]; exact decDigits_ne u
  simp [decNat, this, decFrom_digits, NumEnd.ofOption]
theorem atoiV_itoa {n : Int} (h0 : 0 ≤ n) (h1 : n ≤ 2147483648) : atoiV (itoa n) = n := by rw [atoiV, atoi_itoa h0 h1]
theorem atoiB_itoa {n : Int} (h0 : 0 ≤ n) (h1 : n ≤ 2147483648) : atoiB (itoa n) = true := by rw [atoiB, atoi_itoa h0 h1]
/-- The reference's number. -/
def numV (l : List UInt8) : Int := if l.length < 1 ∨ 10 < l.length then -1 else match decFrom 0 l with
  | some n => n
  | none => -1
theorem numV_itoa {n : Int} (h0 : 0 ≤ n) (h1 : n ≤ 2147483648) : numV (itoa n) = n := by
  have hl := itoa_len10 h0 h1
  unfold numV
  rw [if_neg (by omega)]
  obtain ⟨u, rfl⟩ : ∃ u : Nat, n = u := ⟨n.toNat, by omega⟩
  rw [itoa_nonneg, decFrom_digits]
/-! ### The check -/
def wsum : Nat → List UInt8 → Nat
  | _, [] => 0
  | i, b :: l => b.toNat * (i + 1) + wsum (i + 1) l
theorem wsum_snoc (b : UInt8) : ∀ (l : List UInt8) (i : Nat), wsum i (l ++ [b]) = wsum i l + b.toNat * (i + l.length + 1)
  | [], i => by simp [wsum]
  | a :: l, i => by
    rw [List.cons_append, wsum, wsum_snoc b l, wsum, List.length_cons]
    rw [show i + 1 + l.length + 1 = i + (l.length + 1) + 1 from by omega]; omega
theorem wsum_take {l : List UInt8} {k : Nat} (h : k < l.length) : wsum 0 (l.take (k + 1)) = wsum 0 (l.take k) + l[k].toNat * (k + 1) := by
  rw [List.take_succ_eq_append_getElem h, wsum_snoc, List.length_take]
  congr 2; omega
theorem wsum_set (b : UInt8) : ∀ (l : List UInt8) (i k : Nat) (h : k < l.length), (wsum i (l.set k b) : Int) = wsum i l + ((b.toNat : Int) - l[k].toNat) * ((i : Int) + k + 1)
  | [], i, k, h => by simp at h
  | a :: l, i, 0, h => by
    simp only [List.set_cons_zero, wsum, List.getElem_cons_zero]
    push_cast
    rw [Int.sub_mul]; simp; omega
  | a :: l, i, k + 1, h => by
    simp only [List.set_cons_succ, wsum, List.getElem_cons_succ]
    have h2 : k < l.length := by simpa using h
    push_cast
    rw [wsum_set b l (i + 1) k h2]
    push_cast
    rw [show ((i : Int) + 1 + k + 1) = (i : Int) + (k + 1) + 1 from by omega]; omega
def sumL (l : List UInt8) : Nat := wsum 0 l % 676
theorem sumL_lt (l : List UInt8) : sumL l < 676 := Nat.mod_lt _ (by decide)
def checkL (l : List UInt8) : List UInt8 := [UInt8.ofNat (97 + sumL l / 26), UInt8.ofNat (97 + sumL l % 26)]
def isLow (b : UInt8) : Bool := decide (97 ≤ b.toNat) && decide (b.toNat ≤ 122)
theorem let_of {d : Nat} (h : d < 26) : (UInt8.ofNat (97 + d)).toNat = 97 + d := by
  simp [UInt8.toNat_ofNat]; omega
theorem check_low (l : List UInt8) : ∀ b ∈ checkL l, isLow b = true := by
  intro b hb
  have h := sumL_lt l
  have h1 := let_of (d := sumL l / 26) (by omega)
  have h2 := let_of (d := sumL l % 26) (by omega)
  unfold isLow
  rcases List.mem_cons.1 hb with rfl | hb
  · simp; omega
  · rw [List.mem_singleton.1 hb]; simp; omega
theorem check_inj {a b : List UInt8} (h : checkL a = checkL b) : sumL a = sumL b := by
  have ha := sumL_lt a
  have hb := sumL_lt b
  unfold checkL at h
  injection h with h1 h2
  injection h2 with h2 _
  have e1 := congrArg UInt8.toNat h1
  have e2 := congrArg UInt8.toNat h2
  rw [let_of (by omega), let_of (by omega)] at e1 e2
  omega
theorem check_len (l : List UInt8) : (checkL l).length = 2 := rfl
/-! ### Tokens -/
abbrev Tok := List UInt8 × Int × Int
def zeroT : Tok := ([], 0, 0)
def nameB (v : List UInt8) : Bool := decide (0 < v.length) && decide (v.length ≤ 16) && v.all isLow
def goodB (t : Tok) : Bool := nameB t.1 && decide (1 ≤ t.2.1) && decide (t.2.1 ≤ 2147483648) && decide (0 ≤ t.2.2) && decide (t.2.2 ≤ 2147483648)
theorem good_iff {t : Tok} : goodB t = true ↔ (0 < t.1.length ∧ t.1.length ≤ 16 ∧ ∀ b ∈ t.1, isLow b = true) ∧ 1 ≤ t.2.1 ∧ t.2.1 ≤ 2147483648 ∧ 0 ≤ t.2.2 ∧ t.2.2 ≤ 2147483648 := by
  simp [goodB, nameB, List.all_eq_true, and_assoc]
def bodyL (t : Tok) : List UInt8 := t.1 ++ [45] ++ itoa t.2.1 ++ [45] ++ itoa t.2.2
def textL (t : Tok) : List UInt8 := bodyL t ++ [45] ++ checkL (bodyL t)
def encT (t : Tok) : List UInt8 := if goodB t then textL t else []
def encE (t : Tok) : Int := if goodB t then 0 else 1
def tokOf (l : List UInt8) : Tok := ((splitL 45 l).getD 0 [], atoiV ((splitL 45 l).getD 1 []), atoiV ((splitL 45 l).getD 2 []))
def decOk (l : List UInt8) : Bool := decide ((splitL 45 l).length = 4) && atoiB ((splitL 45 l).getD 1 []) && atoiB ((splitL 45 l).getD 2 []) && goodB (tokOf l) && decide (textL (tokOf l) = l)
def decT (l : List UInt8) : Tok := if decOk l then tokOf l else zeroT
def decE (l : List UInt8) : Int := if decOk l then 0 else 190
def refTok (l : List UInt8) : Tok := ((splitL 45 l).getD 0 [], numV ((splitL 45 l).getD 1 []), numV ((splitL 45 l).getD 2 []))
def refOk (l : List UInt8) : Bool := decide ((splitL 45 l).length = 4) && goodB (refTok l) && decide (textL (refTok l) = l)
def refT (l : List UInt8) : Tok := if refOk l then refTok l else zeroT
theorem low_no {l : List UInt8} (h : ∀ b ∈ l, isLow b = true) : (45 : UInt8) ∉ l := fun e => by have := h _ e; revert this; decide
theorem dig_no {l : List UInt8} (h : ∀ b ∈ l, isDig b) : (45 : UInt8) ∉ l := fun e => by have := h _ e; revert this; unfold isDig; decide
theorem text_split {t : Tok} (h : goodB t = true) : splitL 45 (textL t) = [t.1, itoa t.2.1, itoa t.2.2, checkL (bodyL t)] := by
  obtain ⟨⟨_, _, hv⟩, h1, h2, h3, h4⟩ := good_iff.1 h
  have e : textL t = t.1 ++ 45 :: (itoa t.2.1 ++ 45 :: (itoa t.2.2 ++ 45 :: checkL (bodyL t))) := by simp [textL, bodyL]
  rw [e, splitL_sep (low_no hv), splitL_sep (dig_no (itoa_dig (by omega))), splitL_sep (dig_no (itoa_dig h3)), splitL_no (low_no (check_low _))]
theorem tok_text {t : Tok} (h : goodB t = true) : tokOf (textL t) = t := by
  obtain ⟨_, h1, h2, h3, h4⟩ := good_iff.1 h
  simp [tokOf, text_split h, atoiV_itoa (show 0 ≤ t.2.1 by omega) h2, atoiV_itoa h3 h4]
theorem dec_text {t : Tok} (h : goodB t = true) : decOk (textL t) = true := by
  obtain ⟨_, h1, h2, h3, h4⟩ := good_iff.1 h
  simp [decOk, tok_text h, h, text_split h, atoiB_itoa (show 0 ≤ t.2.1 by omega) h2, atoiB_itoa h3 h4]
theorem ref_text {t : Tok} (h : goodB t = true) : refOk (textL t) = true ∧ refTok (textL t) = t := by
  obtain ⟨_, h1, h2, h3, h4⟩ := good_iff.1 h
  have e : refTok (textL t) = t := by simp [refTok, text_split h, numV_itoa (show 0 ≤ t.2.1 by omega) h2, numV_itoa h3 h4]
  exact ⟨by simp [refOk, e, h, text_split h], e⟩
theorem dec_iff {l : List UInt8} : decOk l = true ↔ ∃ t, goodB t = true ∧ textL t = l := by
  constructor
  · intro h
    simp [decOk] at h
    exact ⟨tokOf l, h.1.2, h.2⟩
  · rintro ⟨t, h, rfl⟩; exact dec_text h
theorem ref_iff {l : List UInt8} : refOk l = true ↔ ∃ t, goodB t = true ∧ textL t = l := by
  constructor
  · intro h
    simp [refOk] at h
    exact ⟨refTok l, h.1.2, h.2⟩
  · rintro ⟨t, h, rfl⟩; exact (ref_text h).1
theorem ref_dec (l : List UInt8) : refOk l = decOk l := Bool.eq_iff_iff.2 (ref_iff.trans dec_iff.symm)
theorem ref_tok {l : List UInt8} (h : decOk l = true) : refTok l = tokOf l := by
  obtain ⟨t, h1, rfl⟩ := dec_iff.1 h
  rw [(ref_text h1).2, tok_text h1]
theorem dec_good {l : List UInt8} (h : decOk l = true) : goodB (tokOf l) = true ∧ textL (tokOf l) = l := by
  simp [decOk] at h
  exact ⟨h.1.2, h.2⟩
theorem text_inj {t u : Tok} (ht : goodB t = true) (hu : goodB u = true) : textL t = textL u ↔ t = u :=
  ⟨fun h => by rw [← tok_text ht, h, tok_text hu], fun h => h ▸ rfl⟩
theorem itoa_le {n : Int} (h0 : 0 ≤ n) (h1 : n ≤ 2147483648) : (itoa n).length ≤ 10 := (itoa_len10 h0 h1).2
theorem body_len {t : Tok} (h : goodB t = true) : (bodyL t).length ≤ 38 := by
  obtain ⟨⟨_, h5, _⟩, h1, h2, h3, h4⟩ := good_iff.1 h
  have := itoa_le (show 0 ≤ t.2.1 by omega) h2
  have := itoa_le h3 h4
  simp [bodyL]; omega
theorem text_len {t : Tok} : (textL t).length = (bodyL t).length + 3 := by simp [textL, check_len]
/-! ### One byte changed -/
theorem body_eq (t : Tok) : bodyL t = t.1 ++ 45 :: (itoa t.2.1 ++ 45 :: itoa t.2.2) := by simp [bodyL]
theorem body_count {t : Tok} (h : goodB t = true) : (bodyL t).count 45 = 2 := by
  obtain ⟨⟨_, _, hv⟩, h1, h2, h3, h4⟩ := good_iff.1 h
  rw [body_eq, List.count_append, List.count_cons_self, List.count_append, List.count_cons_self, List.count_eq_zero_of_not_mem (low_no hv), List.count_eq_zero_of_not_mem (dig_no (itoa_dig (by omega))), List.count_eq_zero_of_not_mem (dig_no (itoa_dig h3))]
theorem body_byte {t : Tok} (h : goodB t = true) {i : Nat} {b : UInt8} (hb : (bodyL t)[i]? = some b) : (isLow b = true ∧ (45 : UInt8) ∉ (bodyL t).take i) ∨ b = 45 ∨ (isDig b ∧ (45 : UInt8) ∈ (bodyL t).take i) := by
  obtain ⟨⟨_, _, hv⟩, h1, h2, h3, h4⟩ := good_iff.1 h
  rw [body_eq] at hb ⊢
  by_cases hi : i < t.1.length
  · rw [List.getElem?_append_left hi] at hb
    refine .inl ⟨hv b (List.mem_of_getElem? hb), ?_⟩
    rw [List.take_append_of_le_length (by omega)]
    exact fun e => low_no hv (List.mem_of_mem_take e)
  · rw [List.getElem?_append_right (by omega)] at hb
    obtain ⟨j, rfl⟩ : ∃ j, i = t.1.length + j := ⟨i - t.1.length, by omega⟩
    rw [Nat.add_sub_cancel_left] at hb
    cases j with
    | zero => rw [List.getElem?_cons_zero] at hb; exact .inr (.inl (Option.some.inj hb).symm)
    | succ j =>
      rw [List.getElem?_cons_succ] at hb
      have hm : (45 : UInt8) ∈ (t.1 ++ 45 :: (itoa t.2.1 ++ 45 :: itoa t.2.2)).take (t.1.length + (j + 1)) := by
        rw [List.take_append]
        refine List.mem_append_right _ ?_
        rw [Nat.add_sub_cancel_left, List.take_succ_cons]
        exact List.mem_cons_self
      rcases List.mem_append.1 (List.mem_of_getElem? hb) with e | e
      · exact .inr (.inr ⟨itoa_dig (show 0 ≤ t.2.1 by omega) b e, hm⟩)
      · rcases List.mem_cons.1 e with e | e
        · exact .inr (.inl e)
        · exact .inr (.inr ⟨itoa_dig h3 b e, hm⟩)
theorem no_turn : ∀ w : Nat, w < 39 → ∀ d : Nat, d < 26 → 0 < w → 0 < d → (d * w) % 676 ≠ 0 := by decide +kernel
theorem count_set {l : List UInt8} {k : Nat} (h : k < l.length) (b c : UInt8) : (l.set k b).count c + (if l[k] = c then 1 else 0) = l.count c + (if b = c then 1 else 0) := by
  induction l generalizing k with
  | nil => simp at h
  | cons a l ih =>
    cases k with
    | zero =>
      simp only [List.set_cons_zero, List.getElem_cons_zero, List.count_cons]
      simp; omega
    | succ k =>
      have h2 : k < l.length := by simpa using h
      have := ih h2
      simp only [List.set_cons_succ, List.getElem_cons_succ, List.count_cons]
      omega
theorem turned {t : Tok} (ht : goodB t = true) {k : Nat} (hk : k < (textL t).length - 3) {b : UInt8} (hb : b ≠ (textL t)[k]'(by omega)) : decOk ((textL t).set k b) = false := by
  rw [text_len] at hk
  have hk : k < (bodyL t).length := by omega
  rw [Bool.eq_false_iff]
  intro hd
  obtain ⟨u, hu, e⟩ := dec_iff.1 hd
  have hl : (bodyL u).length = (bodyL t).length := by
    have := congrArg List.length e
    rw [List.length_set, text_len, text_len] at this; omega
  have e1 : (textL t).set k b = (bodyL t).set k b ++ ([45] ++ checkL (bodyL t)) := by
    rw [textL, List.append_assoc, List.set_append_left _ _ hk]
  have e2 : textL u = bodyL u ++ ([45] ++ checkL (bodyL u)) := by rw [textL, List.append_assoc]
  rw [e1, e2] at e
  obtain ⟨e3, e4⟩ := List.append_inj e (by rw [List.length_set, hl])
  have e5 : checkL (bodyL u) = checkL (bodyL t) := by simpa using e4
  have hg : (textL t)[k]'(by rw [text_len]; omega) = (bodyL t)[k] := by
    simp only [textL, List.append_assoc]
    rw [List.getElem_append_left hk]
  rw [hg] at hb
  have hs := check_inj e5
  unfold sumL at hs
  rw [e3] at hs
  have hw := wsum_set b (bodyL t) 0 k hk
  have hlen := body_len ht
  generalize ha : (bodyL t)[k] = a at hb hw
  have hta : (bodyL t)[k]? = some a := by rw [List.getElem?_eq_getElem hk, ha]
  have hub : (bodyL u)[k]? = some b := by rw [e3, List.getElem?_set_self hk]
  have htk : (bodyL u).take k = (bodyL t).take k := by rw [e3, List.take_set_of_le (Nat.le_refl _)]
  have hc := count_set hk b 45
  rw [ha, ← e3, body_count ht, body_count hu] at hc
  have hd2 : a.toNat ≠ b.toNat := fun e => hb (UInt8.toNat_inj.1 e.symm)
  have hdiff : (a.toNat < b.toNat ∧ b.toNat - a.toNat < 26) ∨ (b.toNat < a.toNat ∧ a.toNat - b.toNat < 26) := by
    have hA := body_byte ht hta
    have hB := body_byte hu hub
    rw [htk] at hB
    by_cases ha5 : a = 45
    · rw [if_pos ha5] at hc
      by_cases hb5 : b = 45
      · exact absurd (hb5.trans ha5.symm) hb
      · rw [if_neg hb5] at hc; omega
    · rw [if_neg ha5] at hc
      have hb5 : b ≠ 45 := fun e => by rw [if_pos e] at hc; omega
      rcases hA with ⟨x1, x2⟩ | x1 | ⟨x1, x2⟩
      · rcases hB with ⟨y1, y2⟩ | y1 | ⟨y1, y2⟩
        · simp [isLow] at x1 y1; omega
        · exact absurd y1 hb5
        · exact absurd y2 x2
      · exact absurd x1 ha5
      · rcases hB with ⟨y1, y2⟩ | y1 | ⟨y1, y2⟩
        · exact absurd x2 y2
        · exact absurd y1 hb5
        · unfold isDig at x1 y1; omega
  rcases hdiff with ⟨h1, h2⟩ | ⟨h1, h2⟩
  · have := no_turn (k + 1) (by omega) (b.toNat - a.toNat) h2 (by omega) (by omega)
    have hz : (wsum 0 ((bodyL t).set k b) : Int) = wsum 0 (bodyL t) + ((b.toNat - a.toNat) * (k + 1) : Nat) := by
      rw [hw]; push_cast [Nat.le_of_lt h1]; simp
    generalize (b.toNat - a.toNat) * (k + 1) = z at *
    omega
  · have := no_turn (k + 1) (by omega) (a.toNat - b.toNat) h2 (by omega) (by omega)
    have hz : (wsum 0 ((bodyL t).set k b) : Int) = wsum 0 (bodyL t) - ((a.toNat - b.toNat) * (k + 1) : Nat) := by
      rw [hw]; push_cast [Nat.le_of_lt h1]
      rw [show ((b.toNat : Int) - a.toNat) = -((a.toNat : Int) - b.toNat) from by omega, Int.neg_mul]; simp; omega
    generalize (a.toNat - b.toNat) * (k + 1) = z at *
    omega
end Go.Tk
