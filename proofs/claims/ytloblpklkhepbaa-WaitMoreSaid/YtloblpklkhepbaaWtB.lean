/- Who waits for whom in a ring: rows of bits, as numbers. -/
import Derived.Test.YtloblpklkhepbaaG9
import Derived.Test.YtloblpklkhepbaaWtA
namespace Go.Wt
open Go Go.Gw

/-! ### bits -/
theorem wrap_u32 {n : Int} (h0 : 0 ≤ n) (h : n < 4294967296) : IntKind.u32.wrap n = n := by
  simp only [IntKind.wrap, IntKind.bits, IntKind.signed]; simp; omega
theorem ofInt_nat (x : Nat) : BitVec.ofInt 32 (x : Int) = BitVec.ofNat 32 x := by
  apply BitVec.eq_of_toNat_eq; simp
theorem bitsV_or_nat {x y : Nat} (hx : x < 2 ^ 32) (hy : y < 2 ^ 32) : bitsV .or .u32 (x : Int) (y : Int) = ((x ||| y : Nat) : Int) := by
  have h1 : (BitVec.ofInt 32 (x : Int) ||| BitVec.ofInt 32 (y : Int)).toNat = x ||| y := by
    rw [ofInt_nat, ofInt_nat, BitVec.toNat_or, BitVec.toNat_ofNat, BitVec.toNat_ofNat, Nat.mod_eq_of_lt hx, Nat.mod_eq_of_lt hy]
  have h2 : x ||| y < 2 ^ 32 := Nat.or_lt_two_pow hx hy
  show IntKind.u32.wrap (((BitVec.ofInt 32 (x : Int) ||| BitVec.ofInt 32 (y : Int)).toNat : Nat) : Int) = _
  rw [h1, wrap_u32 (by omega) (by omega)]
theorem bitsV_and_nat {x y : Nat} (hx : x < 2 ^ 32) (hy : y < 2 ^ 32) : bitsV .and .u32 (x : Int) (y : Int) = ((x &&& y : Nat) : Int) := by
  have h1 : (BitVec.ofInt 32 (x : Int) &&& BitVec.ofInt 32 (y : Int)).toNat = x &&& y := by
    rw [ofInt_nat, ofInt_nat, BitVec.toNat_and, BitVec.toNat_ofNat, BitVec.toNat_ofNat, Nat.mod_eq_of_lt hx, Nat.mod_eq_of_lt hy]
  have h2 : x &&& y < 2 ^ 32 := Nat.and_lt_two_pow x hy
  show IntKind.u32.wrap (((BitVec.ofInt 32 (x : Int) &&& BitVec.ofInt 32 (y : Int)).toNat : Nat) : Int) = _
  rw [h1, wrap_u32 (by omega) (by omega)]
theorem shl_one {j : Int} (h0 : 0 ≤ j) (h : j ≤ 31) : IntKind.u32.wrap (1 * 2 ^ min j.toNat IntKind.u32.bits) = ((2 ^ j.toNat : Nat) : Int) := by
  have h1 : min j.toNat IntKind.u32.bits = j.toNat := by show min j.toNat 32 = _; omega
  rw [h1, Int.one_mul]
  have h2 : (2 : Nat) ^ j.toNat < 2 ^ 32 := Nat.pow_lt_pow_right (by omega) (by omega)
  rw [show ((2 : Int) ^ j.toNat) = ((2 ^ j.toNat : Nat) : Int) from by norm_cast]
  have h3 : (2 : Nat) ^ 32 = 4294967296 := rfl
  rw [h3] at h2
  exact wrap_u32 (Int.natCast_nonneg _) (Int.ofNat_lt.2 h2)
theorem or_bit {x : Nat} (hx : x < 2 ^ 32) {j : Int} (h0 : 0 ≤ j) (h : j ≤ 31) : bitsV .or .u32 (x : Int) (IntKind.u32.wrap (1 * 2 ^ min j.toNat IntKind.u32.bits)) = ((x ||| 2 ^ j.toNat : Nat) : Int) := by
  rw [shl_one h0 h]
  exact bitsV_or_nat hx (Nat.pow_lt_pow_right (by omega) (by omega))
theorem shr_nat {x : Nat} {j : Int} (h0 : 0 ≤ j) (h : j ≤ 31) : (x : Int).fdiv (2 ^ min j.toNat IntKind.u32.bits) = ((x / 2 ^ j.toNat : Nat) : Int) := by
  have h1 : min j.toNat IntKind.u32.bits = j.toNat := by show min j.toNat 32 = _; omega
  rw [h1, show ((2 : Int) ^ j.toNat) = ((2 ^ j.toNat : Nat) : Int) from by norm_cast, Int.fdiv_eq_ediv_of_nonneg _ (Int.natCast_nonneg _)]
  norm_cast
/-- 'x>>j&1 == 1'. -/
theorem test_bit {x : Nat} (hx : x < 2 ^ 32) {j : Int} (h0 : 0 ≤ j) (h : j ≤ 31) : decide (bitsV .and .u32 ((x : Int).fdiv (2 ^ min j.toNat IntKind.u32.bits)) 1 = 1) = x.testBit j.toNat := by
  have h3 := bitsV_and_nat (x := x / 2 ^ j.toNat) (y := 1) (Nat.lt_of_le_of_lt (Nat.div_le_self _ _) hx) (by omega)
  rw [shr_nat h0 h]
  have h4 : ((1 : Nat) : Int) = 1 := rfl
  rw [h4] at h3
  rw [h3]
  have h5 : (x / 2 ^ j.toNat) &&& 1 = (x / 2 ^ j.toNat) % 2 := Nat.and_one_is_mod _
  rw [h5, Nat.testBit_eq_decide_div_mod_eq]
  by_cases hq : x / 2 ^ j.toNat % 2 = 1
  · simp [hq]
  · have : ¬ (((x / 2 ^ j.toNat % 2 : Nat) : Int) = 1) := by omega
    rw [decide_eq_false this, decide_eq_false hq]

/-! ### rows -/
abbrev kRow : Kd Nat := kiso (kint .u32) fun n => (n : Int)
abbrev kRows : Kd (List Nat) := karr 17 kRow
def okE (es : Es) : Prop := ∀ e ∈ es, 1 ≤ e.1 ∧ e.1 ≤ 16 ∧ 1 ≤ e.2 ∧ e.2 ≤ 16
theorem okE_of {es : Es} (h : badB es = false) : okE es := by
  simp only [badB, Bool.or_eq_false_iff] at h
  intro e he
  have := List.any_eq_false.1 h.2 e he
  simp only [badE, outB, Bool.or_eq_true, decide_eq_true_eq, not_or] at this
  omega
def rowsStep (r : List Nat) (e : Int × Int) : List Nat := r.set e.1.toNat (at' r e.1 ||| 2 ^ e.2.toNat)
def rowsOf (es : Es) : List Nat := es.foldl rowsStep (List.replicate 17 0)
def Small (r : List Nat) : Prop := r.length = 17 ∧ ∀ v ∈ r, v < 2 ^ 17
theorem Small.at_ {r : List Nat} (h : Small r) (i : Int) : at' r i < 2 ^ 17 := by
  unfold at'
  rw [List.getD_eq_getElem?_getD]
  cases hg : r[i.toNat]? with
  | none => exact Nat.two_pow_pos 17
  | some v => exact h.2 v (List.mem_of_getElem? hg)
theorem Small.set {r : List Nat} (h : Small r) (i v : Nat) (hv : v < 2 ^ 17) : Small (r.set i v) := by
  refine ⟨by simp [h.1], fun u hu => ?_⟩
  rcases List.mem_or_eq_of_mem_set hu with hu | rfl
  · exact h.2 u hu
  · exact hv
theorem small_step {r : List Nat} {e : Int × Int} (h : Small r) (he : 1 ≤ e.2 ∧ e.2 ≤ 16) : Small (rowsStep r e) :=
  h.set _ _ (Nat.or_lt_two_pow (h.at_ _) (Nat.pow_lt_pow_right (by omega) (by omega)))
theorem small_fold {r : List Nat} : ∀ {es : Es}, Small r → okE es → Small (es.foldl rowsStep r)
  | [], h, _ => h
  | e :: es, h, ho => small_fold (es := es) (small_step h ⟨(ho e (by simp)).2.2.1, (ho e (by simp)).2.2.2⟩) (fun x hx => ho x (by simp [hx]))
theorem small_zero : Small (List.replicate 17 0) := ⟨by simp, fun v hv => by rw [(List.mem_replicate.1 hv).2]; exact Nat.two_pow_pos 17⟩
theorem small_rows {es : Es} (h : okE es) : Small (rowsOf es) := small_fold small_zero h
theorem okE_take {es : Es} (h : okE es) (k : Nat) : okE (es.take k) := fun e he => h e (List.mem_of_mem_take he)
theorem okE_at {es : Es} (h : okE es) {k : Nat} (hk : k < es.length) : 1 ≤ (at' es (k : Int)).1 ∧ (at' es (k : Int)).1 ≤ 16 ∧ 1 ≤ (at' es (k : Int)).2 ∧ (at' es (k : Int)).2 ≤ 16 := by
  rw [at'_nat hk]; exact h _ (List.getElem_mem hk)
theorem rows_snoc {es : Es} {k : Nat} (hk : k < es.length) : rowsOf (es.take (k + 1)) = rowsStep (rowsOf (es.take k)) (at' es (k : Int)) := by
  unfold rowsOf
  rw [List.take_succ_eq_append_getElem hk, List.foldl_append, at'_nat hk]
  rfl

/-! ### over several -/
def closeStep (k : Int) (r : List Nat) (i : Int) : List Nat := if (at' r i).testBit k.toNat then r.set i.toNat (at' r i ||| at' r k) else r
/-- What i up to n have become by k. -/
def closeI (k : Int) (r : List Nat) : Nat → List Nat
  | 0 => r
  | n + 1 => closeStep k (closeI k r n) ((n : Int) + 1)
def closeK (r : List Nat) : Nat → List Nat
  | 0 => r
  | n + 1 => closeI ((n : Int) + 1) (closeK r n) 16
def closedOf (r : List Nat) : List Nat := closeK r 16
theorem small_closeStep {k i : Int} {r : List Nat} (h : Small r) : Small (closeStep k r i) := by
  unfold closeStep
  split
  · exact h.set _ _ (Nat.or_lt_two_pow (h.at_ _) (h.at_ _))
  · exact h
theorem small_closeI {k : Int} {r : List Nat} (h : Small r) : ∀ n, Small (closeI k r n)
  | 0 => h
  | n + 1 => small_closeStep (small_closeI h n)
theorem small_closeK {r : List Nat} (h : Small r) : ∀ n, Small (closeK r n)
  | 0 => h
  | n + 1 => small_closeI (small_closeK h n) 16
theorem small_closed {r : List Nat} (h : Small r) : Small (closedOf r) := small_closeK h 16
/-- Those that are caught, up to s. -/
def caughtTo (r : List Nat) : Nat → List Int
  | 0 => []
  | n + 1 => if (at' (closedOf r) (n : Int)).testBit n && decide (0 < (n : Int)) then caughtTo r n ++ [(n : Int)] else caughtTo r n
def caughtOf (r : List Nat) : List Int := caughtTo r 17
theorem caughtTo_len (r : List Nat) : ∀ n, (caughtTo r n).length ≤ n
  | 0 => Nat.le_refl _
  | n + 1 => by
    have := caughtTo_len r n
    unfold caughtTo
    split
    · simp; omega
    · omega
end Go.Wt
