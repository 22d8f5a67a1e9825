/- The library's functions that the token package calls, as contracts of types: strconv.Itoa, strconv.Atoi, strings.Split, strings.ContainsFunc, stringslite.Clone. -/
import Derived.Test.YtoaeaclcbcpheaaDoorTkK
import Derived.Test.YtoaeaclcbcpheaaDoorTkP
import Derived.Laws.RangeAny
namespace Go.Proofs.YtoaeaclcbcpheaaDoor
open Go Go.Gw Go.Tk Go.RowKit
set_option linter.unusedVariables false
set_option linter.unusedSimpArgs false
/-- The package-level variables that are read, in the frozen heap. -/
structure VarsK (K0 : FH) : Prop where
  tab : ∀ w, On K0 w → Lib.TabIs Tryd.prog w Tryd.tabName .u64 Lib.pow10Tab
  syn : ∃ tp p, ∀ w, On K0 w → w.var? Tryd.prog "strconv.ErrSyntax" = some #[.iface tp p]
  rng : ∃ tp p, ∀ w, On K0 w → w.var? Tryd.prog "strconv.ErrRange" = some #[.iface tp p]
  len : ∃ m, ∀ w, On K0 w → w.cell? ⟨Tryd.lSplit_ren.g 1, 0, none⟩ = some (.int .i64 m)
theorem on_sub {K0 H : FH} {w : World} (hs : Sub K0 H) (h : On H w) : On K0 w := fun k o e => h k o (hs k o e)
section
variable {K0 : FH} {n0 : Nat}
theorem one_arg {H : FH} {A : Ty} {args : List Value} (h : AllP H [A] args) : ∃ v, args = [v] ∧ A.p H v := by
  match args, h with
  | [v], h => exact ⟨v, rfl, h.1⟩
theorem two_arg {H : FH} {A B : Ty} {args : List Value} (h : AllP H [A, B] args) : ∃ u v, args = [u, v] ∧ A.p H u ∧ B.p H v := by
  match args, h with
  | [u, v], h => exact ⟨u, v, rfl, h.1, h.2.1⟩
theorem Itoa_ct (hV : VarsK K0) (n : Int) (h0 : -9223372036854775808 ≤ n) (h1 : n ≤ 9223372036854775807) : CtM K0 n0 Tryd.prog 17 [I64 n] [] Unit (fun _ => BsT (Lib.itoa n)) (fun _ => []) (fun _ => True) :=
  ct_below fun H w args hK hon hA => by
    obtain ⟨v, rfl, hv⟩ := one_arg hA
    obtain rfl : v = .int .i64 n := hv
    exact (Tryd.itoa_in n h0 h1 w (hV.tab w (on_sub hK hon))).mono fun e w' ⟨he, hb⟩ => ⟨_, he, rfl, hb⟩
theorem Atoi_ct (hV : VarsK K0) (l : List UInt8) (hl : l.length ≤ 281474976710656) : CtM K0 n0 Tryd.prog 20 [BsT l] [] Unit (fun _ => TupT [I64 (atoiV l), ErrT (atoiB l)]) (fun _ => []) (fun _ => True) :=
  ct_below fun H w args hK hon hA => by
    obtain ⟨v, rfl, hv⟩ := one_arg hA
    obtain rfl : v = .string (bs l) := hv
    have hs := bs_size l
    have hd : (bs l).data.toList = l := rfl
    cases h : Lib.atoiAll l with
    | ok v =>
      refine (Tryd.atoi_ok (bs l) (by omega) v h w).mono fun e w' ⟨he, hb⟩ => ⟨_, he, ⟨[_, _], rfl, ?_, ?_, trivial⟩, hb⟩
      · show _ = Value.int _ _; rw [atoiV, h]
      · show if _ then _ else _; rw [atoiB, h]; rfl
    | «syntax» =>
      obtain ⟨tp, p, hp⟩ := hV.syn
      refine (Tryd.atoi_syn (bs l) (by omega) h tp p w (hp w (on_sub hK hon))).mono fun e w' ⟨N, T, he, hb⟩ => ⟨_, he, ⟨[_, _], rfl, ?_, ?_, trivial⟩, hb⟩
      · show _ = Value.int _ _; rw [atoiV, h]
      · show if _ then _ else _; rw [atoiB, h]; exact ⟨_, _, rfl⟩
    | range =>
      obtain ⟨tp, p, hp⟩ := hV.rng
      refine (Tryd.atoi_rng (bs l) (by omega) h tp p w (hp w (on_sub hK hon))).mono fun e w' ⟨N, T, he, hb⟩ => ⟨_, he, ⟨[_, _], rfl, ?_, ?_, trivial⟩, hb⟩
      · show _ = Value.int _ _; rw [atoiV, h]
      · show if _ then _ else _; rw [atoiB, h]; exact ⟨_, _, rfl⟩
theorem sClone_ct (l : List UInt8) (hl : l.length ≤ 281474976710656) : CtM K0 n0 Tryd.prog 30 [BsT l] [] Unit (fun _ => BsT l) (fun _ => []) (fun _ => True) :=
  ct_below fun H w args hK hon hA => by
    obtain ⟨v, rfl, hv⟩ := one_arg hA
    obtain rfl : v = .string (bs l) := hv
    exact (Tryd.clone_in (bs l) (by rw [bs_size]; exact hl) w).mono fun e w' ⟨he, hb⟩ => ⟨_, he, rfl, hb⟩
/-! ### ContainsFunc at 'no small letter' -/
theorem low_not {b : UInt8} : notLow b.toNat = !isLow b := by
  unfold notLow isLow
  by_cases h1 : b.toNat < 97 <;> by_cases h2 : 122 < b.toNat <;> simp [h1, h2] <;> omega
theorem idx_low (l : List UInt8) : ∀ (f pos : Nat), l.length ≤ pos + f → decide (0 ≤ Lib.idxFuncFrom notLow true (bs l) f pos) = !(l.drop pos).all isLow
  | 0, pos, h => by
    rw [List.drop_of_length_le (by omega)]; rfl
  | f + 1, pos, h => by
    unfold Lib.idxFuncFrom
    have hs := bs_size l
    by_cases hp : pos < l.length
    · rw [if_pos (by omega)]
      have hb : (bs l)[pos]'(by omega) = l[pos] := rfl
      rw [List.drop_eq_getElem_cons hp, List.all_cons]
      by_cases ha : l[pos].toNat < 128
      · have hd := decode_ascii (bs l) pos (by omega) (by rw [hb]; exact ha)
        rw [hd, hb]
        simp only [low_not]
        cases hx : isLow l[pos] with
        | true => simpa using idx_low l f (pos + 1) (by omega)
        | false => simp
      · have hd := decode_high (bs l) pos (by omega) (by rw [hb]; omega)
        have hx : isLow l[pos] = false := by unfold isLow; simp; omega
        rw [if_pos (by unfold notLow; simp; omega), hx]; simp
    · rw [if_neg (by omega), List.drop_of_length_le (by omega)]; rfl
theorem Contains_ct (l : List UInt8) : CtM K0 n0 Tryd.prog 24 [BsT l, IsV (.func (.func 25) #[] #[])] [] Unit (fun _ => BoolT (!l.all isLow)) (fun _ => []) (fun _ => True) :=
  ct_below fun H w args hK hon hA => by
    obtain ⟨u, v, rfl, hu, hv⟩ := two_arg hA
    obtain rfl : u = .string (bs l) := hu
    obtain rfl : v = .func (.func 25) #[] #[] := hv
    refine (Tryd.contains_in (bs l) w).mono fun e w' ⟨he, hb⟩ => ⟨_, he, ?_, hb⟩
    show _ = Value.bool _
    unfold Lib.idxFunc
    rw [idx_low l _ 0 (by rw [bs_size]; omega), List.drop_zero]
/-! ### Split -/
theorem reps_map {α : Type} (enc : α → Value) (h1 : ∀ x, (enc x).oneCell' = true) (H : FH) (xs : List α) : Reps (scalar enc h1) H xs (xs.map enc) := by
  refine ⟨by rw [List.length_map]; exact (Nat.mul_one _).symm, fun j x e => ?_⟩
  show ((xs.map enc).drop (j * 1)).take 1 = [enc x]
  rw [Nat.mul_one]
  have h2 : (xs.map enc)[j]? = some (enc x) := by rw [List.getElem?_map, e]; rfl
  obtain ⟨h3, h4⟩ := List.getElem?_eq_some_iff.1 h2
  rw [List.drop_eq_getElem_cons h3, List.take_succ_cons, List.take_zero, h4]
theorem splitL_len (c : UInt8) (l : List UInt8) : (splitL c l).length = Lib.count l [c] + 1 := by
  rw [← splitK_eq]
  have h := Lib.splitB_all (bs [c]) (Nat.le_refl 1) 0 _ (bs l) rfl
  have h2 := congrArg List.length (Lib.splitB_data (bs [c]) 0 (Lib.countB (bs l) (bs [c])) (bs l))
  rw [List.length_map, h] at h2
  exact h2.symm
theorem Split_ct (hV : VarsK K0) (l : List UInt8) (c : UInt8) (hl : l.length ≤ 4294967280) : CtM K0 n0 Tryd.prog 19 [BsT l, BsT [c]] [] Unit (fun _ => SlT kS (splitL c l)) (fun _ => []) (fun _ => True) := by
  intro H w args hK hn hon hA hO
  obtain ⟨u, v, rfl, hu, hv⟩ := two_arg hA
  obtain rfl : u = .string (bs l) := hu
  obtain rfl : v = .string (bs [c]) := hv
  obtain ⟨m, hm⟩ := hV.len
  refine (Tryd.split_in (bs l) (bs [c]) m w (by rw [bs_size]; omega) (hm w (on_sub hK hon)) (Nat.le_refl 1)).mono ?_
  rintro e w' ⟨rfl, rfl⟩
  have hlen := splitL_len c l
  have hcount : Lib.countB (bs l) (bs [c]) + 1 = (splitL c l).length := hlen.symm
  have hcb := Lib.countB_le (bs [c]) (Nat.le_refl 1) _ (bs l) (Nat.le_refl _)
  rw [bs_size] at hcb
  have hmap : (Lib.splitB (bs [c]) 0 (Lib.countB (bs l) (bs [c])) (bs l)).map Value.string = (splitL c l).map fun x => Value.string (bs x) := by
    rw [← splitK_eq c l, show Lib.splitK [c] 0 (Lib.count l [c]) l = _ from (Lib.splitB_data (bs [c]) 0 (Lib.countB (bs l) (bs [c])) (bs l)).symm, List.map_map]
    refine List.map_congr_left fun b _ => ?_
    show _ = Value.string (bs b.data.toList)
    rw [bs_of]
  rw [hmap, hcount]
  have hnew := fh_new hon
  generalize hcs : (splitL c l).map (fun x => Value.string (bs x)) = cs
  have hmx : (splitL c l).length ≤ maxLen := by unfold maxLen; omega
  refine ⟨(), _, addH H w.heap.size (.cells cs.toArray 9), rfl, trivial, ⟨addH_sub hnew, addH_on (fun k o e => ?_) (heap_alloc_new w _), rfl, rfl, rfl, by simp, fun k hk _ => Below.heap_alloc w _ k hk, fun k o e => ?_⟩, ⟨some ⟨w.heap.size, 0, none⟩, _, rfl, Nat.le_refl _, hmx, fun _ => ⟨⟨w.heap.size, 0, none⟩, cs.toArray, 9, (0, 0), cs, rfl, rfl, ?_, ?_, fun j v hj => ?_⟩⟩, Owns.nil⟩
  · rw [Below.heap_alloc w _ k (hon.lt e)]; exact hon k o e
  · unfold addH at e
    by_cases hk : k = w.heap.size
    · exact .inr (.inl (Nat.le_of_eq hk.symm))
    · rw [if_neg hk] at e; exact .inl e
  · unfold addH; rw [if_pos rfl]
  · rw [← hcs]; exact reps_map _ _ _ _
  · rw [Nat.zero_add]; simpa using hj
end
end Go.Proofs.YtoaeaclcbcpheaaDoor
