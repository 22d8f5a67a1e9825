/- The texts VlK of this claim, put together in their order. No condition of their own. -/
import Derived.Test.YtdlendioamiagaaDoorChecked
import Derived.Test.YtdlendioamiagaaDoorRows
import Derived.Test.YtdlendioamiagaaDoorQ3
import Derived.Test.YtdlendioamiagaaDoorQ2
import Derived.Test.YtdlendioamiagaaDoorQ1
import Derived.WalkKit
import Derived.ProofKit
import Derived.Lib.ConvBytes
import Derived.Lib.AtoiErrMem
/- What the kit's shelf has on strconv.Itoa, Atoi, FormatBool, strings.Cut, CutPrefix, HasSuffix, Compare, Index, Clone, unicode/utf8.ValidString, DecodeRuneInString, ValidRune, cmp.Compare, laid at this program, in this session's words. -/
namespace Go.Proofs
open Go.Shelf Go.RowKit Go.Lib
set_option linter.unusedVariables false
/-- The name of the table of powers of ten. -/
abbrev Tryd.tabName : String := (YtdlendioamiagaaDoor.Rows.valChecksRow.laid.getD 2 ("", .nil)).1
theorem Tryd.itoa_in (n : Int) (h0 : -9223372036854775808 ≤ n) (h1 : n ≤ 9223372036854775807) (w : World) (htab : Lib.TabIs Tryd.prog w Tryd.tabName .u64 Lib.pow10Tab) :
    Calls Tryd.prog 33 #[.int .i64 n] w fun e w' => e = .returned (.string ⟨(Lib.itoa n).toArray⟩) ∧ Below w.heap.size w w' :=
  (Any.strconv_Itoa Tryd.lItoa n h0 h1 w htab).mono fun e w' ⟨he, k, os, hw⟩ => ⟨he, by
    subst hw
    exact ⟨rfl, rfl, rfl, by simp [Sort.grow], fun k hk => by
      show (w.heap ++ os)[k]? = _
      rw [Array.getElem?_append_left hk]⟩⟩
theorem Tryd.atoi_ok (s : ByteArray) (hmax : s.size ≤ 9223372036854775806) (v : Int) (h : Lib.atoiAll s.data.toList = .ok v) (w : World) :
    Calls Tryd.prog 47 #[.string s] w fun e w' => e = .returned (.tuple #[.int .i64 v, .nilIface]) ∧ Below w.heap.size w w' :=
  (Any.strconv_Atoi_ok Tryd.lAtoi s hmax v h w).mono fun e w' ⟨he, hw⟩ => ⟨he, by
    rcases hw with rfl | ⟨t, rfl⟩
    · exact Below.refl _ _
    · exact Lib.bytesWorld_below _ _ _⟩
theorem Tryd.atoi_syn (s : ByteArray) (hlim : s.size ≤ 281474976710656) (h : Lib.atoiAll s.data.toList = .«syntax») (tp : TypeId) (p : Value) (w : World) (hvar : w.var? Tryd.prog "strconv.ErrSyntax" = some #[.iface tp p]) :
    Calls Tryd.prog 47 #[.string s] w fun e w' => ∃ N T, e = .returned (.tuple #[.int .i64 0, .iface T (.pointer (some ⟨N, 0, none⟩))]) ∧ Below w.heap.size w w' := (Any.strconv_Atoi_syntax_var Tryd.lAtoi s hlim h tp p w hvar).mono fun e w' ⟨N, h, _, _, hb⟩ => ⟨N, _, h, hb⟩
theorem Tryd.atoi_rng (s : ByteArray) (hlim : s.size ≤ 281474976710656) (h : Lib.atoiAll s.data.toList = .range) (tp : TypeId) (p : Value) (w : World) (hvar : w.var? Tryd.prog "strconv.ErrRange" = some #[.iface tp p]) :
    Calls Tryd.prog 47 #[.string s] w fun e w' => ∃ N T, e = .returned (.tuple #[.int .i64 (Lib.atoiSat s.data.toList), .iface T (.pointer (some ⟨N, 0, none⟩))]) ∧ Below w.heap.size w w' := (Any.strconv_Atoi_range_var Tryd.lAtoi s hlim h tp p w hvar).mono fun e w' ⟨N, h, _, _, hb⟩ => ⟨N, _, h, hb⟩
end Go.Proofs
namespace Go.Proofs.YtdlendioamiagaaDoor
open Go Go.Gw Go.Vl Go.RowKit Go.Shelf
set_option linter.unusedVariables false
/-- What the package-level variables hold. -/
structure VarsV (K0 : FH) : Prop where
  tab : ∀ w, On K0 w → Lib.TabIs Tryd.prog w Tryd.tabName .u64 Lib.pow10Tab
  syn : ∃ tp p, ∀ w, On K0 w → w.var? Tryd.prog "strconv.ErrSyntax" = some #[.iface tp p]
  rng : ∃ tp p, ∀ w, On K0 w → w.var? Tryd.prog "strconv.ErrRange" = some #[.iface tp p]
  len : ∃ m, ∀ w, On K0 w → w.cell? ⟨Tryd.lCut_ren.g 1, 0, none⟩ = some (.int .i64 m)
  utf : ∀ w, On K0 w → Lib.Utf8Tabs (Tryd.lValid_ren.g 3) (Tryd.lValid_ren.g 4) w
  syc : ∃ ev, (ev = .nilIface ∨ ∃ te pe, ev = .iface te pe) ∧ ∀ w, On K0 w → w.cell? ⟨Tryd.lToError_ren.g 15, 0, none⟩ = some ev
  tz : ∀ w, On K0 w → w.cell? ⟨7, 15, none⟩ = some (.int .u8 4)
theorem on_sub {K0 H : FH} {w : World} (hs : Sub K0 H) (h : On H w) : On K0 w := fun k o e => h k o (hs k o e)
/-- What strconv.Atoi gives: the number, and whether the error is nil. -/
def atoiV (l : List UInt8) : Int := match Lib.atoiAll l with
  | .ok v => v
  | .syntax => 0
  | .range => Lib.atoiSat l
def atoiB (l : List UInt8) : Bool := match Lib.atoiAll l with
  | .ok _ => true
  | _ => false
section
variable {K0 : FH} {n0 : Nat}
theorem one_arg {H : FH} {A : Ty} {args : List Value} (h : AllP H [A] args) : ∃ v, args = [v] ∧ A.p H v := by
  match args, h with
  | [v], h => exact ⟨v, rfl, h.1⟩
theorem two_arg {H : FH} {A B : Ty} {args : List Value} (h : AllP H [A, B] args) : ∃ u v, args = [u, v] ∧ A.p H u ∧ B.p H v := by
  match args, h with
  | [u, v], h => exact ⟨u, v, rfl, h.1, h.2.1⟩
theorem Itoa_ct (hV : VarsV K0) (n : Int) (h0 : -9223372036854775808 ≤ n) (h1 : n ≤ 9223372036854775807) : CtM K0 n0 Tryd.prog 33 [I64 n] [] Unit (fun _ => BsT (Lib.itoa n)) (fun _ => []) (fun _ => True) :=
  ct_below fun H w args hK hon hA => by
    obtain ⟨v, rfl, hv⟩ := one_arg hA
    obtain rfl : v = .int .i64 n := hv
    exact (Tryd.itoa_in n h0 h1 w (hV.tab w (on_sub hK hon))).mono fun e w' ⟨he, hb⟩ => ⟨_, he, rfl, hb⟩
theorem Atoi_ct (hV : VarsV K0) (l : List UInt8) (hl : l.length ≤ 281474976710656) : CtM K0 n0 Tryd.prog 47 [BsT l] [] Unit (fun _ => TupT [I64 (atoiV l), ErrT (atoiB l)]) (fun _ => []) (fun _ => True) :=
  ct_below fun H w args hK hon hA => by
    obtain ⟨v, rfl, hv⟩ := one_arg hA
    obtain rfl : v = .string (bs l) := hv
    have hs := bs_size l
    have hd : (bs l).data.toList = l := rfl
    cases h : Lib.atoiAll l with
    | ok v =>
      refine (Tryd.atoi_ok (bs l) (by omega) v h w).mono fun e w' ⟨he, hb⟩ => ⟨_, he, ⟨[_, _], rfl, ?_, ?_, trivial⟩, hb⟩
      · show _ = Value.int _ _; rw [atoiV, h]
      · show if _ then _ else _; rw [atoiB, h]; rfl
    | «syntax» =>
      obtain ⟨tp, p, hp⟩ := hV.syn
      refine (Tryd.atoi_syn (bs l) (by omega) h tp p w (hp w (on_sub hK hon))).mono fun e w' ⟨N, T, he, hb⟩ => ⟨_, he, ⟨[_, _], rfl, ?_, ?_, trivial⟩, hb⟩
      · show _ = Value.int _ _; rw [atoiV, h]
      · show if _ then _ else _; rw [atoiB, h]; exact ⟨_, _, rfl⟩
    | range =>
      obtain ⟨tp, p, hp⟩ := hV.rng
      refine (Tryd.atoi_rng (bs l) (by omega) h tp p w (hp w (on_sub hK hon))).mono fun e w' ⟨N, T, he, hb⟩ => ⟨_, he, ⟨[_, _], rfl, ?_, ?_, trivial⟩, hb⟩
      · show _ = Value.int _ _; rw [atoiV, h]
      · show if _ then _ else _; rw [atoiB, h]; exact ⟨_, _, rfl⟩
theorem Valid_ct (hV : VarsV K0) (l : List UInt8) (hl : l.length ≤ 281474976710656) : CtM K0 n0 Tryd.prog 40 [BsT l] [] Unit (fun _ => BoolT (Lib.validD l)) (fun _ => []) (fun _ => True) :=
  ct_below fun H w args hK hon hA => by
    obtain ⟨v, rfl, hv⟩ := one_arg hA
    obtain rfl : v = .string (bs l) := hv
    exact (Any.utf8_ValidString Tryd.lValid (bs l) w (by rw [bs_size]; omega) (hV.utf w (on_sub hK hon))).mono fun e w' ⟨he, hb⟩ => ⟨_, he, rfl, hb⟩
theorem decodeGo_rune {l : List UInt8} (h : l ≠ []) : Lib.decodeGo (bs l) = rune l := by
  unfold Lib.decodeGo
  have h1 : (bs l).size ≠ 0 := by rw [bs_size]; simpa using h
  rw [if_neg h1]
  exact (Lib.decodeL_drop (bs l) 0).symm
theorem Decode_ct (hV : VarsV K0) (l : List UInt8) (h : l ≠ []) : CtM K0 n0 Tryd.prog 66 [BsT l] [] Unit (fun _ => TupT [IntT .i32 ((rune l).1 : Int), I64 ((rune l).2 : Int)]) (fun _ => []) (fun _ => True) :=
  ct_below fun H w args hK hon hA => by
    obtain ⟨v, rfl, hv⟩ := one_arg hA
    obtain rfl : v = .string (bs l) := hv
    exact (Any.utf8_DecodeRuneInString Tryd.lDecode (bs l) w (hV.utf w (on_sub hK hon))).mono fun e w' ⟨he, hb⟩ => ⟨_, he, ⟨[_, _], rfl, by rw [decodeGo_rune h]; rfl, by rw [decodeGo_rune h]; rfl, trivial⟩, hb⟩
theorem Cut_ct (hV : VarsV K0) (l r : List UInt8) (hl : l.length < 4294967281) : CtM K0 n0 Tryd.prog 86 [BsT l, BsT r] [] Unit (fun _ => TupT [BsT (Lib.cut l r).1, BsT (Lib.cut l r).2.1, BoolT (Lib.cut l r).2.2]) (fun _ => []) (fun _ => True) :=
  ct_below fun H w args hK hon hA => by
    obtain ⟨u, v, rfl, hu, hv⟩ := two_arg hA
    obtain rfl : u = .string (bs l) := hu
    obtain rfl : v = .string (bs r) := hv
    obtain ⟨m, hm⟩ := hV.len
    refine (Any.strings_Cut Tryd.lCut (bs l) (bs r) m w (by rw [bs_size]; exact hl) (hm w (on_sub hK hon))).mono fun e w' ⟨he, n, hb⟩ => ⟨_, he, ⟨[_, _, _], rfl, rfl, rfl, rfl, trivial⟩, ?_⟩
    subst hb
    exact ⟨rfl, rfl, rfl, Nat.le_refl _, fun k hk => rfl⟩
theorem CutPrefix_ct (l r : List UInt8) : CtM K0 n0 Tryd.prog 44 [BsT l, BsT r] [] Unit (fun _ => TupT [BsT (Lib.trimPrefix l r), BoolT (Lib.hasPrefix l r)]) (fun _ => []) (fun _ => True) :=
  ct_below fun H w args hK hon hA => by
    obtain ⟨u, v, rfl, hu, hv⟩ := two_arg hA
    obtain rfl : u = .string (bs l) := hu
    obtain rfl : v = .string (bs r) := hv
    exact (Any.strings_CutPrefix Tryd.lCutPrefix (bs l) (bs r) w).mono fun e w' ⟨he, hw⟩ => ⟨_, he, ⟨[_, _], rfl, rfl, rfl, trivial⟩, hw ▸ Below.refl _ _⟩
theorem HasSuffix_ct (l r : List UInt8) (hl : l.length ≤ 281474976710656) : CtM K0 n0 Tryd.prog 45 [BsT l, BsT r] [] Unit (fun _ => BoolT (Lib.hasSuffix l r)) (fun _ => []) (fun _ => True) :=
  ct_below fun H w args hK hon hA => by
    obtain ⟨u, v, rfl, hu, hv⟩ := two_arg hA
    obtain rfl : u = .string (bs l) := hu
    obtain rfl : v = .string (bs r) := hv
    exact (Any.strings_HasSuffix Tryd.lHasSuffix (bs l) (bs r) w (by rw [bs_size]; omega)).mono fun e w' ⟨he, hw⟩ => ⟨_, he, rfl, hw ▸ Below.refl _ _⟩
theorem Index1_ct (l : List UInt8) (c : UInt8) : CtM K0 n0 Tryd.prog 43 [BsT l, BsT [c]] [] Unit (fun _ => I64 (Lib.indexByte l c)) (fun _ => []) (fun _ => True) :=
  ct_below fun H w args hK hon hA => by
    obtain ⟨u, v, rfl, hu, hv⟩ := two_arg hA
    obtain rfl : u = .string (bs l) := hu
    obtain rfl : v = .string (bs [c]) := hv
    exact (Any.strings_Index_one Tryd.lIndex (bs l) c w).mono fun e w' ⟨he, hw⟩ => ⟨_, he, rfl, hw ▸ Below.refl _ _⟩
theorem ValidRune_ct (r : Int) : CtM K0 n0 Tryd.prog 89 [IntT .i32 r] [] Unit (fun _ => BoolT (Lib.validRune r)) (fun _ => []) (fun _ => True) :=
  ct_below fun H w args hK hon hA => by
    obtain ⟨u, rfl, hu⟩ := one_arg hA
    obtain rfl : u = .int .i32 r := hu
    exact (Any.utf8_ValidRune Tryd.lValidRune r w).mono fun e w' ⟨he, hw⟩ => ⟨_, he, rfl, hw ▸ Below.refl _ _⟩
theorem FormatBool_ct (b : Bool) : CtM K0 n0 Tryd.prog 34 [BoolT b] [] Unit (fun _ => BsT (Lib.formatBool b)) (fun _ => []) (fun _ => True) :=
  ct_below fun H w args hK hon hA => by
    obtain ⟨u, rfl, hu⟩ := one_arg hA
    obtain rfl : u = .bool b := hu
    exact (Any.strconv_FormatBool Tryd.lFormatBool b w).mono fun e w' ⟨he, hw⟩ => ⟨_, he, rfl, hw ▸ Below.refl _ _⟩
theorem IndexByte_ct (l : List UInt8) (c : Int) : CtM K0 n0 Tryd.prog 115 [BsT l, IntT .u8 c] [] Unit (fun _ => I64 (Lib.indexByte l c.toNat.toUInt8)) (fun _ => []) (fun _ => True) :=
  ct_below fun H w args hK hon hA => by
    obtain ⟨u, v, rfl, hu, hv⟩ := two_arg hA
    obtain rfl : u = .string (bs l) := hu
    obtain rfl : v = .int .u8 c := hv
    exact (Any.strings_IndexByte Tryd.lIndexByte (bs l) c w).mono fun e w' ⟨he, hw⟩ => ⟨_, he, rfl, hw ▸ Below.refl _ _⟩
/-- strconv.toError at 'invalid syntax': an error. -/
theorem ToError_ct (hV : VarsV K0) (f l : List UInt8) (x y : Int) (hl : l.length ≤ 281474976710656) : CtM K0 n0 Tryd.prog 69 [BsT f, BsT l, I64 x, I64 y, IsV (.iface (Tryd.lToError_ren.t 167) (.int .i64 2))] [] Unit (fun _ => ErrT false) (fun _ => []) (fun _ => True) :=
  ct_below fun H w args hK hon hA => by
    match args, hA with
    | [a, b, c, d, e], ⟨h1, h2, h3, h4, h5, _⟩ =>
      obtain rfl : a = .string (bs f) := h1
      obtain rfl : b = .string (bs l) := h2
      obtain rfl : c = .int .i64 x := h3
      obtain rfl : d = .int .i64 y := h4
      obtain rfl : e = .iface (Tryd.lToError_ren.t 167) (.int .i64 2) := h5
      obtain ⟨ev, hev, hc⟩ := hV.syc
      exact (Any.strconv_toError_syntax Tryd.lToError (bs f) (bs l) x y ev w (by rw [bs_size]; exact hl) (hc w (on_sub hK hon)) hev).mono fun e w' ⟨N, he, _, _, hb⟩ => ⟨_, he, ⟨_, _, rfl⟩, hb⟩
end
end Go.Proofs.YtdlendioamiagaaDoor
