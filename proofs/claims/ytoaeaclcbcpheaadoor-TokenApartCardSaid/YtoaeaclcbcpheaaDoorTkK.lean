/- What the kit's shelf has on strconv.Itoa, strconv.Atoi, stringslite.Clone, strings.ContainsFunc, strings.Split, laid at this program. -/
import Derived.Test.YtoaeaclcbcpheaaDoorChecked
import Derived.Test.YtoaeaclcbcpheaaDoorRows
import Derived.Test.YtoaeaclcbcpheaaDoorTkS
import Derived.WalkKit
import Derived.ProofKit
import Derived.Lib.ConvBytes
import Derived.Lib.AtoiErrMem
namespace Go.Proofs
open Go.Shelf Go.RowKit Go.Lib
set_option linter.unusedVariables false
/-- The name of the table of powers of ten. -/
abbrev Tryd.tabName : String := (YtoaeaclcbcpheaaDoor.Rows.tokenWritesRow.laid.getD 2 ("", .nil)).1
theorem Tryd.itoa_in (n : Int) (h0 : -9223372036854775808 ≤ n) (h1 : n ≤ 9223372036854775807) (w : World) (htab : Lib.TabIs Tryd.prog w Tryd.tabName .u64 Lib.pow10Tab) :
    Calls Tryd.prog 17 #[.int .i64 n] w fun e w' => e = .returned (.string ⟨(Lib.itoa n).toArray⟩) ∧ Below w.heap.size w w' :=
  (Any.strconv_Itoa Tryd.lItoa n h0 h1 w htab).mono fun e w' ⟨he, k, os, hw⟩ => ⟨he, by
    subst hw
    exact ⟨rfl, rfl, rfl, by simp [Sort.grow], fun k hk => by
      show (w.heap ++ os)[k]? = _
      rw [Array.getElem?_append_left hk]⟩⟩
theorem Tryd.atoi_ok (s : ByteArray) (hmax : s.size ≤ 9223372036854775806) (v : Int) (h : Lib.atoiAll s.data.toList = .ok v) (w : World) :
    Calls Tryd.prog 20 #[.string s] w fun e w' => e = .returned (.tuple #[.int .i64 v, .nilIface]) ∧ Below w.heap.size w w' :=
  (Any.strconv_Atoi_ok Tryd.lAtoi s hmax v h w).mono fun e w' ⟨he, hw⟩ => ⟨he, by
    rcases hw with rfl | ⟨t, rfl⟩
    · exact Below.refl _ _
    · exact Lib.bytesWorld_below _ _ _⟩
theorem Tryd.atoi_syn (s : ByteArray) (hlim : s.size ≤ 281474976710656) (h : Lib.atoiAll s.data.toList = .«syntax») (tp : TypeId) (p : Value) (w : World) (hvar : w.var? Tryd.prog "strconv.ErrSyntax" = some #[.iface tp p]) :
    Calls Tryd.prog 20 #[.string s] w fun e w' => ∃ N T, e = .returned (.tuple #[.int .i64 0, .iface T (.pointer (some ⟨N, 0, none⟩))]) ∧ Below w.heap.size w w' := (Any.strconv_Atoi_syntax_var Tryd.lAtoi s hlim h tp p w hvar).mono fun e w' ⟨N, h, _, _, hb⟩ => ⟨N, _, h, hb⟩
theorem Tryd.atoi_rng (s : ByteArray) (hlim : s.size ≤ 281474976710656) (h : Lib.atoiAll s.data.toList = .range) (tp : TypeId) (p : Value) (w : World) (hvar : w.var? Tryd.prog "strconv.ErrRange" = some #[.iface tp p]) :
    Calls Tryd.prog 20 #[.string s] w fun e w' => ∃ N T, e = .returned (.tuple #[.int .i64 (Lib.atoiSat s.data.toList), .iface T (.pointer (some ⟨N, 0, none⟩))]) ∧ Below w.heap.size w w' := (Any.strconv_Atoi_range_var Tryd.lAtoi s hlim h tp p w hvar).mono fun e w' ⟨N, h, _, _, hb⟩ => ⟨N, _, h, hb⟩
theorem Tryd.clone_in (s : ByteArray) (hlim : s.size ≤ 281474976710656) (w : World) : Calls Tryd.prog 30 #[.string s] w fun e w' => e = .returned (.string s) ∧ Below w.heap.size w w' := Any.stringslite_Clone Tryd.lClone s w hlim
abbrev notLow (r : Nat) : Bool := decide (r < 97) || decide (122 < r)
theorem Tryd.notLow_at (w : World) : PredAt Tryd.prog 25 #[] encR notLow w := fun W r _ => by
  unfold FnGives
  by_cases h1 : r < 97 <;> by_cases h2 : 122 < r
  all_goals
    have z1 : (r : Int) < 97 ↔ r < 97 := by omega
    have z2 : (122 : Int) < (r : Int) ↔ 122 < r := by omega
    go_enter Tryd.func25, Tryd.ntmps25
    go_wp2
    all_goals first | (exfalso; omega) | (go_ret; exact ⟨by simp [h1, h2], 0, rfl⟩)
theorem Tryd.contains_in (s : ByteArray) (w : World) : Calls Tryd.prog 24 #[.string s, .func (.func 25) #[] #[]] w fun e w' => e = .returned (.bool (decide (0 ≤ Lib.idxFunc notLow true s))) ∧ Below w.heap.size w w' :=
  Any.strings_ContainsFunc Tryd.lCfunc 25 #[] (enters_of Tryd.func25 (by kernel_rfl) rfl) notLow s w (Tryd.notLow_at w)
theorem Tryd.split_in (s sep : ByteArray) (m : Int) (w : World) (hs : s.size < 4294967281) (hm : w.cell? ⟨Tryd.lSplit_ren.g 1, 0, none⟩ = some (.int .i64 m)) (h1 : 1 ≤ sep.size) :
    Calls Tryd.prog 19 #[.string s, .string sep] w fun e w' =>
      e = .returned (.slice (some ⟨w.heap.size, 0, none⟩) (Lib.countB s sep + 1) (Lib.countB s sep + 1)) ∧ w' = w.alloc (.cells ((Lib.splitB sep 0 (Lib.countB s sep) s).map Value.string).toArray 9) :=
  Any.strings_Split { Tryd.lSplit with } Tryd.lSplit.i9 s sep m w hs hm h1
theorem Tryd.maxlen_is (w : World) (h : w.ShapedOpen Tryd.prog) : ∃ m, w.cell? ⟨Tryd.lSplit_ren.g 1, 0, none⟩ = some (.int .i64 m) := Tryd.lSplit.s1_3 w h
end Go.Proofs
