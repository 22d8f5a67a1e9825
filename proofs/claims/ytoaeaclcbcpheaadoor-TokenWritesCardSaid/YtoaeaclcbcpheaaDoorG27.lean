/- Typed walks: texts as lists of bytes: joined, compared, read byte by byte, cut, converted; error values that are nil or not; library contracts that only make memory. Over any program. -/
import Derived.Test.YtoaeaclcbcpheaaDoorG19
import Derived.Lib.ConvBytes
import Derived.Laws.BytesString
import Derived.Laws.BytesArg
import Derived.Below
namespace Go.Gw
open Go
set_option linter.unusedVariables false
set_option linter.unusedSimpArgs false
/-! ### 1. Texts as lists of bytes -/
abbrev bs (l : List UInt8) : ByteArray := ⟨l.toArray⟩
abbrev BsT (l : List UInt8) : Ty := StrT (bs l)
theorem bs_of (s : ByteArray) : bs s.data.toList = s := by cases s; simp [bs]
theorem bs_append (a b : List UInt8) : bs a ++ bs b = bs (a ++ b) := by
  apply ByteArray.ext; simp [bs]
theorem bs_inj {a b : List UInt8} : bs a = bs b ↔ a = b := by
  constructor
  · intro h
    have := congrArg (fun s => s.data.toList) h
    simpa [bs] using this
  · rintro rfl; rfl
theorem bs_size (l : List UInt8) : (bs l).size = l.length := by simp [bs, ByteArray.size]
/-- A text's bytes, as numbers. -/
abbrev nums (l : List UInt8) : List Int := l.map fun b => (b.toNat : Int)
abbrev unnum (xs : List Int) : List UInt8 := xs.map fun n => UInt8.ofNat n.toNat
theorem unnum_nums (l : List UInt8) : unnum (nums l) = l := by
  unfold unnum nums
  rw [List.map_map]
  conv => rhs; rw [← List.map_id l]
  refine List.map_congr_left fun b _ => ?_
  simp
abbrev kS : Kd (List UInt8) := scalar (fun l => Value.string (bs l)) fun _ => rfl
section
variable {C : Cx} {Γ : Env} {L R : List It} {dst : Option Tmp} {ty : TypeId} {pos : String} {after : Array Edge} {guard : Option (Nat × Bool)} {x y z : Operand}
theorem pu_bs_add {t t2 : TypeId} {u v : List UInt8} (hx : OT C.N Γ x (BsT u)) (hy : OT C.N Γ y (BsT v)) (hl : u.length + v.length ≤ 9223372036854775807) : Pure C Γ L ⟨dst, .binOp .add t x y t2, ty, pos, after, guard⟩ (BsT (u ++ v)) :=
  (pu_str_add hx hy (by rw [bs_size, bs_size]; exact hl)).val (by rw [bs_append])
theorem beq_bs (u v : List UInt8) : ((bs u).toList == (bs v).toList) = decide (u = v) := by
  rw [ByteArray.toList_eq, ByteArray.toList_eq]
  simp only [bs]
  by_cases h : u = v <;> simp [h]
theorem pu_bs_eql {t t2 : TypeId} {u v : List UInt8} (hx : OT C.N Γ x (BsT u)) (hy : OT C.N Γ y (BsT v)) : Pure C Γ L ⟨dst, .binOp .eql t x y t2, ty, pos, after, guard⟩ (BoolT (decide (u = v))) :=
  (pu_str_eql hx hy).val (by rw [beq_bs])
theorem pu_bs_neq {t t2 : TypeId} {u v : List UInt8} (hx : OT C.N Γ x (BsT u)) (hy : OT C.N Γ y (BsT v)) : Pure C Γ L ⟨dst, .binOp .neq t x y t2, ty, pos, after, guard⟩ (BoolT (decide (u ≠ v))) :=
  (pu_str_neq hx hy).val (by rw [beq_bs]; by_cases h : u = v <;> simp [h])
theorem pu_len_bs {t : TypeId} {u : List UInt8} (ht : C.P.underlying t = some .string) (hx : OT C.N Γ x (BsT u)) : Pure C Γ L ⟨dst, .call ⟨.builtin .len, #[x], #[t]⟩, ty, pos, after, guard⟩ (I64 u.length) :=
  (pu_len_str ht hx).val (by rw [bs_size])
theorem pu_bs_index {t : TypeId} {k : IntKind} {l : List UInt8} {i : Int} (hx : OT C.N Γ x (BsT l)) (hy : OT C.N Γ y (IntT k i)) (ht : C.P.underlying t = some .string) (h0 : 0 ≤ i) (h1 : i < l.length) :
    Pure C Γ L ⟨dst, .index t x y, ty, pos, after, guard⟩ (IntT .u8 (at' (nums l) i)) := fun a w H f s' ow => by
  have hv : a.eval x = .string (bs l) := hx a H f
  have hi : a.eval y = .int k i := hy a H f
  have hlt : i.toNat < l.length := by omega
  have hlt2 : i.toNat < (bs l).size := by rw [bs_size]; exact hlt
  have e1 : (bs l)[i.toNat]? = some l[i.toNat] := by
    rw [getElem?_pos (bs l) i.toNat hlt2]; rfl
  refine ⟨.int .u8 (l[i.toNat]).toNat, ?_, ?_⟩
  · simp [execOp, Instr.index, hi, hv, asIntOf, run_underlying ht, h0, e1]
  · show Value.int _ _ = Value.int _ _
    congr 1
    simp [at', nums, List.getD_eq_getElem?_getD, hlt]
theorem bs_extract (l : List UInt8) (i j : Nat) : (bs l).extract i j = bs ((l.take j).drop i) := by
  apply ByteArray.ext
  simp [bs]
  rw [List.drop_take]
theorem pu_bs_slice {t : TypeId} {k1 k2 : IntKind} {l : List UInt8} {i j : Int} (hx : OT C.N Γ x (BsT l)) (hy : OT C.N Γ y (IntT k1 i)) (hz : OT C.N Γ z (IntT k2 j)) (ht : C.P.underlying t = some .string) (h0 : 0 ≤ i) (h1 : i ≤ j) (h2 : j ≤ l.length) :
    Pure C Γ L ⟨dst, .slice t x (some y) (some z) none, ty, pos, after, guard⟩ (BsT ((l.take j.toNat).drop i.toNat)) := fun a w H f s' ow => by
  have hv : a.eval x = .string (bs l) := hx a H f
  have hi : a.eval y = .int k1 i := hy a H f
  have hj : a.eval z = .int k2 j := hz a H f
  have hs := bs_size l
  have h3 : 0 ≤ j := by omega
  have h4 : i ≤ ((j.toNat : Nat) : Int) := by omega
  have h5 : max j 0 = j := by omega
  refine ⟨.string ((bs l).extract i.toNat j.toNat), by simp [execOp, Instr.sliceAt, Instr.slice, Instr.sliceBounds, Instr.sliceBound, run_underlying ht, hv, hi, hj, asIntOf, h0, h1, h2, h3, h4, h5, hs], ?_⟩
  show Value.string _ = Value.string _
  rw [bs_extract]
theorem pu_bs_slice_lo {t : TypeId} {k1 : IntKind} {l : List UInt8} {i : Int} (hx : OT C.N Γ x (BsT l)) (hy : OT C.N Γ y (IntT k1 i)) (ht : C.P.underlying t = some .string) (h0 : 0 ≤ i) (h1 : i ≤ l.length) :
    Pure C Γ L ⟨dst, .slice t x (some y) none none, ty, pos, after, guard⟩ (BsT (l.drop i.toNat)) := fun a w H f s' ow => by
  have hv : a.eval x = .string (bs l) := hx a H f
  have hi : a.eval y = .int k1 i := hy a H f
  have hs := bs_size l
  refine ⟨.string ((bs l).extract i.toNat l.length), by simp [execOp, Instr.sliceAt, Instr.slice, Instr.sliceBounds, Instr.sliceBound, run_underlying ht, hv, hi, asIntOf, h0, h1, hs], ?_⟩
  show Value.string _ = Value.string _
  have e : bs (l.drop i.toNat) = bs ((l.take l.length).drop i.toNat) := by rw [List.take_length]
  rw [e, ← bs_extract]
theorem pu_bs_slice_hi {t : TypeId} {k2 : IntKind} {l : List UInt8} {j : Int} (hx : OT C.N Γ x (BsT l)) (hz : OT C.N Γ z (IntT k2 j)) (ht : C.P.underlying t = some .string) (h0 : 0 ≤ j) (h1 : j ≤ l.length) :
    Pure C Γ L ⟨dst, .slice t x none (some z) none, ty, pos, after, guard⟩ (BsT (l.take j.toNat)) := fun a w H f s' ow => by
  have hv : a.eval x = .string (bs l) := hx a H f
  have hj : a.eval z = .int k2 j := hz a H f
  have hs := bs_size l
  refine ⟨.string ((bs l).extract 0 j.toNat), by simp [execOp, Instr.sliceAt, Instr.slice, Instr.sliceBounds, Instr.sliceBound, run_underlying ht, hv, hj, asIntOf, h0, h1, hs], ?_⟩
  show Value.string _ = Value.string _
  have e : bs (l.take j.toNat) = bs ((l.take j.toNat).drop 0) := by rw [List.drop_zero]
  rw [e, ← bs_extract]
/-! ### 2. Conversions -/
/-- '[]byte(s)', to be read. -/
theorem acts_bs_bytes {src tt el : TypeId} {u : TypeDesc} {l : List UInt8} (hx : OT C.N Γ x (BsT l)) (hs : C.P.underlying src = some u) (hd : C.P.underlying tt = some (.slice el)) (he : C.P.underlying el = some (.int .u8)) (hm : l.length ≤ maxLen) :
    Acts C Γ L ⟨dst, .convert src tt x, ty, pos, after, guard⟩ [] Unit (fun _ => SlT (kint .u8) (nums l)) (fun _ => []) (fun _ => True) := by
  intro a w H f s' ow Q K hK
  have hsz := bs_size l
  generalize hsd : bs l = s at hsz
  have hdl : s.data.toList = l := by rw [← hsd]
  have hv : a.eval x = .string s := by rw [← hsd]; exact hx a H f
  have hr := Lib.run_convert_string_bytes (P := C.P) w src tt el s hs hd he
  have hrun : (execOp a.eval ⟨dst, .convert src tt x, ty, pos, after, guard⟩).run C.P w = .ok (.value (.slice (some ⟨w.heap.size, 0, none⟩) s.size (grownCap w s.size 0 el))) (Lib.bytesWorld w el s) := by
    simp only [execOp, hv, Sem.run_bind, hr, Result.andThen_ok, Sem.run_pure]
  simp only [Oper.wp, hrun, Oper.upon_value]
  have hge := grownCap_ge w s.size 0 el
  have hnew := fh_new s'.on
  have hH : Sub H (addH H w.heap.size (.cells (Lib.bytesCells w el s) el ((Lib.bytesCells w el s).size, (Lib.bytesCells w el s).size + 1))) := addH_sub hnew
  refine hK () _ _ (addH H w.heap.size (.cells (Lib.bytesCells w el s) el ((Lib.bytesCells w el s).size, (Lib.bytesCells w el s).size + 1))) trivial ⟨hH, addH_on (fun k o e => ?_) (Lib.bytesWorld_at_new w el s), rfl, rfl, rfl, by rw [Lib.bytesWorld_size]; omega, fun k hk _ => Lib.bytesWorld_at_old w el s k hk, fun k o e => ?_⟩ ⟨some ⟨w.heap.size, 0, none⟩, grownCap w s.size 0 el, ?_, ?_, ?_, fun h0 => ⟨⟨w.heap.size, 0, none⟩, _, _, _, (nums l).map (Value.int .u8), rfl, rfl, show addH H w.heap.size _ w.heap.size = _ by unfold addH; rw [if_pos rfl], ⟨by rw [List.length_map]; exact (Nat.mul_one _).symm, fun j v hj => ?_⟩, fun j v hj => ?_⟩⟩ Owns.nil
  · rw [Lib.bytesWorld_at_old w el s k (s'.on.lt e)]; exact s'.on k o e
  · unfold addH at e
    by_cases hk : k = w.heap.size
    · exact .inr (.inl (Nat.le_of_eq hk.symm))
    · rw [if_neg hk] at e; exact .inl e
  · simp [hsz]
  · simp [hsz] at hge ⊢; exact hge
  · simpa using hm
  · have : (kint .u8).sz = 1 := rfl
    rw [this, Nat.mul_one]
    show (((nums l).map (Value.int .u8)).drop j).take 1 = [Value.int .u8 v]
    have h2 : ((nums l).map (Value.int .u8))[j]? = some (Value.int .u8 v) := by rw [List.getElem?_map, hj]; rfl
    obtain ⟨h3, h4⟩ := List.getElem?_eq_some_iff.1 h2
    rw [List.drop_eq_getElem_cons h3, List.take_succ_cons, List.take_zero, h4]
  · rw [Nat.zero_add]
    have hlt : j < s.size := by
      have := (List.getElem?_eq_some_iff.1 hj).1; simpa [hsz] using this
    unfold Lib.bytesCells
    rw [Array.getElem?_append_left (by rw [Array.size_map]; exact hlt)]
    rw [List.getElem?_map, List.getElem?_map] at hj
    rw [Array.getElem?_map, ← Array.getElem?_toList, hdl]
    simpa [Function.comp] using hj
theorem push_fold (ns : List Int) : ∀ s : ByteArray, ns.foldl (fun r n => r.push (UInt8.ofNat n.toNat)) s = bs (s.data.toList ++ unnum ns) := by
  induction ns with
  | nil => intro s; simp [bs_of]
  | cons n ns ih =>
    intro s
    rw [List.foldl_cons, ih]
    have e : (s.push (UInt8.ofNat n.toNat)).data.toList = s.data.toList ++ [UInt8.ofNat n.toNat] := by
      show (s.data.push _).toList = _
      rw [Array.toList_push]
    rw [e, List.append_assoc]; rfl
/-- 'string(b)'. -/
theorem pu_bytes_bs {src tt el : TypeId} {xs : List Int} (hx : OT C.N Γ x (SlT (kint .u8) xs)) (hs : C.P.underlying src = some (.slice el)) (he : C.P.underlying el = some (.int .u8)) (hd : C.P.underlying tt = some .string) :
    Pure C Γ L ⟨dst, .convert src tt x, ty, pos, after, guard⟩ (BsT (unnum xs)) := fun a w H f s' ow => by
  obtain ⟨A, c, hv, h1, h2, h3⟩ := hx a H f
  refine ⟨.string (bs (unnum xs)), ?_, rfl⟩
  cases xs with
  | nil =>
    cases A with
    | none =>
      have := run_convert_bytes_nil (P := C.P) (w := w) src el hs he 0 c tt hd
      simp only [execOp, hv, List.length_nil, Sem.run_bind, this, Result.andThen_ok, Sem.run_pure]; rfl
    | some A =>
      have hr : (convert src tt (.slice (some A) 0 c)).run C.P w = .ok (.string (bs [])) w := by
        rw [run_convert_bytes_string w src tt el (some A) 0 c hs he hd, run_bytesToString w A 0 c [] (by simpa using run_loadCells_list (P := C.P) w A [] (by simp))]; rfl
      simp only [execOp, hv, List.length_nil, Sem.run_bind, hr, Result.andThen_ok, Sem.run_pure]; rfl
  | cons n ns =>
    obtain ⟨ad, cells, e, fr, cs, rfl, hsp, hH, hR, hS⟩ := h3 (by simp)
    have hb := s'.on _ _ hH
    have hcs : cs = (n :: ns).map (Value.int .u8) := by
      apply List.ext_getElem?
      intro j
      by_cases hj : j < (n :: ns).length
      · have hg : (n :: ns)[j]? = some (n :: ns)[j] := List.getElem?_eq_getElem hj
        have := hR.2 j _ hg
        have hsz : (kint .u8).sz = 1 := rfl
        rw [hsz, Nat.mul_one] at this
        have hk : (cs.drop j).take 1 = [Value.int .u8 (n :: ns)[j]] := this
        have hh : (cs.drop j)[0]? = some (Value.int .u8 (n :: ns)[j]) := by
          have h0 : ((cs.drop j).take 1)[0]? = some (Value.int .u8 (n :: ns)[j]) := by rw [hk]; rfl
          rwa [List.getElem?_take_of_lt (by omega)] at h0
        rw [List.getElem?_drop, Nat.add_zero] at hh
        rw [hh, List.getElem?_map, hg]; rfl
      · have hl : cs.length = (n :: ns).length := by have := hR.1; simpa [kint, scalar] using this
        rw [List.getElem?_eq_none (by omega), List.getElem?_eq_none (by simp at hj ⊢; omega)]
    have hld : (loadCells ad (n :: ns).length).run C.P w = .ok ((n :: ns).map (Value.int .u8)).toArray w := by
      have := run_loadCells_list (P := C.P) w ad ((n :: ns).map (Value.int .u8)) (fun j v hj => by
        rw [Addr.plain hsp, add_plain, cell_of_cells hb]
        exact hS j v (by rw [hcs]; exact hj))
      simpa using this
    have hr : (convert src tt (.slice (some ad) (n :: ns).length c)).run C.P w = .ok (.string (bs (unnum (n :: ns)))) w := by
      rw [run_convert_bytes_string w src tt el (some ad) _ c hs he hd, run_bytesToString w ad _ c _ hld, push_fold]; rfl
    simp only [execOp, hv, Sem.run_bind, hr, Result.andThen_ok, Sem.run_pure]
/-! ### 3. Error values -/
/-- An error value: nil just if b. -/
def ErrT (b : Bool) : Ty := ⟨fun _ v => if b then v = .nilIface else ∃ t p, v = .iface t p, fun _ h => h⟩
theorem pu_err_neq {t t2 : TypeId} {b : Bool} {ms : Array (String × TypeId)} (hx : OT C.N Γ x (ErrT b)) (ht : C.P.underlying t = some (.interface ms)) : Pure C Γ L ⟨dst, .binOp .neq t x (.const .nilIface) t2, ty, pos, after, guard⟩ (BoolT (!b)) := fun a w H f s ow => by
  have h1 := hx a H f
  have e1 : ∀ (d : Nat) (v : Value), (v = .nilIface ∨ ∃ tt p, v = .iface tt p) → (Op.equalIn (d + 1) t v .nilIface).run C.P w = .ok (v matches .nilIface) w := by
    intro d v hv
    rw [Op.equalIn]
    rcases hv with rfl | ⟨tt, p, rfl⟩ <;> simp [run_underlying ht]
  have e2 : ∀ (v : Value), (v = .nilIface ∨ ∃ tt p, v = .iface tt p) → (Op.equal t v .nilIface).run C.P w = .ok (v matches .nilIface) w := fun v hv => e1 9999 v hv
  refine ⟨.bool (!b), ?_, rfl⟩
  have hc : a.eval (.const .nilIface) = .nilIface := rfl
  cases b with
  | true =>
    have hv : a.eval x = .nilIface := h1
    have hg : (eqGuard .neq t x (.const .nilIface) .nilIface .nilIface).run C.P w = .ok () w := by simp [eqGuard]
    have hb : (binOp .neq t .nilIface .nilIface).run C.P w = .ok (.bool false) w := by
      show ((Op.equal t .nilIface .nilIface) >>= fun r => pure (Value.bool !r)).run C.P w = _
      rw [Sem.run_bind, e2 _ (.inl rfl)]; rfl
    simp only [execOp, hv, hc, Sem.run_bind, hg, hb, Result.andThen_ok, Sem.run_pure]; rfl
  | false =>
    obtain ⟨tt, p, hv⟩ : ∃ t p, a.eval x = .iface t p := h1
    have hg : (eqGuard .neq t x (.const .nilIface) (.iface tt p) .nilIface).run C.P w = .ok () w := by simp [eqGuard]
    have hb : (binOp .neq t (.iface tt p) .nilIface).run C.P w = .ok (.bool true) w := by
      show ((Op.equal t (.iface tt p) .nilIface) >>= fun r => pure (Value.bool !r)).run C.P w = _
      rw [Sem.run_bind, e2 _ (.inr ⟨_, _, rfl⟩)]; rfl
    simp only [execOp, hv, hc, Sem.run_bind, hg, hb, Result.andThen_ok, Sem.run_pure]; rfl
end
/-! ### 4. Contracts that only make memory -/
open Go.RowKit in
/-- A library's contract that leaves all that was there. -/
theorem ct_below {K0 : FH} {n0 : Nat} {P : Program} {f : FuncId} {As : List Ty} {T : Ty}
    (h : ∀ (H : FH) (w : World) (args : List Value), Sub K0 H → On H w → AllP H As args → Calls P f args.toArray w fun e w' => ∃ v, e = .returned v ∧ T.p H v ∧ Below w.heap.size w w') :
    CtM K0 n0 P f As [] Unit (fun _ => T) (fun _ => []) (fun _ => True) := by
  intro H w args hK hn hon hA hO
  refine (h H w args hK hon hA).mono ?_
  rintro e w' ⟨v, rfl, hv, hb⟩
  exact ⟨(), v, H, rfl, trivial, ⟨Sub.refl _, fun k o e => (hb.block k (hon.lt e)).trans (hon k o e), hb.os, hb.tape, hb.output, hb.size, fun k hk _ => hb.block k hk, fun k o e => .inl e⟩, hv, Owns.nil⟩
end Go.Gw
