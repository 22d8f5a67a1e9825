/- Typed walks: a text's bytes in memory of one's own, written; truth values compared. Over any program. -/
import Derived.Test.YtoaeaclcbcpheaaDoorG27
import Derived.Laws.IdiomCopy
namespace Go.Gw
open Go
set_option linter.unusedVariables false
set_option linter.unusedSimpArgs false
theorem run_eql_bool {P : Program} (w : World) (t : TypeId) (a b : Bool) (h : P.underlying t = some .bool) : (binOp .eql t (.bool a) (.bool b)).run P w = .ok (.bool (a == b)) w := by
  have e : ∀ d, (Op.equalIn (d + 1) t (.bool a) (.bool b)).run P w = .ok (a == b) w := fun d => by simp [Op.equalIn, run_underlying h]
  show ((Op.equal t (.bool a) (.bool b)) >>= fun r => pure (Value.bool r)).run P w = _
  rw [Sem.run_bind, show (Op.equal t (.bool a) (.bool b)).run P w = _ from e 9999]; rfl
/-- A row of bytes made by a conversion: block g; the bytes xs stand first. -/
def OwnB (g : Nat) (el : TypeId) (xs : List Int) : It where
  blk := some g
  p := fun w H => ∃ cells : Array Value, w.heap[g]? = some (.cells cells el (cells.size, cells.size + 1)) ∧ xs.length ≤ cells.size ∧ ∀ (j : Nat) (x : Int), xs[j]? = some x → cells[j]? = some (.int .u8 x)
  st := fun hk hs ⟨cells, h1, h2⟩ => ⟨cells, (hk g rfl).trans h1, h2⟩
section
variable {C : Cx} {Γ : Env} {L R : List It} {dst : Option Tmp} {ty : TypeId} {pos : String} {after : Array Edge} {guard : Option (Nat × Bool)} {x y z : Operand}
theorem pu_bool_eql {t t2 : TypeId} {a b : Bool} (hx : OT C.N Γ x (BoolT a)) (hy : OT C.N Γ y (BoolT b)) (ht : C.P.underlying t = some .bool) : Pure C Γ L ⟨dst, .binOp .eql t x y t2, ty, pos, after, guard⟩ (BoolT (a == b)) := fun ac w H f s ow => by
  have h1 : ac.eval x = .bool a := hx ac H f
  have h2 : ac.eval y = .bool b := hy ac H f
  refine ⟨.bool (a == b), ?_, rfl⟩
  simp only [execOp, h1, h2, Sem.run_bind]
  rw [show (eqGuard .eql t x y (.bool a) (.bool b)).run C.P w = .ok () w from by simp [eqGuard]]
  simp [run_eql_bool (P := C.P) w t a b ht]
/-- '[]byte(s)', to be written. -/
theorem acts_bs_ownb {src tt el : TypeId} {u : TypeDesc} {l : List UInt8} (hx : OT C.N Γ x (BsT l)) (hs : C.P.underlying src = some u) (hd : C.P.underlying tt = some (.slice el)) (he : C.P.underlying el = some (.int .u8)) :
    Acts C Γ L ⟨dst, .convert src tt x, ty, pos, after, guard⟩ [] (Nat × Nat) (fun r => IsV (.slice (some ⟨r.1, 0, none⟩) l.length r.2)) (fun r => [OwnB r.1 el (nums l)]) (fun _ => True) := by
  intro a w H f s' ow Q K hK
  have hsz := bs_size l
  generalize hsd : bs l = s at hsz
  have hdl : s.data.toList = l := by rw [← hsd]
  have hv : a.eval x = .string s := by rw [← hsd]; exact hx a H f
  have hr := Lib.run_convert_string_bytes (P := C.P) w src tt el s hs hd he
  have hrun : (execOp a.eval ⟨dst, .convert src tt x, ty, pos, after, guard⟩).run C.P w = .ok (.value (.slice (some ⟨w.heap.size, 0, none⟩) s.size (grownCap w s.size 0 el))) (Lib.bytesWorld w el s) := by
    simp only [execOp, hv, Sem.run_bind, hr, Result.andThen_ok, Sem.run_pure]
  simp only [Oper.wp, hrun, Oper.upon_value]
  rw [hsz]
  refine hK (w.heap.size, grownCap w l.length 0 el) _ _ H trivial ⟨Sub.refl _, fun k o e => ?_, rfl, rfl, rfl, by rw [Lib.bytesWorld_size]; omega, fun k hk _ => Lib.bytesWorld_at_old w el s k hk, fun k o e => .inl e⟩ rfl (owns_new (J := OwnB w.heap.size el (nums l)) ⟨Lib.bytesCells w el s, Lib.bytesWorld_at_new w el s, ?_, fun j v hj => ?_⟩ (.inr rfl) (by rw [Lib.bytesWorld_size]; omega) s'.on)
  · rw [Lib.bytesWorld_at_old w el s k (s'.on.lt e)]; exact s'.on k o e
  · unfold Lib.bytesCells
    rw [Array.size_append, Array.size_map, List.length_map]
    have : s.data.size = l.length := hsz
    omega
  · have hlt : j < s.size := by
      have := (List.getElem?_eq_some_iff.1 hj).1; simpa [hsz] using this
    unfold Lib.bytesCells
    rw [Array.getElem?_append_left (by rw [Array.size_map]; exact hlt)]
    rw [List.getElem?_map] at hj
    rw [Array.getElem?_map, ← Array.getElem?_toList, hdl]
    cases h9 : l[j]? with
    | none => rw [h9] at hj; cases hj
    | some b => rw [h9] at hj; cases hj; rfl
theorem pu_len_val {t el : TypeId} {A : Option Addr} {n c : Nat} (hx : OT C.N Γ x (IsV (.slice A n c))) (ht : C.P.underlying t = some (.slice el)) : Pure C Γ L ⟨dst, .call ⟨.builtin .len, #[x], #[t]⟩, ty, pos, after, guard⟩ (I64 n) := fun a w H f s ow => by
  have h0 : a.eval x = .slice A n c := hx a H f
  exact ⟨_, by simp [execOp, resolve, invoke, builtin, Builtin.len_, h0, run_underlying ht, goInt], rfl⟩
theorem pu_index_val {t el : TypeId} {k : IntKind} {g n c : Nat} {i : Int} (hx : OT C.N Γ x (IsV (.slice (some ⟨g, 0, none⟩) n c))) (hy : OT C.N Γ y (IntT k i)) (ht : C.P.underlying t = some (.slice el)) (he : tyOk C.P el false 1 = true) (h0 : 0 ≤ i) (h1 : i < n) :
    Pure C Γ L ⟨dst, .indexAddr t x y, ty, pos, after, guard⟩ (IsV (pt g i.toNat)) := fun a w H f s ow => by
  have hv : a.eval x = .slice (some ⟨g, 0, none⟩) n c := hx a H f
  have hi : a.eval y = .int k i := hy a H f
  refine ⟨_, ?_, rfl⟩
  simp [execOp, Instr.indexAt, hi, asIntOf, run_underlying ht, hv, h1, h0, run_sizeOf he, add_plain]
theorem pu_load_b {t el : TypeId} {g : Nat} {xs : List Int} {i : Int} (hx : OT C.N Γ x (IsV (pt g i.toNat))) (hm : OwnB g el xs ∈ L) (h0 : 0 ≤ i) (h1 : i < xs.length) (ht : tyOk C.P t false 1 = true) :
    Pure C Γ L ⟨dst, .load t x, ty, pos, after, guard⟩ (IntT .u8 (at' xs i)) := fun a w H f s ow => by
  have hv : a.eval x = pt g i.toNat := hx a H f
  obtain ⟨cells, hb, _, hc⟩ := ow.all _ hm
  have := run_loadVar (P := C.P) (w := w) (t := t) (agg := false) (cs := [.int .u8 (at' xs i)]) (g := g) (off := i.toNat) ht (fun _ => rfl) hb (fun j u hj => by
    cases j with
    | zero => simp at hj; subst hj; exact hc _ _ (at'_some h1 h0)
    | succ j => simp at hj)
  exact ⟨_, by simp [execOp, Instr.loadAt, Instr.sureAddr, hv, this]; rfl, rfl⟩
theorem heap_setCell_at {w : World} {g off : Nat} {v : Value} {cells : Array Value} {el : TypeId} {fr : Nat × Nat} (h : w.heap[g]? = some (.cells cells el fr)) : (w.setCell ⟨g, off, none⟩ v).heap[g]? = some (.cells (cells.setIfInBounds off v) el fr) := by
  simp only [World.setCell, Array.getElem?_modify]
  rw [if_pos trivial, h]; rfl
theorem acts_store_b {t el : TypeId} {g : Nat} {xs : List Int} {i u : Int} (hx : OT C.N Γ x (IsV (pt g i.toNat))) (hy : OT C.N Γ y (IntT .u8 u)) (hp : List.Perm L (OwnB g el xs :: R)) (h0 : 0 ≤ i) (h1 : i < xs.length) (ht : tyOk C.P t false 1 = true) :
    Acts C Γ L ⟨dst, .store t x y, ty, pos, after, guard⟩ [OwnB g el xs] Unit (fun _ => AnyT) (fun _ => [OwnB g el (xs.set i.toNat u)]) (fun _ => True) := by
  intro a w H f s ow Q K hK
  have hv : a.eval x = pt g i.toNat := hx a H f
  have hu : a.eval y = .int .u8 u := hy a H f
  have o' := ow.perm hp
  obtain ⟨cells, hb, hl, hc⟩ := o'.all _ List.mem_cons_self
  have hown := o'.own g (blk_mem (i := OwnB g el xs) List.mem_cons_self rfl)
  have hlt : i.toNat < cells.size := by omega
  have hst : (storeCells ⟨g, i.toNat, none⟩ [Value.int .u8 u] 0).run C.P w = .ok () (w.setCells g (i.toNat + 0) [Value.int .u8 u]) := run_storeCells_cells g i.toNat [Value.int .u8 u] 0 w
    (fun j hj => by
      obtain rfl : j = 0 := by simpa using hj
      show (w.cell? ⟨g, i.toNat, none⟩).isSome = true
      rw [cell_of_cells hb]; simp [hlt])
    (fun j hj => by
      obtain rfl : j = 0 := by simpa using hj
      show w.frozen? ⟨g, i.toNat, none⟩ = false
      unfold World.frozen?
      rw [hb]; simp; omega)
    (fun v hv => by rw [List.mem_singleton.1 hv]; rfl)
  have hrun : (execOp a.eval ⟨dst, .store t x y, ty, pos, after, guard⟩).run C.P w = .ok .skip (w.setCell ⟨g, i.toNat, none⟩ (.int .u8 u)) := by
    have hs2 : (storeVar t ⟨g, i.toNat, none⟩ (.int .u8 u)).run C.P w = .ok () (w.setCell ⟨g, i.toNat, none⟩ (.int .u8 u)) := by
      have hcs : (Value.int .u8 u).cells = #[Value.int .u8 u] := rfl
      simp [storeVar, run_sizeOf ht, hcs]
      exact hst
    simp only [execOp, Instr.storeAt, Instr.sureAddr, hv, hu, Sem.run_bind, Sem.run_pure, Result.andThen_ok] at hs2 ⊢
    rw [hs2]; rfl
  simp only [Oper.wp, hrun, Oper.upon_skip]
  have hmem : g ∈ blks [OwnB g el xs] := blk_mem (i := OwnB g el xs) List.mem_cons_self rfl
  have hne : ∀ k, k ≠ g → (w.setCell ⟨g, i.toNat, none⟩ (.int .u8 u)).heap[k]? = w.heap[k]? := fun k hk => by
    simp only [World.setCell, Array.getElem?_modify]
    rw [if_neg (fun e => hk e.symm)]
  have hH : ∀ k o, H k = some o → k ≠ g := fun k o e hk => by rw [hk, hown.2.1] at e; cases e
  refine hK () _ _ H trivial ⟨Sub.refl _, fun k o e => by rw [hne k (hH k o e)]; exact s.on k o e, rfl, rfl, rfl, by simp [World.setCell], fun k hk hM => hne k (fun e => hM (e ▸ hmem)), fun k o e => .inl e⟩ trivial ⟨?_, by simp [blks, OwnB], ?_⟩
  · intro it hit
    rw [List.mem_singleton.1 hit]
    refine ⟨cells.setIfInBounds i.toNat (.int .u8 u), ?_, by simpa using hl, fun j v hj => ?_⟩
    · rw [Array.size_setIfInBounds]; exact heap_setCell_at hb
    · rw [List.getElem?_set] at hj
      rw [Array.getElem?_setIfInBounds]
      by_cases hji : i.toNat = j
      · subst hji
        rw [if_pos rfl, if_pos (by omega)] at hj
        rw [if_pos rfl, if_pos hlt]; cases hj; rfl
      · rw [if_neg hji] at hj ⊢
        exact hc j v hj
  · intro g' hg'
    have : g' = g := by simpa [blks, OwnB] using hg'
    subst this
    exact ⟨by simpa [World.setCell] using hown.1, hown.2.1, .inl hmem⟩
/-- 'string(b)' of such a row. -/
theorem pu_ownb_bs {src tt el : TypeId} {g n c : Nat} {xs : List Int} (hx : OT C.N Γ x (IsV (.slice (some ⟨g, 0, none⟩) n c))) (hm : OwnB g el xs ∈ L) (hn : n = xs.length) (hs : C.P.underlying src = some (.slice el)) (he : C.P.underlying el = some (.int .u8)) (hd : C.P.underlying tt = some .string) :
    Pure C Γ L ⟨dst, .convert src tt x, ty, pos, after, guard⟩ (BsT (unnum xs)) := fun a w H f s' ow => by
  subst hn
  have hv : a.eval x = .slice (some ⟨g, 0, none⟩) xs.length c := hx a H f
  obtain ⟨cells, hb, _, hc⟩ := ow.all _ hm
  refine ⟨.string (bs (unnum xs)), ?_, rfl⟩
  have hld : (loadCells ⟨g, 0, none⟩ xs.length).run C.P w = .ok (xs.map (Value.int .u8)).toArray w := by
    have := run_loadCells_list (P := C.P) w ⟨g, 0, none⟩ (xs.map (Value.int .u8)) (fun j v hj => by
      rw [add_plain, cell_of_cells hb, Nat.zero_add]
      rw [List.getElem?_map] at hj
      cases h9 : xs[j]? with
      | none => rw [h9] at hj; cases hj
      | some b => rw [h9] at hj; cases hj; exact hc j b h9)
    simpa using this
  have hr : (convert src tt (.slice (some ⟨g, 0, none⟩) xs.length c)).run C.P w = .ok (.string (bs (unnum xs))) w := by
    rw [run_convert_bytes_string w src tt el (some ⟨g, 0, none⟩) _ c hs he hd, run_bytesToString w _ _ c _ hld, push_fold]; rfl
  simp only [execOp, hv, Sem.run_bind, hr, Result.andThen_ok, Sem.run_pure]
end
end Go.Gw
