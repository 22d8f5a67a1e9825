/- Typed walks: the tail of a row of one's own is cleared; a new row by append of make. Over any program. -/
import Derived.Test.YtoaeaclcbcpheaaDoorG17
namespace Go.Gw
open Go
set_option linter.unusedVariables false
set_option linter.unusedSimpArgs false
section
variable {C : Cx} {Γ : Env} {L R : List It} {Q : Exit → Act → World → Prop} {ops : Array Oper} {rest : List Oper}
variable {dst : Option Tmp} {ty : TypeId} {pos : String} {after : Array Edge} {guard : Option (Nat × Bool)} {x y z : Operand}
variable {α β : Type} {d : Kd α} {e : Kd β}
theorem acts_clear_cut {t el : TypeId} {v : Value} {xs : List α} {v0 : α} {j : Nat} (hx : OT C.N Γ x (IsV (cutV v j d.sz))) (hp : List.Perm L (OwnI el d v xs :: R)) (ht : C.P.underlying t = some (.slice el)) (he : tyOk C.P el d.agg d.sz = true) (hz : ZeroOf C.P el d v0) (hd : 0 < d.sz) (hj : j < xs.length) :
    Acts C Γ L ⟨dst, .call ⟨.builtin .clear, #[x], #[t]⟩, ty, pos, after, guard⟩ [OwnI el d v xs] Unit (fun _ => AnyT) (fun _ => [OwnI el d v (xs.take j ++ List.replicate (xs.length - j) v0)]) (fun _ => True) := by
  intro a w H f s ow Q K hK
  have hv : a.eval x = cutV v j d.sz := hx a H f
  have o' := ow.perm hp
  obtain ⟨b, cap, cur, cs, rfl, hb, hR, hS, hcs, hcap, hcm, hcc⟩ := own_stand (o'.all _ List.mem_cons_self) (by omega)
  have hown := o'.own b (blk_mem (i := OwnI el d (.slice (some ⟨b, 0, none⟩) xs.length cap) xs) List.mem_cons_self rfl)
  obtain ⟨zv, h1, h2⟩ := rep_zeros hz he hd (xs.length - j) w H
  have hsz : zv.cells.size = d.sz := by
    obtain ⟨zv', h3, h4⟩ := run_zero (w := w) hz
    obtain ⟨cs', h5, _, h6⟩ := cells_of_T (h4 H)
    rw [h1] at h3
    have : zv = zv' := by injection h3
    subst this
    rw [h6]; simpa using d.len h5
  have hzc : (Builtin.zeroCells zv.cells (xs.length - j)).toList = (((Array.range ((xs.length - j) * d.sz)).map (zv.cells[· % zv.cells.size]!)).toList) := by
    unfold Builtin.zeroCells; rw [hsz]
  have hlen := h2.1
  rw [List.length_replicate] at hlen
  have hle : xs.length * d.sz ≤ cap * d.sz := Nat.mul_le_mul_right _ hcap
  have hjl : j * d.sz ≤ xs.length * d.sz := Nat.mul_le_mul_right _ (by omega)
  have hsub : (xs.length - j) * d.sz = xs.length * d.sz - j * d.sz := Nat.sub_mul _ _ _
  have hst := run_storeCells_at C.P b (j * d.sz) el (Builtin.zeroCells zv.cells (xs.length - j)).toList 0 cur w hb (by rw [hzc, hlen, hsub, hcs]; omega) (by rw [hzc]; exact Reps.cells h2)
  simp only [Nat.add_zero] at hst
  rw [hzc] at hst
  obtain ⟨n, hn⟩ : ∃ n, xs.length - j = n + 1 := ⟨xs.length - j - 1, by omega⟩
  have hrun : (execOp a.eval ⟨dst, .call ⟨.builtin .clear, #[x], #[t]⟩, ty, pos, after, guard⟩).run C.P w = .ok (.value (.tuple #[])) (w.setRow b (cur.toList.take (j * d.sz) ++ (((Array.range ((xs.length - j) * d.sz)).map (zv.cells[· % zv.cells.size]!)).toList) ++ cur.toList.drop (j * d.sz + (xs.length - j) * d.sz)).toArray) := by
    rw [hlen] at hst
    rw [← hzc] at hst ⊢
    simp only [execOp, resolve, invoke, builtin, hv, cutV, List.map_toArray, List.map_cons, List.map_nil, Sem.run_bind, Sem.run_pure, Result.andThen_ok]
    rw [hn] at hst ⊢
    simp [Builtin.clear_, run_underlying ht, h1, hst]
  simp only [Oper.wp, hrun, Oper.upon_value]
  have hmem : b ∈ blks [OwnI el d (.slice (some ⟨b, 0, none⟩) xs.length cap) xs] := blk_mem (i := OwnI el d (.slice (some ⟨b, 0, none⟩) xs.length cap) xs) List.mem_cons_self rfl
  have hl2 : (xs.take j ++ List.replicate (xs.length - j) v0).length = xs.length := by
    rw [List.length_append, List.length_take, List.length_replicate]; omega
  have hRn := (hR.take j (by omega)).append h2
  refine hK () _ _ H trivial (st_setRow s.on hown.2.1 hmem _) trivial ⟨?_, by simp [blks, OwnI, Value.ownBlock], ?_⟩
  · intro it hit
    rw [List.mem_singleton.1 hit]
    refine ⟨_, ⟨?_, .inr ⟨b, cap, _, ?_, Nat.zero_le _, setRow_heap w b _ _ el _ hb, ?_, hcm, ?_, ?_⟩⟩, hRn⟩
    · rw [hRn.1]
    · rw [hl2]
    · rw [hl2]; exact hcap
    · have hcl : cur.toList.length = cap * d.sz := by simpa using hcs
      simp only [List.size_toArray, List.length_append, List.length_take, List.length_drop, hlen, hcl]
      omega
    · rw [hl2, hcc, List.take_take, Nat.min_eq_left hjl]
      have hlen3 : (cur.toList.take (j * d.sz) ++ (((Array.range ((xs.length - j) * d.sz)).map (zv.cells[· % zv.cells.size]!)).toList)).length = xs.length * d.sz := by
        rw [List.length_append, hlen, List.length_take, Array.length_toList, hcs, hsub]; omega
      rw [List.toList_toArray, ← hlen3]
      exact List.take_left
  · intro g' hg'
    have : g' = b := by simpa [blks, OwnI, Value.ownBlock] using hg'
    subst this
    exact ⟨by simpa using hown.1, hown.2.1, .inl hmem⟩
/-- 'append(nil, make([]T, n)...)'. -/
theorem acts_append_make {t tn el : TypeId} {bytes : Nat} {kq kn : IntKind} {n : Int} {v0 : α} (hx : OT C.N Γ x (IsV nilS)) (hy : OT C.N Γ y (IntT kq n)) (ht : slTy C.P t el d.sz bytes = true) (htn : C.P.underlying tn = some (.int kn)) (he : tyOk C.P el d.agg d.sz = true) (hz : ZeroOf C.P el d v0) (h0 : 0 < n) (hb : n * bytes ≤ 281474976710656) (hm : n ≤ maxLen) :
    Acts C Γ L ⟨dst, .call ⟨.builtin .append, #[x, y], #[t, tn]⟩, ty, pos, after, guard⟩ [] Value (fun r => IsV r) (fun r => [OwnI el d r (List.replicate n.toNat v0)]) (fun _ => True) := by
  intro a w H f s ow Q K hK
  obtain ⟨hu, i, z, hi, hzi, hsz, hby, hzs, hpos⟩ := slTy_spec ht
  have hv : a.eval x = nilS := hx a H f
  have hw : a.eval y = .int kq n := hy a H f
  obtain ⟨k, rfl⟩ : ∃ c : Nat, n = c := ⟨n.toNat, by omega⟩
  have hm' : k ≤ maxLen := by omega
  have hbk : k * i.bytes ≤ 281474976710656 := by rw [hby]; omega
  have h63 : ((0 + k : Nat) : Int) ≤ 9223372036854775807 := by simp only [maxLen] at hm'; omega
  have hcapn : Builtin.nextslicecap (0 + k) 0 = k := by unfold Builtin.nextslicecap; rw [if_pos (by omega)]; omega
  have hr := Lib.run_append_grow_zeros (P := C.P) w t tn ty el i z kq kn hu htn hi hzi none 0 0 [] (by simp [Builtin.firstCells]) k (by omega) (by omega) (by omega) h63 hbk (by rw [hcapn]; exact hbk)
  simp only [Nat.zero_add] at hr
  have hrun : (execOp a.eval ⟨dst, .call ⟨.builtin .append, #[x, y], #[t, tn]⟩, ty, pos, after, guard⟩).run C.P w = .ok (.value (.slice (some ⟨w.heap.size, 0, none⟩) k (grownCap w k 0 el))) (w.drew.alloc (.cells (([] : List Value).toArray ++ Builtin.zeroCells z.cells k ++ Builtin.zeroCells z.cells (grownCap w k 0 el - k)) el)) := by
    simp only [execOp, resolve, invoke, builtin, hv, hw, List.map_toArray, List.map_cons, List.map_nil, Sem.run_bind, Sem.run_pure, Result.andThen_ok, hr]
  simp only [Oper.wp, hrun, Oper.upon_value]
  obtain ⟨zv, h1, h2⟩ := rep_zeros hz he (by omega) k w H
  have hzz : zv = z := by
    have : (zeroValue el).run C.P w = .ok z w := by simp [zeroValue, typeInfo, hi, hzi]
    rw [this] at h1; injection h1 with h1; exact h1.symm
  subst hzz
  have hzc : (Builtin.zeroCells zv.cells k).toList = (((Array.range (k * d.sz)).map (zv.cells[· % zv.cells.size]!)).toList) := by
    unfold Builtin.zeroCells; rw [hzs]
  have hge := grownCap_ge w k 0 el
  have hcm : grownCap w k 0 el ≤ maxLen := grownCap_le_maxLen w k 0 el hm'
  have hg : w.grownBy (w.drew.alloc (.cells (([] : List Value).toArray ++ Builtin.zeroCells zv.cells k ++ Builtin.zeroCells zv.cells (grownCap w k 0 el - k)) el)) none := ⟨rfl, rfl, rfl, by simp, fun k hk _ => heap_alloc_old w.drew _ hk⟩
  have hlen := h2.1
  rw [List.length_replicate] at hlen
  refine hK _ _ _ H trivial (st_grown (row := none) s.on hg fun g h => by cases h) rfl (owns_new (J := OwnI el d (.slice (some ⟨w.heap.size, 0, none⟩) k (grownCap w k 0 el)) (List.replicate k v0)) ⟨_, ⟨?_, .inr ⟨w.heap.size, grownCap w k 0 el, _, ?_, Nat.zero_le _, heap_alloc_new w.drew _, ?_, hcm, ?_, ?_⟩⟩, h2⟩ (.inr rfl) (by simp) s.on)
  · rw [hlen, List.length_replicate]
  · rw [List.length_replicate]
  · rw [List.length_replicate]; exact hge
  · simp only [Array.size_append, List.size_toArray, List.length_nil, size_zeroCells, hzs, Nat.zero_add, ← Nat.add_mul]
    congr 1; omega
  · rw [List.length_replicate, ← hzc]
    simp only [Array.toList_append, List.toList_toArray, List.nil_append]
    have : (Builtin.zeroCells zv.cells k).toList.length = k * d.sz := by rw [hzc, hlen]
    rw [← this]; exact List.take_left
end
end Go.Gw
