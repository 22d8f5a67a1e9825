/- spoil: slices of slices of numbers are written over; nothing else is. -/
import Derived.Test.YtloblpklkhepbaaProg
import Derived.Test.YtloblpklkhepbaaG24
import Derived.Test.YtloblpklkhepbaaTu1
namespace Go.Gw
open Go
set_option linter.unusedVariables false
set_option linter.unusedSimpArgs false
section
variable {C : Cx} {Γ : Env} {L : List It} {dst : Option Tmp} {ty : TypeId} {pos : String} {after : Array Edge} {guard : Option (Nat × Bool)} {x y : Operand}
theorem pu_len_val {t el : TypeId} {A : Option Addr} {n c : Nat} (hx : OT C.N Γ x (IsV (.slice A n c))) (ht : C.P.underlying t = some (.slice el)) : Pure C Γ L ⟨dst, .call ⟨.builtin .len, #[x], #[t]⟩, ty, pos, after, guard⟩ (I64 n) := fun a w H f s ow => by
  have h0 : a.eval x = .slice A n c := hx a H f
  exact ⟨_, by simp [execOp, resolve, invoke, builtin, Builtin.len_, h0, run_underlying ht, goInt], rfl⟩
theorem pu_index_val {t el : TypeId} {agg : Bool} {k : IntKind} {b o n c : Nat} {i : Int} (hx : OT C.N Γ x (IsV (.slice (some ⟨b, o, none⟩) n c))) (hy : OT C.N Γ y (IntT k i)) (ht : C.P.underlying t = some (.slice el)) (he : tyOk C.P el agg 1 = true) (h0 : 0 ≤ i) (h1 : i < n) :
    Pure C Γ L ⟨dst, .indexAddr t x y, ty, pos, after, guard⟩ (IsV (pt b (o + i.toNat))) := fun a w H f s ow => by
  have hv : a.eval x = .slice (some ⟨b, o, none⟩) n c := hx a H f
  have hi : a.eval y = .int k i := hy a H f
  refine ⟨_, ?_, rfl⟩
  simp [execOp, Instr.indexAt, hi, asIntOf, run_underlying ht, hv, h1, h0, run_sizeOf he, add_plain]
end
theorem lo_intro {P : Program} {f : FuncId} {fn : Func} {c : Code} {As : List Ty} {vs : List Value} {w : World} {R : Ending → World → Prop} (hf : P.funcs[f]? = some fn) (hb : fn.body = some c) (hN : decide (As.length ≤ fn.ntmps) = true) (hA : AllP noK As vs)
    (h : Lo P fn.ntmps (fun w' => w' = w) (argEnv 0 As) (c.wp P (bodyPost P fn R))) : Calls P f vs.toArray w R := by
  have hlen := allP_len hA
  have hN' : As.length ≤ fn.ntmps := of_decide_eq_true hN
  refine calls_of_wp hf hb (h _ w rfl ⟨rfl, by simp; omega, fun t T' e => ?_⟩)
  obtain ⟨_, h2, h3⟩ := allP_find hA e
  have h4 : (vs.toArray ++ Array.replicate (fn.ntmps - vs.toArray.size) undef).getD t undef = vs.getD (t - 0) undef := by
    simp only [Nat.sub_zero] at h3 ⊢
    simp [Array.getD_eq_getD_getElem?, List.getD_eq_getElem?_getD, Array.getElem?_append, h3]
  rw [h4]; exact h2
theorem run_ld {P : Program} {w : World} {t : TypeId} {b k : Nat} {u : Value} (ht : tyOk P t false 1 = true) (h : SlC w b k u) : (loadVar t ⟨b, k, none⟩).run P w = .ok u w := by
  obtain ⟨cur, e, h1, h2⟩ := h
  have := run_loadVar (P := P) (w := w) (t := t) (agg := false) (cs := [u]) (g := b) (off := k) ht (fun _ => rfl) h1 (fun i v hv => by
    cases i with
    | zero => simpa using (by simpa using hv : u = v) ▸ h2
    | succ i => simp at hv)
  exact this
theorem run_st {P : Program} {w : World} {t : TypeId} {b k : Nat} {u v : Value} {cur : Array Value} {e : TypeId} (ht : tyOk P t false 1 = true) (hc : v.cells = #[v]) (h1 : v.oneCell' = true) (hb : w.heap[b]? = some (.cells cur e (0, 0))) (hk : k < cur.size) :
    (storeVar t ⟨b, k, none⟩ v).run P w = .ok () (w.setRow b (cur.setIfInBounds k v)) := by
  have := run_storeVar (P := P) (w := w) (t := t) (agg := false) (g := b) (off := k) (cur := cur) (el := e) (v := v) (cs := [v]) ht hc (by simpa using h1) hb (by simp; omega)
  rw [List.length_singleton, arr_set hk] at this; exact this
section
variable {P : Program} {N : Nat} {X Y : World → Prop} {Γ : Env} {Q : Exit → Act → World → Prop} {ops : Array Oper} {rest : List Oper}
variable {dst : Option Tmp} {ty : TypeId} {pos : String} {after : Array Edge} {x y : Operand}
theorem lo_ld {t : TypeId} {b k : Nat} {u : Value} (hx : OT N Γ x (IsV (pt b k))) (ht : tyOk P t false 1 = true) (h : ∀ w, X w → SlC w b k u) (hd : dstOk N dst = true) (kk : Lo P N X (upd dst (IsV u) Γ) (wpList P ops Q rest)) :
    Lo P N X Γ (wpList P ops Q ((⟨dst, .load t x, ty, pos, after, none⟩ : Oper) :: rest)) :=
  lo_run (ρ := Unit) (Z := fun _ => X) (V := fun _ => u) (fun a w hX f => by
    have hv : a.eval x = pt b k := hx a noK f
    refine ⟨(), w, ?_, hX⟩
    simp [execOp, Instr.loadAt, Instr.sureAddr, hv, pt, run_ld ht (h w hX)]) rfl hd fun _ => kk
theorem lo_st {t : TypeId} {b k : Nat} {v : Value} (hx : OT N Γ x (IsV (pt b k))) (hy : OT N Γ y (IsV v)) (ht : tyOk P t false 1 = true) (hc : v.cells = #[v]) (h1 : v.oneCell' = true)
    (h : ∀ w, X w → ∃ cur e, w.heap[b]? = some (.cells cur e (0, 0)) ∧ k < cur.size ∧ Y (w.setRow b (cur.setIfInBounds k v))) (kk : Lo P N Y Γ (wpList P ops Q rest)) :
    Lo P N X Γ (wpList P ops Q ((⟨none, .store t x y, ty, pos, after, none⟩ : Oper) :: rest)) :=
  lo_run_skip (fun a w hX f => by
    have hv : a.eval x = pt b k := hx a noK f
    have hw : a.eval y = v := hy a noK f
    obtain ⟨cur, e, h2, h3, h4⟩ := h w hX
    refine ⟨_, ?_, h4⟩
    have h5 := run_st (P := P) (t := t) (u := v) ht hc h1 h2 h3
    simp only [execOp, Instr.storeAt, Instr.sureAddr, hv, hw, pt, Sem.run_bind, Sem.run_pure, Result.andThen_ok] at h5 ⊢
    rw [h5]; rfl) rfl rfl kk
end
theorem slc_cur {w : World} {b k : Nat} {u : Value} (h : SlC w b k u) : ∃ cur e, w.heap[b]? = some (.cells cur e (0, 0)) ∧ k < cur.size := let ⟨cur, e, h1, h2⟩ := h; ⟨cur, e, h1, (Array.getElem?_eq_some_iff.1 h2).1⟩
def Sp (D : Nat → Prop) (w1 : World) (i : Nat) (w : World) : Prop := Fr D w1 w ∧ Mon D i w1 w
def Cu (D : Nat → Prop) (m b k : Nat) (A : Option Addr) (l c : Nat) (w : World) : Prop := SlC w b k (.slice A l c) ∧ OkIn D m w (.slice A l c)
/-- A slice, grown by one number since w0, is written over the slice that it grew from. -/
theorem mon_app {D : Nat → Prop} {w0 w : World} {b k : Nat} {cur : Array Value} {e : TypeId} {A A' : Option Addr} {l c l' c' : Nat} (h0 : Mon D 0 w0 w) (hsl : ∀ b' k' A l c, SlC w0 b' k' (.slice A l c) → SlC w b' k' (.slice A l c)) (hb : w.heap[b]? = some (.cells cur e (0, 0))) (hk : k < cur.size)
    (hs : SlC w b k (.slice A l c)) (hg : ∀ m, OkIn D m w0 (.slice A l c) → OkIn D (m + 1) w (.slice A' l' c')) : Mon D 1 w0 (w.setRow b (cur.setIfInBounds k (.slice A' l' c'))) := by
  have hint : ∀ b' k', IntC w b' k' → IntC (w.setRow b (cur.setIfInBounds k (.slice A' l' c'))) b' k' := fun b' k' ⟨n', h⟩ =>
    ⟨n', slc_other hb (fun e => by obtain ⟨rfl, rfl⟩ := e; have := slc_uniq h hs; cases this) h⟩
  refine ⟨fun b' k' h => hint _ _ (h0.1 _ _ h), fun b' k' u m h1 h2 => ?_⟩
  have h3 := h2
  obtain ⟨A2, l2, c2, rfl, _⟩ := h2
  have h4 := hsl _ _ _ _ _ h1
  by_cases hc : b' = b ∧ k' = k
  · obtain ⟨rfl, rfl⟩ := hc
    have := slc_uniq h4 hs
    rw [this] at h3
    exact ⟨_, slc_at hb hk, (hg m h3).mono hint (Nat.le_refl _)⟩
  · exact ⟨_, slc_other hb hc h4, h3.mono (fun b k h => hint b k (h0.1 b k h)) (Nat.le_succ _)⟩
end Go.Gw
namespace Go.Proofs.Ytloblpklkhepbaa
open Go Go.Gw Go.So Go.Tu
set_option linter.unusedVariables false
set_option linter.unusedSimpArgs false
set_option maxHeartbeats 1000000 in
set_option maxRecDepth 20000 in
theorem spoil_ct : SpoilCt Try.prog 31 := by
  intro D w1 A n c m hn hm hD hnc hA
  have T40 : tyOk Try.prog 38 false 1 = true := by decide +kernel
  have T3 : tyOk Try.prog 3 false 1 = true := by decide +kernel
  refine lo_intro (As := [IsV (.slice A n c)]) (vs := [.slice A n c]) Try.func31 rfl rfl ⟨rfl, trivial⟩ ?_
  refine lo_seq (lo_region (lo_pure (fun w0 => pu_move (OT.tmp rfl)) rfl rfl (lo_pure (fun w0 => pu_len_val (OT.tmp rfl) Try.underlying40) rfl rfl (lo_pure (fun w0 => pu_move OT.const) rfl rfl (lo_nil (lo_then ?_))))))
  refine lo_block ?_
  refine lo_loop (σ := Nat) (fun i => [(0, IsV (.slice A n c)), (5, I64 (n : Int)), (6, I64 (i : Int))]) (fun i w => i ≤ n ∧ Sp D w1 i w) (fun i => n - i) 0 (fun w h => by subst h; exact ⟨Nat.zero_le _, Fr.refl, Mon.refl⟩) (es_cons (t := 0) (OT.tmp rfl) (es_cons (t := 5) (OT.tmp rfl) (es_cons (t := 6) (OT.tmp rfl) es_nil))) ?_
  intro i
  refine lo_seq (lo_region (lo_pure (fun w0 => pu_lss (OT.tmp rfl) (OT.tmp rfl)) rfl rfl (lo_nil (lo_then ?_))))
  refine lo_seq (lo_cond (OT.tmp rfl) (fun c7 => ?_) (fun c7 => ?_))
  · have hlt : i < n := by have := of_decide_eq_true c7; omega
    refine lo_skip (lo_then (lo_seq (lo_block ?_)))
    refine lo_seq (lo_region (lo_pure (fun w0 => pu_move (OT.tmp rfl)) rfl rfl (lo_pure (fun w0 => pu_assign (OT.tmp rfl)) rfl rfl (lo_nil (lo_then ?_)))))
    obtain ⟨b, o, rfl, hDb, hsl⟩ := hA (by omega)
    refine lo_ex (ρ := Option Addr × Nat × Nat) (Z := fun r w => Sp D w1 i w ∧ Cu D (m + i) b (o + i) r.1 r.2.1 r.2.2 w) (fun w h => ?_) ?_
    · obtain ⟨u, h1, h2⟩ := hsl i hlt
      obtain ⟨u', h3, h4⟩ := h.2.2.2 _ _ u m h1 h2
      have h5 := h4
      obtain ⟨A2, l2, c2, rfl, _⟩ := h4
      exact ⟨(A2, l2, c2), h.2, h3, h5⟩
    rintro ⟨A2, l, c2⟩
    dsimp only
    refine lo_seq (lo_seq (lo_region ?_))
    refine lo_pure (fun w0 => pu_move (OT.tmp rfl)) rfl rfl (lo_pure (fun w0 => pu_move (OT.tmp rfl)) rfl rfl (lo_pure (fun w0 => pu_index_val (OT.tmp rfl) (OT.tmp rfl) Try.underlying40 T40 (by omega) (by omega)) rfl rfl ?_))
    refine lo_ld (u := .slice A2 l c2) (OT.tmp rfl) T40 (fun w h => by rw [Int.toNat_natCast]; exact h.2.1) rfl ?_
    refine lo_pure (fun w0 => pu_len_val (OT.tmp rfl) Try.underlying38) rfl rfl (lo_pure (fun w0 => pu_move OT.const) rfl rfl (lo_nil (lo_then ?_)))
    refine lo_block ?_
    refine lo_loop (σ := Nat) (fun k => [(0, IsV (.slice (some ⟨b, o, none⟩) n c)), (2, I64 (i : Int)), (5, I64 (n : Int)), (6, I64 (i : Int)), (13, I64 (l : Int)), (14, I64 (k : Int))]) (fun k w => k ≤ l ∧ Sp D w1 i w ∧ Cu D (m + i) b (o + i) A2 l c2 w) (fun k => l - k) 0 (fun w h => ⟨Nat.zero_le _, h⟩)
      (es_cons (t := 0) (OT.tmp rfl) (es_cons (t := 2) (OT.tmp rfl) (es_cons (t := 5) (OT.tmp rfl) (es_cons (t := 6) (OT.tmp rfl) (es_cons (t := 13) (OT.tmp rfl) (es_cons (t := 14) (OT.tmp rfl) es_nil)))))) ?_
    intro k
    refine lo_seq (lo_region (lo_pure (fun w0 => pu_lss (OT.tmp rfl) (OT.tmp rfl)) rfl rfl (lo_nil (lo_then ?_))))
    refine lo_seq (lo_cond (OT.tmp rfl) (fun c15 => ?_) (fun c15 => ?_))
    · have hkl : k < l := by have := of_decide_eq_true c15; omega
      refine lo_skip (lo_then (lo_seq (lo_block (lo_seq ?_))))
      refine lo_region (lo_pure (fun w0 => pu_move (OT.tmp rfl)) rfl rfl (lo_pure (fun w0 => pu_assign (OT.tmp rfl)) rfl rfl (lo_nil (lo_then ?_))))
      refine lo_ex (ρ := Nat × Nat) (Z := fun r w => (A2 = some ⟨r.1, r.2, none⟩ ∧ D r.1 ∧ l ≤ c2 ∧ l ≤ m + i) ∧ Sp D w1 i w ∧ Cu D (m + i) b (o + i) A2 l c2 w ∧ ∀ k, k < c2 → IntC w r.1 (r.2 + k)) (fun w h => ?_) ?_
      · obtain ⟨h0, h1, h2, h3⟩ := h
        have h4 := h3
        obtain ⟨A3, l3, c3, e, h5, h6, h7⟩ := h3
        cases e
        obtain ⟨b2, o2, e2, d2, i2⟩ := h7 (by omega)
        exact ⟨(b2, o2), ⟨e2, d2, h5, h6⟩, h1, ⟨h2, h4⟩, i2⟩
      rintro ⟨b2, o2⟩
      refine lo_fact (fun w h => h.1) ?_
      rintro ⟨rfl, hD2, hlc, hlm⟩
      dsimp only
      refine lo_region (lo_pure (fun w0 => pu_move (OT.tmp rfl)) rfl rfl (lo_pure (fun w0 => pu_move (OT.tmp rfl)) rfl rfl (lo_pure (fun w0 => pu_index_val (OT.tmp rfl) (OT.tmp rfl) Try.underlying40 T40 (by omega) (by omega)) rfl rfl ?_)))
      refine lo_ld (u := .slice (some ⟨b2, o2, none⟩) l c2) (OT.tmp rfl) T40 (fun w h => by rw [Int.toNat_natCast]; exact h.2.2.1.1) rfl ?_
      refine lo_pure (fun w0 => pu_move (OT.tmp rfl)) rfl rfl (lo_pure (fun w0 => pu_index_val (OT.tmp rfl) (OT.tmp rfl) Try.underlying38 T3 (by omega) (by omega)) rfl rfl ?_)
      refine lo_run (ρ := Int) (Z := fun _ w => (some (⟨b2, o2, none⟩ : Addr) = some ⟨b2, o2, none⟩ ∧ D b2 ∧ l ≤ c2 ∧ l ≤ m + i) ∧ Sp D w1 i w ∧ Cu D (m + i) b (o + i) (some ⟨b2, o2, none⟩) l c2 w ∧ ∀ k, k < c2 → IntC w b2 (o2 + k)) (V := fun q => .int .i64 q) (fun a w h f => ?_) rfl rfl ?_
      · obtain ⟨q, hq⟩ := h.2.2.2 k (by omega)
        have hv : a.eval (.tmp 22) = pt b2 (o2 + (k : Int).toNat) := (OT.tmp (t := 22) rfl : OT _ _ _ (IsV _)) a noK f
        refine ⟨q, w, ?_, h⟩
        rw [Int.toNat_natCast] at hv
        simp [execOp, Instr.loadAt, Instr.sureAddr, hv, pt, run_ld T3 hq]
      intro q
      refine lo_pure (fun w0 => pu_add (OT.tmp rfl) OT.const) rfl rfl (lo_pure (fun w0 => pu_index_val (OT.tmp rfl) (OT.tmp rfl) Try.underlying38 T3 (by omega) (by omega)) rfl rfl ?_)
      refine lo_st (Y := fun w => Sp D w1 i w ∧ Cu D (m + i) b (o + i) (some ⟨b2, o2, none⟩) l c2 w) (OT.tmp rfl) (OT.tmp rfl) T3 rfl rfl (fun w h => ?_) ?_
      · rw [Int.toNat_natCast]
        have hi := h.2.2.2 k (by omega)
        obtain ⟨q2, hq2⟩ := hi
        obtain ⟨cur, e, hb, hk⟩ := slc_cur hq2
        have hmi := mon_int (D := D) (n := IntKind.i64.wrap (q + 1)) hb ⟨q2, hq2⟩
        exact ⟨cur, e, hb, hk, ⟨h.2.1.1.trans (fr_set hD2), h.2.1.2.trans hmi.1⟩, hmi.2 _ _ _ _ _ h.2.2.1.1, h.2.2.1.2.mono hmi.1.1 (Nat.le_refl _)⟩
      refine lo_nil (lo_block_normal (lo_then ?_))
      refine lo_region (lo_pure (fun w0 => pu_add_u (OT.tmp rfl) OT.const (by omega) (by omega)) rfl rfl (lo_pure (fun w0 => pu_move (OT.tmp rfl)) rfl rfl (lo_nil (lo_then ?_))))
      refine lo_again (k + 1) (by show l - (k + 1) < l - k; omega) (fun w h => ⟨hkl, h⟩) (es_cons (t := 0) (OT.tmp rfl) (es_cons (t := 2) (OT.tmp rfl) (es_cons (t := 5) (OT.tmp rfl) (es_cons (t := 6) (OT.tmp rfl) (es_cons (t := 13) (OT.tmp rfl) (es_cons (t := 14) (OT.tmp rfl) es_nil))))))
    · refine lo_exit (lo_then_exit (lo_then_exit (lo_block_hit (lo_then ?_))))
      refine lo_weak (Y := fun w => Sp D w1 i w ∧ Cu D (m + i) b (o + i) A2 l c2 w) (fun w h => h.2) ?_
      refine lo_region (lo_pure (fun w0 => pu_move (OT.tmp rfl)) rfl rfl (lo_pure (fun w0 => pu_move (OT.tmp rfl)) rfl rfl (lo_pure (fun w0 => pu_move (OT.tmp rfl)) rfl rfl (lo_pure (fun w0 => pu_move (OT.tmp rfl)) rfl rfl (lo_pure (fun w0 => pu_index_val (OT.tmp rfl) (OT.tmp rfl) Try.underlying40 T40 (by omega) (by omega)) rfl rfl ?_)))))
      refine lo_ld (u := .slice A2 l c2) (OT.tmp rfl) T40 (fun w h => by rw [Int.toNat_natCast]; exact h.2.1) rfl ?_
      refine lo_run (ρ := Nat) (Z := fun g w => (Sp D w1 i w ∧ Cu D (m + i) b (o + i) A2 l c2 w) ∧ SlC w g 0 (.int .i64 99)) (V := fun g => .slice (some ⟨g, 0, none⟩) 1 1) (fun a w h f => ?_) rfl rfl ?_
      · obtain ⟨cells, h1, _, h3⟩ := run_buildSlice (P := Try.prog) (w := w) (H := noK) (d := kI6) (v0 := 0) (xs := (List.replicate 1 0).set 0 99) f (parts := [(0, .const (.int .i64 99))]) (show slTy Try.prog 38 3 1 8 = true from by decide +kernel) T3 zi3 (by decide) (fills_arr rfl rfl (by decide) OT.const fills_nil)
        refine ⟨w.heap.size, w.alloc (.cells cells 3 (0, 0)), ?_, ⟨⟨h.1.1.trans (fr_alloc w rfl rfl rfl rfl), h.1.2.trans (mon_alloc w rfl)⟩, slc_alloc h.2.1 w rfl, h.2.2.mono (mon_alloc (D := D) w rfl).1 (Nat.le_refl _)⟩, cells, 3, heap_alloc_new w _, ?_⟩
        · simp only [execOp, Sem.run_bind] at h1 ⊢; rw [h1]; rfl
        · have h4 := h3.2 0 99 rfl
          have h5 : (cells.toList.drop 0).take 1 = [.int .i64 99] := h4
          have h6 : ((cells.toList.drop 0).take 1)[0]? = some (.int .i64 99) := by rw [h5]; rfl
          simpa [List.getElem?_take] using h6
      intro g
      refine lo_run (ρ := Option Addr × Nat × Nat) (Z := fun r w => ∃ w0, Sp D w1 i w0 ∧ Fr D w0 w ∧ Mon D 0 w0 w ∧ (∀ b' k' A l c, SlC w0 b' k' (.slice A l c) → SlC w b' k' (.slice A l c)) ∧ (∀ m, OkIn D m w0 (.slice A2 l c2) → OkIn D (m + 1) w (.slice r.1 r.2.1 r.2.2)) ∧ SlC w b (o + i) (.slice A2 l c2)) (V := fun r => .slice r.1 r.2.1 r.2.2) (fun a w h f => ?_) rfl rfl ?_
      · obtain ⟨hu, ii, z, hi, hz, hsz, hby, hzs, hpos⟩ := slTy_spec (show slTy Try.prog 38 3 1 8 = true from by decide +kernel)
        obtain ⟨z', hz1, hz2⟩ := zi3
        rw [hi] at hz1
        have hzz : z = .int .i64 0 := by
          have h7 : ii.zero = some z' := hz1
          rw [hz] at h7
          have h8 : z' = .int .i64 0 := hz2 noK
          rw [Option.some.inj h7, h8]
        obtain ⟨A', l', c', w', hr, h1, h2, h3, h4⟩ := run_append_one (D := D) (P := Try.prog) (w := w) (ty := 38) hu hi hz hsz hby (by rw [hzz]; rfl) h.1.2.2 (by omega) h.2 (fun k hk => hD k (Nat.le_trans h.1.1.1.size hk))
        have hv : a.eval (.tmp 32) = .slice A2 l c2 := (OT.tmp (t := 32) rfl : OT _ _ _ (IsV _)) a noK f
        have hw : a.eval (.tmp 33) = .slice (some ⟨g, 0, none⟩) 1 1 := (OT.tmp (t := 33) rfl : OT _ _ _ (IsV _)) a noK f
        refine ⟨(A', l', c'), w', ?_, w, h.1.1, h1, h2, h4, h3, h4 _ _ _ _ _ h.1.2.1⟩
        simp [execOp, resolve, invoke, builtin, hv, hw, hr]
      rintro ⟨A', l', c'⟩
      dsimp only
      refine lo_pure (fun w0 => pu_index_val (OT.tmp rfl) (OT.tmp rfl) Try.underlying40 T40 (by omega) (by omega)) rfl rfl ?_
      refine lo_st (Y := Sp D w1 (i + 1)) (OT.tmp rfl) (OT.tmp rfl) T40 rfl rfl (fun w h => ?_) ?_
      · rw [Int.toNat_natCast]
        obtain ⟨w0, h1, h2, h3, h4, h5, h6⟩ := h
        obtain ⟨cur, e, hb, hk⟩ := slc_cur h6
        exact ⟨cur, e, hb, hk, (h1.1.trans h2).trans (fr_set hDb), h1.2.trans (mon_app h3 h4 hb hk h6 h5)⟩
      refine lo_nil (lo_block_normal (lo_then ?_))
      refine lo_region (lo_pure (fun w0 => pu_add_u (OT.tmp rfl) OT.const (by omega) (by omega)) rfl rfl (lo_pure (fun w0 => pu_move (OT.tmp rfl)) rfl rfl (lo_nil (lo_then ?_))))
      exact lo_again (i + 1) (by show n - (i + 1) < n - i; omega) (fun w h => ⟨hlt, h⟩) (es_cons (t := 0) (OT.tmp rfl) (es_cons (t := 5) (OT.tmp rfl) (es_cons (t := 6) (OT.tmp rfl) es_nil)))
  · refine lo_exit (lo_then_exit (lo_then_exit (lo_block_hit ?_)))
    intro a w h f
    have hin : i = n := by have := of_decide_eq_false c7; omega
    subst hin
    exact ⟨f.defers, _, results_none rfl _ _ _, ⟨_, rfl⟩, h.2.1, h.2.2⟩
end Go.Proofs.Ytloblpklkhepbaa
