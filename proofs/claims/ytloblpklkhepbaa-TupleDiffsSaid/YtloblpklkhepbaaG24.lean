/- Typed walks: what stood at a mark comes back when all that was made since is given up to be written over. Over any program. -/
import Derived.Test.YtloblpklkhepbaaG23
namespace Go.Gw
open Go
set_option linter.unusedVariables false
set_option linter.unusedSimpArgs false
/-! ### 1. Worlds told by a predicate -/
def Lo (P : Program) (N : Nat) (X : World → Prop) (Γ : Env) (φ : Act → World → Prop) : Prop := ∀ a w, X w → Fits N Γ noK a → φ a w
section
variable {P : Program} {N : Nat} {X Y : World → Prop} {Γ : Env} {Q : Exit → Act → World → Prop} {φ : Act → World → Prop} {ops : Array Oper} {o : Oper} {rest : List Oper}
theorem lo_seq {x y : Code} (h : Lo P N X Γ (x.wp P (Exit.then (y.wp P Q) Q))) : Lo P N X Γ ((Code.seq x y).wp P Q) := fun a w hx f => wp_seq (h a w hx f)
theorem lo_skip (h : Lo P N X Γ (Q .normal)) : Lo P N X Γ (Code.skip.wp P Q) := fun a w hx f => wp_skip (h a w hx f)
theorem lo_exit {i : Nat} (h : Lo P N X Γ (Q (.exit i))) : Lo P N X Γ ((Code.exit i).wp P Q) := fun a w hx f => wp_exit (h a w hx f)
theorem lo_block {i : Nat} {c : Code} (h : Lo P N X Γ (c.wp P (Exit.inBlock i Q))) : Lo P N X Γ ((Code.block i c).wp P Q) := fun a w hx f => wp_block (h a w hx f)
theorem lo_then {K : Act → World → Prop} (h : Lo P N X Γ K) : Lo P N X Γ (Exit.then K Q .normal) := h
theorem lo_then_exit {K : Act → World → Prop} {i : Nat} (h : Lo P N X Γ (Q (.exit i))) : Lo P N X Γ (Exit.then K Q (.exit i)) := h
theorem lo_block_normal {i : Nat} (h : Lo P N X Γ (Q .normal)) : Lo P N X Γ (Exit.inBlock i Q .normal) := h
theorem lo_block_hit {i : Nat} (h : Lo P N X Γ (Q .normal)) : Lo P N X Γ (Exit.inBlock i Q (.exit i)) := fun a w hx f => by simp [Exit.inBlock, h a w hx f]
theorem lo_env {Γ' : Env} (hs : EnvSub N Γ Γ') (h : Lo P N X Γ' φ) : Lo P N X Γ φ := fun a w hx f => h a w hx (hs a noK f)
theorem lo_ex {ρ : Type} {Z : ρ → World → Prop} (h : ∀ w, X w → ∃ r, Z r w) (k : ∀ r, Lo P N (Z r) Γ φ) : Lo P N X Γ φ := fun a w hx f => let ⟨r, hr⟩ := h w hx; k r a w hr f
theorem lo_fact {p : Prop} (h : ∀ w, X w → p) (k : p → Lo P N X Γ φ) : Lo P N X Γ φ := fun a w hx f => k (h w hx) a w hx f
theorem lo_weak (h : ∀ w, X w → Y w) (k : Lo P N Y Γ φ) : Lo P N X Γ φ := fun a w hx f => k a w (h w hx) f
theorem lo_region {id : Nat} {l : List Oper} (h : Lo P N X Γ (wpList P l.toArray Q l)) : Lo P N X Γ ((Code.region id l.toArray false).wp P Q) := fun a w hx f => wp_region_lit (h a w hx f)
theorem lo_nil (h : Lo P N X Γ (Q .normal)) : Lo P N X Γ (wpList P ops Q []) := h
theorem lo_cond {x : Operand} {b : Bool} {c d : Code} (hx : OT N Γ x (BoolT b)) (ht : b = true → Lo P N X Γ (c.wp P Q)) (he : b = false → Lo P N X Γ (d.wp P Q)) : Lo P N X Γ ((Code.cond x c d).wp P Q) := by
  intro a w hX f
  have hb : a.eval x = .bool b := hx a noK f
  cases b with
  | true => exact wp_cond hb (ht rfl a w hX f)
  | false => exact wp_cond hb (he rfl a w hX f)
theorem on_noK {w : World} : On noK w := fun k o h => by cases h
theorem lo_pure {T : Ty} (hp : ∀ w0, Pure ⟨P, N, fun _ => True, noK, w0⟩ Γ [] o T) (hg : o.guard = none) (hd : dstOk N o.dst = true) (h : Lo P N X (upd o.dst T Γ) (wpList P ops Q rest)) : Lo P N X Γ (wpList P ops Q (o :: rest)) := by
  intro a w hx f
  obtain ⟨v, hr, hv⟩ := hp w a w noK f (St.refl on_noK) Owns.nil
  refine wpList_plain hg fun K hK => ?_
  simp only [Oper.wp, hr, Oper.upon_value]
  exact hK _ _ (h _ w hx (f.put o.dst hd hv))
theorem lo_run {ρ : Type} {Z : ρ → World → Prop} {V : ρ → Value} (hr : ∀ a w, X w → Fits N Γ noK a → ∃ r w', (execOp a.eval o).run P w = .ok (.value (V r)) w' ∧ Z r w') (hg : o.guard = none) (hd : dstOk N o.dst = true)
    (h : ∀ r, Lo P N (Z r) (upd o.dst (IsV (V r)) Γ) (wpList P ops Q rest)) : Lo P N X Γ (wpList P ops Q (o :: rest)) := by
  intro a w hx f
  obtain ⟨r, w', hrun, hz⟩ := hr a w hx f
  refine wpList_plain hg fun K hK => ?_
  simp only [Oper.wp, hrun, Oper.upon_value]
  exact hK _ _ (h r _ w' hz (f.put o.dst hd rfl))
theorem lo_run_skip (hr : ∀ a w, X w → Fits N Γ noK a → ∃ w', (execOp a.eval o).run P w = .ok .skip w' ∧ Y w') (hg : o.guard = none) (hd : o.dst = none)
    (h : Lo P N Y Γ (wpList P ops Q rest)) : Lo P N X Γ (wpList P ops Q (o :: rest)) := by
  intro a w hx f
  obtain ⟨w', hrun, hz⟩ := hr a w hx f
  refine wpList_plain hg fun K hK => ?_
  simp only [Oper.wp, hrun, Oper.upon_skip]
  exact hK _ _ (h _ w' hz (by rw [hd]; exact f))
def LoRound (N : Nat) {σ : Type} (Γl : σ → Env) (Z : σ → World → Prop) (μ : σ → Nat) (n : Nat) : Act → World → Prop := fun a w => ∃ s, μ s < n ∧ Z s w ∧ Fits N (Γl s) noK a
theorem lo_again {σ : Type} {Γl : σ → Env} {Z : σ → World → Prop} {μ : σ → Nat} {n : Nat} (s : σ) (hμ : μ s < n) (hz : ∀ w, X w → Z s w) (hΓ : EnvSub N Γ (Γl s)) : Lo P N X Γ (LoRound N Γl Z μ n) := fun a w hx f => ⟨s, hμ, hz w hx, hΓ a noK f⟩
theorem lo_loop {σ : Type} (Γl : σ → Env) (Z : σ → World → Prop) (μ : σ → Nat) {c : Code} (s0 : σ) (hz : ∀ w, X w → Z s0 w) (hΓ : EnvSub N Γ (Γl s0))
    (hround : ∀ s, Lo P N (Z s) (Γl s) (c.wp P (Exit.then (LoRound N Γl Z μ (μ s)) Q))) : Lo P N X Γ ((Code.loop c).wp P Q) := by
  intro a w hx f
  have key : ∀ n s a w, μ s = n → Z s w → Fits N (Γl s) noK a → ∀ (b : Frame) (k : List Item) (cs : List Frame),
      ∃ e a' w', Q e a' w' ∧ Arrives P (lone (b.at a (.code c :: .inLoop c :: k)) cs w) b k cs e a' w' := by
    intro n
    induction n using Nat.strongRecOn with
    | _ n ih =>
      intro s a w hn hZ hf b k cs
      obtain ⟨e, a₁, w₁, hq, harr⟩ := hround s a w hZ hf b (.inLoop c :: k) cs
      cases e with
      | normal =>
        obtain ⟨s1, hlt, hZ1, hf1⟩ := hq
        obtain ⟨e₂, a₂, w₂, hq₂, harr₂⟩ := ih (μ s1) (hn ▸ hlt) s1 a₁ w₁ rfl hZ1 hf1 b k cs
        exact ⟨e₂, a₂, w₂, hq₂, .of_steps (Steps.trans harr (.one step_inLoop)) harr₂⟩
      | exit id => exact ⟨_, a₁, w₁, hq, .pass (x := .inLoop c) rfl (fun _ _ => .inl (by simp)) harr⟩
      | goto l => exact ⟨_, a₁, w₁, hq, .pass (x := .inLoop c) rfl (fun _ _ => .inl (by simp)) harr⟩
      | ret => exact ⟨_, a₁, w₁, hq, .pass (x := .inLoop c) rfl (fun _ _ => .inl (by simp)) harr⟩
      | panic ch => exact ⟨_, a₁, w₁, hq, .pass (x := .inLoop c) rfl (fun _ _ => .inl (by simp)) harr⟩
      | outgrown => exact ⟨_, a₁, w₁, hq, .pass (x := .inLoop c) rfl (fun _ _ => .inl (by simp)) harr⟩
  intro b k cs
  obtain ⟨e, a', w', hq, harr⟩ := key _ s0 a w rfl (hz w hx) (hΓ a noK f) b k cs
  exact ⟨e, a', w', hq, .of_steps (.one step_loop) harr⟩
end
/-! ### 2. A function that writes over slices of slices of numbers -/
def SpoilCt (P : Program) (f : FuncId) : Prop := ∀ (D : Nat → Prop) (w : World) (A : Option Addr) (n c m : Nat), n ≤ 1000 → m ≤ 2000 → (∀ k, w.heap.size ≤ k → D k) → n ≤ c →
  (0 < n → ∃ b o, A = some ⟨b, o, none⟩ ∧ D b ∧ ∀ j, j < n → ∃ u, SlC w b (o + j) u ∧ OkIn D m w u) → Calls P f #[.slice A n c] w fun e w' => (∃ v, e = .returned v) ∧ Fr D w w' ∧ Mon D n w w'
/-! ### 3. Marks -/
def MkT (K : FH) (T : Ty) : Ty := ⟨fun H v => T.p K v ∧ Sub K H, fun hs h => ⟨h.1, h.2.trans hs⟩⟩
def MkI (K : FH) (i : It) : It where
  blk := i.blk
  p := fun w H => i.p w K ∧ Sub K H
  st := fun hk hs h => ⟨i.st hk (Sub.refl K) h.1, h.2.trans hs⟩
def markEnv (K : FH) : Env → Env
  | [] => []
  | (d, T) :: Γ => (d, MkT K T) :: markEnv K Γ
theorem find_mark {K : FH} {t : Nat} {T : Ty} : ∀ {Γ : Env}, find (markEnv K Γ) t = some T → ∃ U, find Γ t = some U ∧ T = MkT K U
  | [], h => by cases h
  | (d, U) :: Γ, h => by
    unfold markEnv find at h
    unfold find
    cases hb : Nat.beq d t with
    | true => rw [hb] at h; cases h; exact ⟨U, rfl, rfl⟩
    | false => rw [hb] at h; exact find_mark h
section
variable {C : Cx} {Γ : Env} {L R : List It} {Q : Exit → Act → World → Prop} {ops : Array Oper} {rest : List Oper}
variable {dst : Option Tmp} {ty : TypeId} {pos : String} {after : Array Edge} {guard : Option (Nat × Bool)} {x y z : Operand}
theorem blks_mk {K : FH} : ∀ (L : List It), blks (L.map (MkI K)) = blks L
  | [] => rfl
  | i :: L => by
    have ih := blks_mk (K := K) L
    unfold blks at ih ⊢
    rw [List.map_cons]
    cases hb : i.blk with
    | none => rw [List.filterMap_cons_none (by exact hb), List.filterMap_cons_none hb]; exact ih
    | some g => rw [List.filterMap_cons_some (by exact hb), List.filterMap_cons_some hb, ih]
theorem tr_mark {φ : Act → World → Prop} (h : ∀ K, Sub C.H0 K → (∀ k o, K k = some o → C.H0 k = some o ∨ C.w0.heap.size ≤ k ∨ C.M k) → Tr C (markEnv K Γ) (L.map (MkI K)) φ) : Tr C Γ L φ := fun a w H f s o =>
  h H s.sub s.new a w H ⟨f.defers, f.size, fun t T e => by obtain ⟨U, h1, rfl⟩ := find_mark e; exact ⟨f.get t U h1, Sub.refl _⟩⟩ s
    ⟨fun i hi => by obtain ⟨j, hj, rfl⟩ := List.mem_map.1 hi; exact ⟨o.all j hj, Sub.refl _⟩, by rw [blks_mk]; exact o.nodup, fun g hg => o.own g (by rwa [blks_mk] at hg)⟩
theorem OT.unmark {N : Nat} {K : FH} {T : Ty} (h : OT N Γ x (MkT K T)) : OT N Γ x T := fun a H f => T.mono (h a H f).2 (h a H f).1
theorem mk_of {K : FH} {t : Nat} {T : Ty} (h : OT C.N Γ (.tmp t) (MkT K T)) : MarkOk C Γ K C.w0.heap.size := ⟨fun a H f _ => (h a H f).2, Nat.le_refl _⟩
theorem pu_mk {K : FH} {i : It} {o : Oper} {T : Ty} (hm : MkI K i ∈ L) (h : Pure C Γ [i] o T) : Pure C Γ L o T := fun a w H f s ow => by
  have hp := ow.all _ hm
  refine h a w H f s ⟨fun j hj => ?_, ?_, fun g hg => ow.own g ?_⟩
  · rw [List.mem_singleton.1 hj]; exact i.st (fun _ _ => rfl) hp.2 hp.1
  · unfold blks
    cases hb : i.blk with
    | none => rw [List.filterMap_cons_none hb]; exact List.nodup_nil
    | some g => rw [List.filterMap_cons_some hb]; simp
  · obtain ⟨it, hit, h1⟩ := List.mem_filterMap.1 hg
    rw [List.mem_singleton.1 hit] at h1
    exact blk_mem (i := MkI K i) hm h1
/-- Slots as they stood at the mark. -/
def EnvAt (K : FH) (N : Nat) (Γ Δ : Env) : Prop := ∀ a H, Fits N Γ H a → Fits N Δ K a
theorem ea_nil {K : FH} {N : Nat} : EnvAt K N Γ [] := fun _ _ f => ⟨f.defers, f.size, fun _ _ h => by cases h⟩
theorem ea_cons {K : FH} {N : Nat} {t : Nat} {T : Ty} {Δ : Env} (h : OT N Γ (.tmp t) (MkT K T)) (hs : EnvAt K N Γ Δ) : EnvAt K N Γ ((t, T) :: Δ) := fun a H f => fits_cons (h a H f).1 (hs a H f)
theorem clip_ok {K : FH} {n0 : Nat} {H : FH} {w : World} {D : Nat → Prop} (hon : On H w) (hD : ∀ b, K b = none → n0 ≤ b → H b ≠ none → D b) {ys : List Int} {u : Value} (h : (ClipT K n0 (kint .i64) ys).p H u) (hy : ys.length ≤ 1000) : OkIn D 1000 w u := by
  obtain ⟨⟨⟨A, c, e1, hc, hm, hr⟩, hf, hrm⟩, A', e2⟩ := h
  rw [e1] at e2 hf hrm; cases e2
  refine ⟨A, _, _, e1, Nat.le_refl _, hy, fun h0 => ?_⟩
  obtain ⟨ad, cells, e, fr, cs, rfl, h2, h3, h4, h5⟩ := hr h0
  obtain ⟨_, cells', e', h6, h7⟩ := hrm h0
  rw [h3] at h6; cases h6
  rcases hf with hf | hf
  · omega
  refine ⟨ad.block, ad.off, by rw [Addr.plain h2], hD _ hf.1 hf.2 (by rw [h3]; simp), fun k hk => ?_⟩
  have hk2 := h4.2 k _ (List.getElem?_eq_getElem hk)
  have hsz : (kint .i64).sz = 1 := rfl
  rw [hsz, Nat.mul_one] at hk2
  have h8 : cs[k]? = some (.int .i64 ys[k]) := by
    have : (cs.drop k).take 1 = [.int .i64 ys[k]] := hk2
    have h9 : ((cs.drop k).take 1)[0]? = some (.int .i64 ys[k]) := by rw [this]; rfl
    rw [List.getElem?_take, if_pos (by omega), List.getElem?_drop, Nat.add_zero] at h9; exact h9
  exact ⟨ys[k], cells, e, hon _ _ h3, h5 k _ h8⟩
theorem op_spoil {K : FH} {f : FuncId} {xs : List (List Int)} {ats : Array TypeId} {Γ' : Env} {L' : List It} (hF : SpoilCt C.P f) (hin : enters C.P f = true) (hsub : Sub C.H0 K) (hnew : ∀ k o, K k = some o → C.H0 k = some o ∨ C.w0.heap.size ≤ k ∨ C.M k)
    (hk : MarkOk C Γ K C.w0.heap.size) (hx : OT C.N Γ x (FreshT K C.w0.heap.size (kcl K C.w0.heap.size (kint .i64)) xs)) (hl : xs.length ≤ 1000) (hy : ∀ y ∈ xs, y.length ≤ 1000)
    (hL : Picks L (L'.map (MkI K))) (hΓ : EnvAt K C.N Γ Γ') (hd : dstOk C.N dst = true) (hg : guard = none)
    (h : Tr C (upd dst AnyT Γ') L' (wpList C.P ops Q rest)) : Tr C Γ L (wpList C.P ops Q (({ dst, op := .call { callee := .value (.func f), args := #[x], argTypes := ats }, type := ty, pos, after, guard } : Oper) :: rest)) := by
  intro a w H fi s ow
  subst hg
  refine wpList_plain rfl fun K' hK' => ?_
  have he : execOp a.eval { dst, op := .call { callee := .value (.func f), args := #[x], argTypes := ats }, type := ty, pos, after, guard := none } = callFunc f ([x].map a.eval).toArray := by
    rw [show (#[x] : Array Operand) = [x].toArray from rfl, execOp_call_go]; simp
  have hKH : Sub K H := hk.1 a H fi s.sub
  have hKw : On K w := fun k o e => s.on k o (hKH k o e)
  have hD0 : ∀ b, K b = none → C.w0.heap.size ≤ b → H b ≠ none → (K b = none ∧ C.w0.heap.size ≤ b ∧ b ∉ blks L) := fun b h1 h2 h3 => ⟨h1, h2, fun hb => h3 (ow.own b hb).2.1⟩
  obtain ⟨⟨A, c, hv, hc, hm, hr⟩, hf, hrm⟩ := hx a H fi
  rw [hv] at hf hrm
  simp only [Oper.wp, he, run_enters hin, Oper.upon_enter, List.map_cons, List.map_nil]
  rw [hv]
  refine Calls.mono (hF (fun b => K b = none ∧ C.w0.heap.size ≤ b ∧ b ∉ blks L) w A xs.length c 1000 hl (by omega) (fun k hk2 => ⟨?_, Nat.le_trans s.size hk2, fun hb => by have := (ow.own k hb).1; omega⟩) hc fun h0 => ?_) ?_
  · cases e : K k with
    | none => rfl
    | some o => have := hKw.lt e; omega
  · obtain ⟨ad, cells, e, fr, cs, rfl, h2, h3, h4, h5⟩ := hr h0
    obtain ⟨_, cells', e', h6, h7⟩ := hrm (by omega)
    rw [h3] at h6; cases h6
    rcases hf with hf | hf
    · omega
    refine ⟨ad.block, ad.off, by rw [Addr.plain h2], hD0 _ hf.1 hf.2 (by rw [h3]; simp), fun j hj => ?_⟩
    obtain ⟨u, hu, hu2⟩ := h4.2 j _ (List.getElem?_eq_getElem hj)
    have hsz : (kcl K C.w0.heap.size (kint .i64)).sz = 1 := rfl
    rw [hsz, Nat.mul_one] at hu
    have h9 : ((cs.drop j).take 1)[0]? = some u := by rw [hu]; rfl
    rw [List.getElem?_take, if_pos (by omega), List.getElem?_drop, Nat.add_zero] at h9
    exact ⟨u, ⟨cells, e, s.on _ _ h3, h5 j u h9⟩, clip_ok s.on hD0 hu2 (hy _ (List.getElem_mem hj))⟩
  · rintro e w' ⟨⟨v, rfl⟩, hfr, _⟩
    refine hK' _ _ (h _ w' K (Fits.put (hΓ a H fi) dst hd trivial) ⟨hsub, fun k o e => ?_, hfr.os.trans s.os, hfr.tape.trans s.tape, hfr.output.trans s.output, Nat.le_trans s.size hfr.size, fun k hk2 hM => ?_, hnew⟩ ?_)
    · exact (hfr.keep k (hKw.lt e) (fun hd2 => by rw [hd2.1] at e; cases e)).trans (hKw k o e)
    · exact (hfr.keep k (Nat.lt_of_lt_of_le hk2 s.size) (fun hd2 => by have := hd2.2.1; omega)).trans (s.keep k hk2 hM)
    · obtain ⟨R, hp⟩ := hL
      have o' := (ow.perm hp).left
      have hb : blks (L'.map (MkI K)) = blks L' := blks_mk L'
      have hsubl : ∀ g, g ∈ blks L' → g ∈ blks L := fun g hg => by
        have : g ∈ blks (L'.map (MkI K)) := by rw [hb]; exact hg
        have h2 := (ow.perm hp).nodup
        exact (hp.filterMap It.blk).mem_iff.2 (by rw [List.filterMap_append]; exact List.mem_append_left _ this)
      refine ⟨fun i hi => ?_, by rw [← hb]; exact o'.nodup, fun g hg => ?_⟩
      · have h1 := o'.all _ (List.mem_map.2 ⟨i, hi, rfl⟩)
        exact i.st (fun g e => hfr.keep g (ow.own g (hsubl g (blk_mem hi e))).1 (fun hd2 => hd2.2.2 (hsubl g (blk_mem hi e)))) (Sub.refl K) h1.1
      · have h1 := ow.own g (hsubl g hg)
        refine ⟨Nat.lt_of_lt_of_le h1.1 hfr.size, ?_, h1.2.2⟩
        cases e : K g with
        | none => rfl
        | some o => have := hKH g o e; rw [h1.2.1] at this; cases this
end
end Go.Gw
namespace Go.Gw
open Go
set_option linter.unusedVariables false
theorem run_equalIn_bool {P : Program} (w : World) (d : Nat) (t : TypeId) (a b : Bool) (h : P.underlying t = some .bool) : (Op.equalIn (d + 1) t (.bool a) (.bool b)).run P w = .ok (a == b) w := by
  simp [Op.equalIn, run_underlying h]
theorem run_neq_bool {P : Program} (w : World) (t : TypeId) (a b : Bool) (h : P.underlying t = some .bool) : (binOp .neq t (.bool a) (.bool b)).run P w = .ok (.bool (!(a == b))) w := by
  simp only [binOp]
  simp [Op.equal, Op.maxDepth, run_equalIn_bool w 9999 t a b h]
section
variable {C : Cx} {Γ : Env} {L : List It} {dst : Option Tmp} {ty : TypeId} {pos : String} {after : Array Edge} {guard : Option (Nat × Bool)} {x y : Operand}
theorem pu_mk2 {K : FH} {i : It} {o : Oper} {T : Ty} (h : Pure C Γ [i] o T) (hm : MkI K i ∈ L) : Pure C Γ L o T := pu_mk hm h
theorem pu_bool_neq {t t2 : TypeId} {a b : Bool} (hx : OT C.N Γ x (BoolT a)) (hy : OT C.N Γ y (BoolT b)) (ht : C.P.underlying t = some .bool) : Pure C Γ L ⟨dst, .binOp .neq t x y t2, ty, pos, after, guard⟩ (BoolT (a != b)) := fun ac w H f s ow => by
  have h1 : ac.eval x = .bool a := hx ac H f
  have h2 : ac.eval y = .bool b := hy ac H f
  refine ⟨.bool (!(a == b)), ?_, by cases a <;> cases b <;> rfl⟩
  have h3 := run_neq_bool (P := C.P) w t a b ht
  simp only [execOp, h1, h2, Sem.run_bind]
  rw [show (eqGuard .neq t x y (.bool a) (.bool b)).run C.P w = .ok () w from by simp [eqGuard]]
  simp only [Result.andThen_ok, h3, Sem.run_pure]
end
end Go.Gw
namespace Go.Gw
open Go
set_option linter.unusedVariables false
set_option linter.unusedSimpArgs false
def TrE (C : Cx) (K : FH) (E : World → Prop) (Γ : Env) (L : List It) (φ : Act → World → Prop) : Prop := ∀ a w, E w → Fits C.N Γ K a → St C.M C.H0 C.w0 K w → Owns C.ok w K L → φ a w
abbrev sv (r : Option Addr × Nat × Nat) : Value := .slice r.1 r.2.1 r.2.2
def kslv : Kd (Option Addr × Nat × Nat) := scalar sv fun _ => rfl
/-- Of a value, whatever the slot holds. -/
def ValT (T : Ty) (v : Value) : Ty := ⟨fun H _ => T.p H v, fun hs h => T.mono hs h⟩
def OutOk (D : Nat → Prop) (m : Nat) (w : World) (r : Option Addr × Nat × Nat) : Prop := r.2.1 ≤ 1000 ∧ r.2.1 ≤ r.2.2 ∧ (0 < r.2.1 → ∃ b o, r.1 = some ⟨b, o, none⟩ ∧ D b ∧ ∀ j, j < r.2.1 → ∃ u, SlC w b (o + j) u ∧ OkIn D m w u)
theorem OutOk.mono {D : Nat → Prop} {m q : Nat} {w w' : World} {r : Option Addr × Nat × Nat} (h : OutOk D m w r) (hm : Mon D q w w') : OutOk D (m + q) w' r :=
  ⟨h.1, h.2.1, fun h0 => let ⟨b, o, e, d, hj⟩ := h.2.2 h0; ⟨b, o, e, d, fun j hjl => let ⟨u, h1, h2⟩ := hj j hjl; hm.2 _ _ u m h1 h2⟩⟩
theorem out_ok {K : FH} {n0 : Nat} {H : FH} {w : World} {D : Nat → Prop} (hon : On H w) (hD : ∀ b, K b = none → n0 ≤ b → H b ≠ none → D b) {xs : List (List Int)} {r : Option Addr × Nat × Nat} (h : (FreshT K n0 (kcl K n0 (kint .i64)) xs).p H (sv r)) (hl : xs.length ≤ 1000) (hy : ∀ y ∈ xs, y.length ≤ 1000) : OutOk D 1000 w r := by
  obtain ⟨⟨A, c, hv, hc, hm, hr⟩, hf, hrm⟩ := h
  obtain ⟨A', n', c'⟩ := r
  cases hv
  refine ⟨hl, hc, fun h0 => ?_⟩
  obtain ⟨ad, cells, e, fr, cs, rfl, h2, h3, h4, h5⟩ := hr h0
  obtain ⟨_, cells', e', h6, h7⟩ := hrm (Nat.lt_of_lt_of_le h0 hc)
  rw [h3] at h6; cases h6
  rcases hf with hf | hf
  · have q1 : c' = 0 := hf
    have q2 : xs.length ≤ c' := hc
    have q3 : 0 < xs.length := h0
    omega
  refine ⟨ad.block, ad.off, by rw [Addr.plain h2], hD _ hf.1 hf.2 (by rw [h3]; simp), fun j hj => ?_⟩
  obtain ⟨u, hu, hu2⟩ := h4.2 j _ (List.getElem?_eq_getElem hj)
  have hsz : (kcl K n0 (kint .i64)).sz = 1 := rfl
  rw [hsz, Nat.mul_one] at hu
  have h9 : ((cs.drop j).take 1)[0]? = some u := by rw [hu]; rfl
  rw [List.getElem?_take, if_pos (by omega), List.getElem?_drop, Nat.add_zero] at h9
  exact ⟨u, ⟨cells, e, hon _ _ h3, h5 j u h9⟩, clip_ok hon hD hu2 (hy _ (List.getElem_mem hj))⟩
section
variable {C : Cx} {K : FH} {E : World → Prop} {Γ : Env} {L R : List It} {Q : Exit → Act → World → Prop} {φ : Act → World → Prop} {ops : Array Oper} {o : Oper} {rest : List Oper}
variable {dst : Option Tmp} {ty : TypeId} {pos : String} {after : Array Edge} {guard : Option (Nat × Bool)} {x y z : Operand}
theorem tre_seq {x y : Code} (h : TrE C K E Γ L (x.wp C.P (Exit.then (y.wp C.P Q) Q))) : TrE C K E Γ L ((Code.seq x y).wp C.P Q) := fun a w hE f s ow => wp_seq (h a w hE f s ow)
theorem tre_region {id : Nat} {l : List Oper} (h : TrE C K E Γ L (wpList C.P l.toArray Q l)) : TrE C K E Γ L ((Code.region id l.toArray false).wp C.P Q) := fun a w hE f s ow => wp_region_lit (h a w hE f s ow)
theorem tre_nil (h : TrE C K E Γ L (Q .normal)) : TrE C K E Γ L (wpList C.P ops Q []) := h
theorem tre_then {k : Act → World → Prop} (h : TrE C K E Γ L k) : TrE C K E Γ L (Exit.then k Q .normal) := h
theorem tre_env {Γ' : Env} (hs : EnvSub C.N Γ Γ') (h : TrE C K E Γ' L φ) : TrE C K E Γ L φ := fun a w hE f s ow => h a w hE (hs a K f) s ow
theorem tre_pure {T : Ty} (hp : Pure C Γ L o T) (hg : o.guard = none) (hd : dstOk C.N o.dst = true) (h : TrE C K E (upd o.dst T Γ) L (wpList C.P ops Q rest)) : TrE C K E Γ L (wpList C.P ops Q (o :: rest)) := by
  intro a w hE f s ow
  obtain ⟨v, hr, hv⟩ := hp a w K f s ow
  refine wpList_plain hg fun K' hK => ?_
  simp only [Oper.wp, hr, Oper.upon_value]
  exact hK _ _ (h _ w hE (f.put o.dst hd hv) s ow)
theorem ea_val {N : Nat} {t : Nat} {v : Value} {Δ : Env} (h : OT N Γ (.tmp t) (IsV v)) (hs : EnvAt K N Γ Δ) : EnvAt K N Γ ((t, IsV v) :: Δ) := fun a H f => fits_cons (h a H f) (hs a H f)
/-- A variable of two new slices: its values, and of what type they are. -/
theorem tr_open {n0 g : Nat} {t : TypeId} {d : Kd (List Int)} {u : List (List Int) × List (List Int)} (hk : MarkOk C Γ K n0) (hp : List.Perm L (BlkI g t (kpair (kfr K n0 d) (kfr K n0 d)) u :: R))
    (h : ∀ r1 r2, Tr C ((9998, ValT (FreshT K n0 d u.1) (sv r1)) :: (9999, ValT (FreshT K n0 d u.2) (sv r2)) :: Γ) (MkI K (BlkI g t (kpair kslv kslv) (r1, r2)) :: R) φ) : Tr C Γ L φ := by
  intro a w H f s ow
  have o' := ow.perm hp
  obtain ⟨cs, ⟨c1, c2, ⟨v1, e1, f1⟩, ⟨v2, e2, f2⟩, e3⟩, hb⟩ := o'.all _ List.mem_cons_self
  obtain ⟨A1, k1, g1, _⟩ := f1.1
  obtain ⟨A2, k2, g2, _⟩ := f2.1
  refine h (A1, u.1.length, k1) (A2, u.2.length, k2) a w H (fits_cons (T := ValT _ _) (by show (FreshT K n0 d u.1).p H (.slice A1 u.1.length k1); rw [← g1]; exact f1) (fits_cons (T := ValT _ _) (by show (FreshT K n0 d u.2).p H (.slice A2 u.2.length k2); rw [← g2]; exact f2) f)) s (o'.swap1 rfl ⟨⟨cs, ⟨[v1], [v2], by rw [g1]; rfl, by rw [g2]; rfl, by rw [e3, e1, e2]⟩, hb⟩, hk.1 a H f s.sub⟩)
def E2 (C : Cx) (K : FH) (L : List It) (r : Option Addr × Nat × Nat) : World → Prop := fun w => ∃ D : Nat → Prop, (∀ k, D k → K k = none ∧ C.w0.heap.size ≤ k ∧ k ∉ blks L) ∧ (∀ k, w.heap.size ≤ k → D k) ∧ OutOk D 2000 w r
theorem op_spoil1 {f : FuncId} {xs ys : List (List Int)} {r1 r2 : Option Addr × Nat × Nat} {ats : Array TypeId} {Γ' : Env} {L' : List It} {t1 t2 : Nat} (hF : SpoilCt C.P f) (hin : enters C.P f = true) (hsub : Sub C.H0 K) (hnew : ∀ k o, K k = some o → C.H0 k = some o ∨ C.w0.heap.size ≤ k ∨ C.M k)
    (hk : MarkOk C Γ K C.w0.heap.size) (hx : OT C.N Γ x (IsV (sv r1))) (hx1 : OT C.N Γ (.tmp t1) (ValT (FreshT K C.w0.heap.size (kcl K C.w0.heap.size (kint .i64)) xs) (sv r1))) (hx2 : OT C.N Γ (.tmp t2) (ValT (FreshT K C.w0.heap.size (kcl K C.w0.heap.size (kint .i64)) ys) (sv r2)))
    (hl : xs.length ≤ 1000) (hy : ∀ y ∈ xs, y.length ≤ 1000) (hl2 : ys.length ≤ 1000) (hy2 : ∀ y ∈ ys, y.length ≤ 1000)
    (hL : Picks L (L'.map (MkI K))) (hΓ : EnvAt K C.N Γ Γ') (hd : dstOk C.N dst = true) (hg : guard = none)
    (h : TrE C K (E2 C K L' r2) (upd dst AnyT Γ') L' (wpList C.P ops Q rest)) : Tr C Γ L (wpList C.P ops Q (({ dst, op := .call { callee := .value (.func f), args := #[x], argTypes := ats }, type := ty, pos, after, guard } : Oper) :: rest)) := by
  intro a w H fi s ow
  subst hg
  refine wpList_plain rfl fun K' hK' => ?_
  have he : execOp a.eval { dst, op := .call { callee := .value (.func f), args := #[x], argTypes := ats }, type := ty, pos, after, guard := none } = callFunc f ([x].map a.eval).toArray := by
    rw [show (#[x] : Array Operand) = [x].toArray from rfl, execOp_call_go]; simp
  have hKH : Sub K H := hk.1 a H fi s.sub
  have hKw : On K w := fun k o e => s.on k o (hKH k o e)
  have hD0 : ∀ b, K b = none → C.w0.heap.size ≤ b → H b ≠ none → (K b = none ∧ C.w0.heap.size ≤ b ∧ b ∉ blks L) := fun b h1 h2 h3 => ⟨h1, h2, fun hb => h3 (ow.own b hb).2.1⟩
  have ho1 := out_ok (D := fun b => K b = none ∧ C.w0.heap.size ≤ b ∧ b ∉ blks L) s.on hD0 (hx1 a H fi) hl hy
  have ho2 := out_ok (D := fun b => K b = none ∧ C.w0.heap.size ≤ b ∧ b ∉ blks L) s.on hD0 (hx2 a H fi) hl2 hy2
  have hv : a.eval x = sv r1 := hx a H fi
  have hDn : ∀ k, w.heap.size ≤ k → K k = none ∧ C.w0.heap.size ≤ k ∧ k ∉ blks L := fun k hk2 => ⟨by
    cases e : K k with
    | none => rfl
    | some o => have := hKw.lt e; omega, Nat.le_trans s.size hk2, fun hb => by have := (ow.own k hb).1; omega⟩
  obtain ⟨R, hp⟩ := hL
  have o' := (ow.perm hp).left
  have hb : blks (L'.map (MkI K)) = blks L' := blks_mk L'
  have hsubl : ∀ g, g ∈ blks L' → g ∈ blks L := fun g hg => by
    have : g ∈ blks (L'.map (MkI K)) := by rw [hb]; exact hg
    exact (hp.filterMap It.blk).mem_iff.2 (by rw [List.filterMap_append]; exact List.mem_append_left _ this)
  simp only [Oper.wp, he, run_enters hin, Oper.upon_enter, List.map_cons, List.map_nil]
  rw [hv]
  refine Calls.mono (hF (fun b => K b = none ∧ C.w0.heap.size ≤ b ∧ b ∉ blks L) w r1.1 r1.2.1 r1.2.2 1000 ho1.1 (by omega) hDn ho1.2.1 ho1.2.2) ?_
  rintro e w' ⟨⟨v, rfl⟩, hfr, hmon⟩
  have ho3 := ho2.mono hmon
  refine hK' _ _ (h _ w' ⟨fun b => K b = none ∧ C.w0.heap.size ≤ b ∧ b ∉ blks L, fun k hk2 => ⟨hk2.1, hk2.2.1, fun hb2 => hk2.2.2 (hsubl k hb2)⟩, fun k hk2 => hDn k (Nat.le_trans hfr.size hk2), ho3.1, ho3.2.1, fun h0 => ?_⟩ (Fits.put (hΓ a H fi) dst hd trivial) ⟨hsub, fun k o e => ?_, hfr.os.trans s.os, hfr.tape.trans s.tape, hfr.output.trans s.output, Nat.le_trans s.size hfr.size, fun k hk2 hM => ?_, hnew⟩ ?_)
  · obtain ⟨b, o, e1, d1, hj⟩ := ho3.2.2 h0
    exact ⟨b, o, e1, d1, fun j hjl => let ⟨u, h1, h2⟩ := hj j hjl; ⟨u, h1, h2.mono (fun _ _ h => h) (by have := ho1.1; omega)⟩⟩
  · exact (hfr.keep k (hKw.lt e) (fun hd2 => by rw [hd2.1] at e; cases e)).trans (hKw k o e)
  · exact (hfr.keep k (Nat.lt_of_lt_of_le hk2 s.size) (fun hd2 => by have := hd2.2.1; omega)).trans (s.keep k hk2 hM)
  · refine ⟨fun i hi => ?_, by rw [← hb]; exact o'.nodup, fun g hg => ?_⟩
    · have h1 := o'.all _ (List.mem_map.2 ⟨i, hi, rfl⟩)
      exact i.st (fun g e => hfr.keep g (ow.own g (hsubl g (blk_mem hi e))).1 (fun hd2 => hd2.2.2 (hsubl g (blk_mem hi e)))) (Sub.refl K) h1.1
    · have h1 := ow.own g (hsubl g hg)
      refine ⟨Nat.lt_of_lt_of_le h1.1 hfr.size, ?_, h1.2.2⟩
      cases e : K g with
      | none => rfl
      | some o => have := hKH g o e; rw [h1.2.1] at this; cases this
theorem tre_spoil {f : FuncId} {r : Option Addr × Nat × Nat} {ats : Array TypeId} (hF : SpoilCt C.P f) (hin : enters C.P f = true) (hx : OT C.N Γ x (IsV (sv r))) (hd : dstOk C.N dst = true) (hg : guard = none)
    (h : Tr C (upd dst AnyT Γ) [] (wpList C.P ops Q rest)) : TrE C K (E2 C K L r) Γ L (wpList C.P ops Q (({ dst, op := .call { callee := .value (.func f), args := #[x], argTypes := ats }, type := ty, pos, after, guard } : Oper) :: rest)) := by
  intro a w hE fi s ow
  subst hg
  refine wpList_plain rfl fun K' hK' => ?_
  have he : execOp a.eval { dst, op := .call { callee := .value (.func f), args := #[x], argTypes := ats }, type := ty, pos, after, guard := none } = callFunc f ([x].map a.eval).toArray := by
    rw [show (#[x] : Array Operand) = [x].toArray from rfl, execOp_call_go]; simp
  have hv : a.eval x = sv r := hx a K fi
  obtain ⟨D, hD1, hD2, ho⟩ := hE
  simp only [Oper.wp, he, run_enters hin, Oper.upon_enter, List.map_cons, List.map_nil]
  rw [hv]
  refine Calls.mono (hF D w r.1 r.2.1 r.2.2 2000 ho.1 (Nat.le_refl _) hD2 ho.2.1 ho.2.2) ?_
  rintro e w' ⟨⟨v, rfl⟩, hfr, _⟩
  refine hK' _ _ (h _ w' K (Fits.put fi dst hd trivial) ⟨s.sub, fun k o e => ?_, hfr.os.trans s.os, hfr.tape.trans s.tape, hfr.output.trans s.output, Nat.le_trans s.size hfr.size, fun k hk2 hM => ?_, s.new⟩ Owns.nil)
  · exact (hfr.keep k (s.on.lt e) (fun hd2 => by rw [(hD1 k hd2).1] at e; cases e)).trans (s.on k o e)
  · exact (hfr.keep k (Nat.lt_of_lt_of_le hk2 s.size) (fun hd2 => by have := (hD1 k hd2).2.1; omega)).trans (s.keep k hk2 hM)
end
end Go.Gw
