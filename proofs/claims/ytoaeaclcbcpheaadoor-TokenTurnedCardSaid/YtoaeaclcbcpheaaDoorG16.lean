/- Typed walks: regions that draw the order of their operations, with one operation in the open part that makes something not known ahead. Over any program. -/
import Derived.Test.YtoaeaclcbcpheaaDoorG13
namespace Go.Gw
open Go
set_option linter.unusedVariables false
set_option linter.unusedSimpArgs false
/-- One operation of the open part: from the items L to the items L' r, for an r that may not be known ahead. -/
def ROpG (C : Cx) (Γ : Env) (L : List It) {ρ : Type} (L' : ρ → List It) (φ : ρ → Prop) (ops : Array Oper) (o : Oper) (T : ρ → Ty) : Prop :=
  ∀ a w H, Fits C.N Γ H a → St C.M C.H0 C.w0 H w → Owns C.ok w H L → ∀ (Q : Exit → Act → World → Prop) (K : Act → World → Prop),
    (∀ (r : ρ) (v : Value) (w' : World) (H' : FH), φ r → Sub H H' → St C.M C.H0 C.w0 H' w' → Owns C.ok w' H' (L' r) → (T r).p H' v → K (a.put o.dst v) w') → if Region.wanted o (yielded ops a.tmps) = true then o.wp C.P a w K Q else K (a.put o.dst undef) w
section
variable {C : Cx} {Γ : Env} {L R : List It} {ops : Array Oper}
theorem ropg_of {o : Oper} {ρ : Type} {T : ρ → Ty} {ψ : ρ → Prop} (r : ρ) {L' : ρ → List It} (hL : L' r = L) (hψ : ψ r) (h : ROp C Γ L ops o (T r)) : ROpG C Γ L L' ψ ops o T := fun a w H f s ow Q K hK =>
  h a w H f s ow Q K fun v w' H' s' hv => hK r v w' H' hψ s'.sub (s.trans0 s') (hL ▸ ow.st0 s') hv
theorem ropg_acts {J : List It} {o : Oper} {ρ : Type} {T : ρ → Ty} {I : ρ → List It} {φ ψ : ρ → Prop} {T' : ρ → Ty} {L' : ρ → List It} (hg : o.guard = none) (hp : Acts C Γ L o J ρ T I φ) (hL : List.Perm L (J ++ R)) (hL' : ∀ r, List.Perm (I r ++ R) (L' r)) (hψ : ∀ r, φ r → ψ r) (hT : ∀ r, φ r → ∀ H v, (T r).p H v → (T' r).p H v) : ROpG C Γ L L' ψ ops o T' := fun a w H f s ow Q K hK => by
  rw [if_pos (by simp [Region.wanted, hg])]
  refine hp a w H f s ow Q K fun r v w' H' hφ s' hv ho => hK r v w' H' (hψ r hφ) s'.sub ?_ ?_ (hT r hφ H' v hv)
  · exact s.trans s' fun k hk => ((ow.perm hL).left.own k hk).2.2
  · have ow' := ow.perm hL
    have hM : ∀ k, k ∈ blks J → C.M k ∨ C.w0.heap.size ≤ k := fun k hk => (ow'.left.own k hk).2.2
    refine Owns.perm ?_ (hL' r)
    refine Owns.append (ho.mono fun g _ hg => ?_) (ow'.right.st s' fun g hg hj => ow'.apart g hj hg) fun g hg hr => ?_
    · rcases hg with hg | hg
      · exact hM g hg
      · exact .inr (Nat.le_trans s.size hg)
    · rcases (ho.own g hg).2.2 with h1 | h1
      · exact ow'.apart g h1 hr
      · have := (ow'.right.own g hr).1; omega
end
/-- Of operation i of the open part: from each state that it may meet; and that what it gives doesn't hang on p's, where it may come ahead of p. -/
def OpG (C : Cx) (Γ : Env) {ρ : Type} (Lf : Bool → ρ → List It) (p : Nat) (all : List Oper) (ops : Array Oper) (Ts : ρ → List Ty) (φ : ρ → Prop) (i : Nat) (o : Oper) (n : Need) : Prop :=
  (∀ c r, okFlag all p i c = true → ROpG C (envOf Γ (Ts r) n) (Lf c r) (fun r' => Lf (c || Nat.beq i p) r') (fun r' => cond (Nat.beq i p) (∀ _ : true = true, φ r') (r' = r ∧ True)) ops o (fun r' => (Ts r').getD i AnyT)) ∧
  (okFlag all p i false = true → Nat.beq i p = false → ∀ r r', (Ts r).getD i AnyT = (Ts r').getD i AnyT)
def AllOpsG (C : Cx) (Γ : Env) {ρ : Type} (Lf : Bool → ρ → List It) (p : Nat) (all : List Oper) (ops : Array Oper) (Ts : ρ → List Ty) (φ : ρ → Prop) : Nat → List Oper → List Need → Prop
  | i, o :: l, n :: ns => OpG C Γ Lf p all ops Ts φ i o n ∧ AllOpsG C Γ Lf p all ops Ts φ (i + 1) l ns
  | _, _, [] => True
  | _, [], _ :: _ => False
theorem allOpsG_from {C : Cx} {Γ : Env} {ρ : Type} {Lf : Bool → ρ → List It} {p : Nat} {all : List Oper} {ops : Array Oper} {Ts : ρ → List Ty} {φ : ρ → Prop} : ∀ {n : Nat} {l : List Oper} {ns : List Need}, AllOpsG C Γ Lf p all ops Ts φ n l ns → ∀ i, i < ns.length → ∃ o, l[i]? = some o ∧ OpG C Γ Lf p all ops Ts φ (n + i) o (ns.getD i [])
  | n, o :: l, m :: ns, h, 0, _ => ⟨o, rfl, h.1⟩
  | n, o :: l, m :: ns, h, i + 1, hi => by
    obtain ⟨o', h1, h2⟩ := allOpsG_from h.2 i (by simpa using hi)
    exact ⟨o', by simpa using h1, by rw [Nat.add_right_comm, Nat.add_assoc] at h2; simpa using h2⟩
  | _, [], [], _, i, hi => by simp at hi
  | _, _ :: _, [], _, i, hi => by simp at hi
theorem allOpsG_at {C : Cx} {Γ : Env} {ρ : Type} {Lf : Bool → ρ → List It} {p : Nat} {all : List Oper} {ops : Array Oper} {Ts : ρ → List Ty} {φ : ρ → Prop} {l : List Oper} {ns : List Need} (h : AllOpsG C Γ Lf p all ops Ts φ 0 l ns) (i : Nat) (hi : i < ns.length) : ∃ o, l[i]? = some o ∧ OpG C Γ Lf p all ops Ts φ i o (ns.getD i []) := by
  have := allOpsG_from h i hi
  simpa using this
section
variable {C : Cx} {Γ : Env} {L : List It} {Q : Exit → Act → World → Prop} {l : List Oper} {ns : List Need} {ρ : Type} {Ts : ρ → List Ty} {φ : ρ → Prop} {m : Nat}
/-- What stands while the open part is under way: b tells what has been listed. -/
structure InvG {ρ : Type} (C : Cx) (Γ : Env) (Lf : Bool → ρ → List It) (p : Nat) (l : List Oper) (Ts : ρ → List Ty) (φ : ρ → Prop) (m : Nat) (r : ρ) (b : Nat → Bool) (a : Act) (w : World) (H : FH) : Prop where
  defers : a.defers = []
  size : a.tmps.size = C.N
  st : St C.M C.H0 C.w0 H w
  ow : Owns C.ok w H (Lf (b p) r)
  phi : b p = true → φ r
  old : ∀ t T, find Γ t = some T → (∀ k, k < l.length → dstOf l k = some t → b k = false) → T.p H (a.tmps.getD t undef)
  got : ∀ k t, k < m → b k = true → dstOf l k = some t → ((Ts r).getD k AnyT).p H (a.tmps.getD t undef)
theorem needOk_fitsG {Lf : Bool → ρ → List It} {r : ρ} {p : Nat} {i : Nat} {b : Nat → Bool} {a : Act} {w : World} {H : FH} (hI : InvG C Γ Lf p l Ts φ m r b a w H) (him : i < m) (hlen : m ≤ l.length) (hi : b i = false) (hm : ∀ j, ((masks l []).getD i 0).testBit j = true → b j = true) (hcl : ∀ k, k < l.length → b k = true → ∀ j, ((masks l []).getD k 0).testBit j = true → b j = true) (hlt : ∀ j, ((masks l []).getD i 0).testBit j = true → j < i) :
    ∀ {n : Need}, needOk l (masks l []) i n = true → Fits C.N (envOf Γ (Ts r) n) H a
  | [], _ => ⟨hI.defers, hI.size, fun t T h => by cases h⟩
  | (t, none) :: nr, h => by
    simp only [needOk, Bool.and_eq_true] at h
    refine fits_cons ?_ (needOk_fitsG hI him hlen hi hm hcl hlt h.2)
    cases hf : find Γ t with
    | none => exact trivial
    | some T =>
      refine hI.old t T hf fun k hk hd => ?_
      have h1 := List.all_eq_true.1 h.1 k (List.mem_range.2 hk)
      simp only [hd, beq_self_eq_true, Bool.not_true, Bool.false_or, Bool.or_eq_true] at h1
      rcases h1 with h1 | h1
      · rw [Nat.eq_of_beq_eq_true h1]; exact hi
      · cases hb : b k with
        | false => rfl
        | true => have := hcl k hk hb i h1; rw [hi] at this; cases this
  | (t, some j) :: nr, h => by
    simp only [needOk, Bool.and_eq_true, beq_iff_eq] at h
    refine fits_cons ?_ (needOk_fitsG hI him hlen hi hm hcl hlt h.2)
    exact hI.got j t (by have := hlt j h.1.2; omega) (hm j h.1.2) h.1.1

theorem tr_anyG {id : Nat} {p : Nat} {Lf : Bool → ρ → List It} (r0 : ρ) (hp : Nat.ble (p + 1) m = true) (hm : C.P.follows .mixedOrders = true) (hok : regOk C.N l m ns = true) (hT : ∀ r, (Ts r).length = m) (hops : AllOpsG C Γ Lf p l l.toArray Ts φ 0 l ns) (h : ∀ r, φ r → Tr C (updAll (l.take m) (Ts r) Γ) (Lf true r) (wpList C.P l.toArray Q (l.drop m))) : Tr C Γ (Lf false r0) ((Code.region id l.toArray true).wp C.P Q) := by
  simp only [regOk, Bool.and_eq_true, decide_eq_true_eq] at hok
  obtain ⟨⟨⟨hok1, hnd⟩, hnl⟩, hml⟩ := hok
  have hml : m ≤ l.length := Nat.le_of_ble_eq_true hml
  have hpm : p < m := Nat.le_of_ble_eq_true hp
  have hrow : ∀ k o, l[k]? = some o → (∀ e ∈ needs o, e < k) ∧ (o.dst.all fun d => decide (d < C.N)) = true ∧ (k < m → needOk l (masks l []) k (ns.getD k []) = true) ∧ (m ≤ k → ∀ j, j < k → ((masks l []).getD k 0).testBit j = true) := by
    intro k o ho
    have hk := (List.getElem?_eq_some_iff.1 ho).1
    have h1 := List.all_eq_true.1 hok1 k (List.mem_range.2 hk)
    rw [ho] at h1
    simp only [Bool.and_eq_true, List.all_eq_true, decide_eq_true_eq] at h1
    refine ⟨h1.1.1, h1.1.2, fun hkm => ?_, fun hkm j hj => ?_⟩
    · have h2 := h1.2; rw [if_pos hkm] at h2; exact h2
    · have h2 := h1.2; rw [if_neg (by omega)] at h2; exact List.all_eq_true.1 h2 j (List.mem_range.2 hj)
  have hpos : ∀ k o, l[k]? = some o → ∀ e ∈ needs o, e < k := fun k o ho => (hrow k o ho).1
  have hlt : ∀ i, i < l.length → ∀ j, ((masks l []).getD i 0).testBit j = true → j < i := by
    intro i
    induction i using Nat.strongRecOn with
    | _ i ih =>
      intro hi j hj
      have ho : l[i]? = some l[i] := List.getElem?_eq_getElem hi
      have hm' := masks_at l [] i _ ho
      simp only [List.length_nil, Nat.zero_add] at hm'
      rw [List.getD_eq_getElem?_getD, hm', Option.getD_some] at hj
      obtain ⟨e, he, h⟩ := mask_bit hj
      have hei := hpos i _ ho e he
      rcases h with rfl | h
      · exact hei
      · rw [List.getD_eq_getElem?_getD, List.getElem?_take, if_pos hei, ← List.getD_eq_getElem?_getD] at h
        have := ih e hei (by omega) j h
        omega
  intro a w H f s ow
  refine wp_region_any hm ?_
  -- the open part
  have main : ∀ (fuel : Nat) (listed : Array Bool) (a : Act) (w : World) (H : FH) (r : ρ), listed.size = l.length → ((List.range l.length).filter fun i => !listed.getD i true).length ≤ fuel →
      (∀ i, m ≤ i → i < l.length → listed.getD i true = false) → ClosedB l (fun j => listed.getD j false) → InvG C Γ Lf p l Ts φ m r (fun j => listed.getD j false) a w H → wpAny C.P .any l.toArray Q fuel listed a w := by
    intro fuel
    induction fuel with
    | zero =>
      intro listed a w H r hs hf hsuf hc hI
      have hall : ∀ i, i < l.length → listed.getD i true = true := by
        intro i hi
        cases hb : listed.getD i true with
        | true => rfl
        | false =>
          have : i ∈ (List.range l.length).filter fun i => !listed.getD i true := List.mem_filter.2 ⟨List.mem_range.2 hi, by rw [hb]; rfl⟩
          have h0 : (List.range l.length).filter (fun i => !listed.getD i true) = [] := List.eq_nil_of_length_eq_zero (by omega)
          rw [h0] at this; cases this
      have hmn : m = l.length := by
        rcases Nat.lt_or_ge m l.length with h1 | h1
        · have h2 := hsuf m (Nat.le_refl _) h1; rw [hall m h1] at h2; cases h2
        · omega
      have hpd : listed.getD p false = true := by
        have := hall p (by omega); have h8 : p < listed.size := by omega
        simp [Array.getD_eq_getD_getElem?, Array.getElem?_eq_getElem h8] at this ⊢; exact this
      refine any_rest (m := m) (b := listed) hpos (fun k h1 h2 => (hrow k _ (List.getElem?_eq_getElem h2)).2.2.2 h1) 0 l.length listed a w (by omega) (Nat.le_refl _) hs (by omega) hall (fun i h1 h2 => by omega) ?_
      refine (by have h5 := h r (hI.phi hpd); rw [hmn] at h5; exact h5 : Tr C (updAll (l.take l.length) (Ts r) Γ) (Lf true r) (wpList C.P l.toArray Q (l.drop l.length))) a w H ⟨hI.defers, hI.size, fun t T e => ?_⟩ hI.st (by have := hI.ow; rw [hpd] at this; exact this)
      rw [List.take_length] at e
      rcases updAll_find l (Ts r) Γ t T (by rw [hT, hmn]) e with ⟨k, hk, hd, rfl⟩ | ⟨h1, h2⟩
      · exact hI.got k t (by omega) (by have := hall k hk; have h8 : k < listed.size := by omega
                                        simp [Array.getD_eq_getD_getElem?, Array.getElem?_eq_getElem h8] at this ⊢; exact this) hd
      · exact hI.old t T h1 fun k hk hd => absurd hd (h2 k hk)
    | succ fuel ih =>
      intro listed a w H r hs hf hsuf hc hI
      by_cases hpre : ∀ i, i < m → listed.getD i true = true
      · -- the open part is done
        have hpd : listed.getD p false = true := by
          have := hpre p (by omega); have h8 : p < listed.size := by omega
          simp [Array.getD_eq_getD_getElem?, Array.getElem?_eq_getElem h8] at this ⊢; exact this
        refine any_rest (m := m) (b := listed) hpos (fun k h1 h2 => (hrow k _ (List.getElem?_eq_getElem h2)).2.2.2 h1) (fuel + 1) m listed a w (Nat.le_refl _) hml hs ?_ hpre hsuf ?_
        · have : (List.range' m (l.length - m)).length ≤ ((List.range l.length).filter fun i => !listed.getD i true).length := by
            refine List.Sublist.length_le (l₁ := List.range' m (l.length - m)) ?_
            have e1 : (List.range l.length).filter (fun i => !listed.getD i true) = List.range' m (l.length - m) := by
              have e2 : List.range l.length = List.range' 0 m ++ List.range' m (l.length - m) := by
                rw [List.range_eq_range', show l.length = m + (l.length - m) from by omega, ← List.range'_append]
                simp
              rw [e2, List.filter_append]
              have e3 : (List.range' 0 m).filter (fun i => !listed.getD i true) = [] := by
                rw [List.filter_eq_nil_iff]
                intro i hi
                have := (List.mem_range'_1.1 hi).2
                rw [hpre i (by omega)]; simp
              have e4 : (List.range' m (l.length - m)).filter (fun i => !listed.getD i true) = List.range' m (l.length - m) := by
                rw [List.filter_eq_self]
                intro i hi
                have := List.mem_range'_1.1 hi
                rw [hsuf i (by omega) (by omega)]; rfl
              rw [e3, e4, List.nil_append]
            rw [e1]
            exact List.Sublist.refl _
          rw [List.length_range'] at this
          omega
        · refine h r (hI.phi hpd) a w H ⟨hI.defers, hI.size, fun t T e => ?_⟩ hI.st (by have := hI.ow; rw [hpd] at this; exact this)
          rcases updAll_find (l.take m) (Ts r) Γ t T (by rw [hT, List.length_take]; omega) e with ⟨k, hk, hd, rfl⟩ | ⟨h1, h2⟩
          · rw [List.length_take] at hk
            refine hI.got k t (by omega) ?_ (by unfold dstOf at hd ⊢; rw [List.getElem?_take, if_pos (by omega)] at hd; exact hd)
            have := hpre k (by omega)
            have h8 : k < listed.size := by omega
            simp [Array.getD_eq_getD_getElem?, Array.getElem?_eq_getElem h8] at this ⊢; exact this
          · refine hI.old t T h1 fun k hk hd => ?_
            rcases Nat.lt_or_ge k m with h3 | h3
            · exact absurd (by unfold dstOf at hd ⊢; rw [List.getElem?_take, if_pos h3]; exact hd) (h2 k (by rw [List.length_take]; omega))
            · have := hsuf k h3 hk
              have h8 : k < listed.size := by omega
              simp [Array.getD_eq_getD_getElem?, Array.getElem?_eq_getElem h8] at this ⊢; exact this
      · refine ⟨fun hr => ?_, fun i hi => ?_⟩
        · -- something is always ready
          exfalso
          have hex : ∃ i, i < l.length ∧ listed.getD i true = false := by
            apply Classical.byContradiction
            intro hno
            refine hpre fun i hi => ?_
            cases hb : listed.getD i true with
            | true => rfl
            | false => exact absurd ⟨i, by omega, hb⟩ hno
          have hmin : ∀ n i, i < n → i < l.length → listed.getD i true = false → ∃ j, j < l.length ∧ listed.getD j true = false ∧ ∀ k, k < j → listed.getD k true = true := by
            intro n
            induction n with
            | zero => intro i h; omega
            | succ n ihn =>
              intro i hi hl hb
              by_cases hk : ∀ k, k < i → listed.getD k true = true
              · exact ⟨i, hl, hb, hk⟩
              · have : ∃ k, k < i ∧ listed.getD k true = false := by
                  apply Classical.byContradiction
                  intro hno
                  refine hk fun k hki => ?_
                  cases hbk : listed.getD k true with
                  | true => rfl
                  | false => exact absurd ⟨k, hki, hbk⟩ hno
                obtain ⟨k, hk1, hk2⟩ := this
                exact ihn k (by omega) (by omega) hk2
          obtain ⟨i, hi, hb⟩ := hex
          obtain ⟨j, hj1, hj2, hj3⟩ := hmin (i + 1) i (by omega) hi hb
          have : j ∈ Region.ready .any l.toArray listed := by
            unfold Region.ready
            rw [List.mem_filter]
            refine ⟨by simpa using hj1, ?_⟩
            rw [hj2]
            have ho : l[j]? = some l[j] := List.getElem?_eq_getElem hj1
            simp only [List.getElem?_toArray, ho, Option.map_some, Option.getD_some, Bool.not_false, Bool.true_and]
            rw [← Array.all_toList, List.all_eq_true]
            intro e he
            by_cases hbe : Region.binds .any e = true
            · have hmem : e.on ∈ needs l[j] := List.mem_map.2 ⟨e, List.mem_filter.2 ⟨he, hbe⟩, rfl⟩
              have h3 := hj3 e.on (hpos j _ ho _ hmem)
              have h4 : e.on < listed.size := by have := hpos j _ ho _ hmem; omega
              simp [Array.getD_eq_getD_getElem?, Array.getElem?_eq_getElem h4] at h3 ⊢
              simp [h3]
            · simp [hbe]
          rw [hr] at this; cases this
        · unfold Region.ready at hi
          rw [List.mem_filter] at hi
          obtain ⟨hi1, hi2⟩ := hi
          have hil : i < l.length := by simpa using hi1
          simp only [Bool.and_eq_true, Bool.not_eq_true'] at hi2
          have ho : l[i]? = some l[i] := List.getElem?_eq_getElem hil
          have hr : ∀ e ∈ needs l[i], (fun j => listed.getD j false) e = true := by
            intro e he
            obtain ⟨ed, hed, rfl⟩ := List.mem_map.1 he
            rw [List.mem_filter] at hed
            have h4 := hi2.2
            simp only [List.getElem?_toArray, ho, Option.map_some, Option.getD_some, ← Array.all_toList, List.all_eq_true] at h4
            have h5 := h4 ed hed.1
            simpa [hed.2] using h5
          have hbi : (fun j => listed.getD j false) i = false := by
            have h8 : i < listed.size := by omega
            have := hi2.1
            simp [Array.getD_eq_getD_getElem?, Array.getElem?_eq_getElem h8] at this ⊢; exact this
          have hmk := ready_mask hc ho hr
          have him : i < m := by
            rcases Nat.lt_or_ge i m with h1 | h1
            · exact h1
            · exfalso
              refine hpre fun j hj => ?_
              have := hmk j ((hrow i _ ho).2.2.2 h1 j (by omega))
              have h8 : j < listed.size := by omega
              simp [Array.getD_eq_getD_getElem?, Array.getElem?_eq_getElem h8] at this ⊢; exact this
          obtain ⟨o, ho2, hop⟩ := allOpsG_at hops i (by omega)
          have hoo : o = l[i] := by rw [ho] at ho2; exact (Option.some.inj ho2).symm
          subst hoo
          have hcl : ∀ k, k < l.length → listed.getD k false = true → ∀ j, ((masks l []).getD k 0).testBit j = true → listed.getD j false = true := fun k hk hb j hj => closed_mask hc (k + 1) k (by omega) hk hb j hj
          have hfit := needOk_fitsG hI him hml hbi hmk hcl (hlt i hil) ((hrow i _ ho).2.2.1 him)
          have hfl : okFlag l p i (listed.getD p false) = true := by
            unfold okFlag
            cases hbp : listed.getD p false with
            | false =>
              simp only [Bool.false_eq_true, if_false, Bool.not_eq_true']
              cases hq : ((masks l []).getD i 0).testBit p with
              | false => rfl
              | true => have h8 := hmk p hq; exact absurd (h8.symm.trans hbp) (by simp)
            | true =>
              simp only [if_true, Bool.and_eq_true, Bool.not_eq_true']
              refine ⟨?_, ?_⟩
              · cases hq : ((masks l []).getD p 0).testBit i with
                | false => rfl
                | true => have h8 := hcl p (by omega) hbp i hq; exact absurd (h8.symm.trans hbi) (by simp)
              · cases hq : Nat.beq i p with
                | false => rfl
                | true => have h8 := Nat.eq_of_beq_eq_true hq; subst h8; exact absurd (hbp.symm.trans hbi) (by simp)
          have hop2 := (hop.1 (listed.getD p false) r hfl) a w H hfit hI.st hI.ow Q (wpAny C.P .any l.toArray Q fuel (listed.setIfInBounds i true)) ?_
          · unfold wpOp
            have : l.toArray[i]? = some l[i] := by simp
            rw [this]
            simp only
            split
            · rename_i hw; rw [if_pos hw] at hop2; exact .inl hop2
            · rename_i hw; rw [if_neg hw] at hop2; exact hop2
          · intro r' v w' H' hφ' hsub hst' how' hv
            refine ih _ _ w' H' r' (by simpa using hs) ?_ ?_ ?_ ?_
            · have : ((List.range l.length).filter fun j => !(listed.setIfInBounds i true).getD j true).length < ((List.range l.length).filter fun j => !listed.getD j true).length := by
                have hsub : (List.range l.length).filter (fun j => !(listed.setIfInBounds i true).getD j true) = ((List.range l.length).filter fun j => !listed.getD j true).filter (fun j => !(Nat.beq i j)) := by
                  rw [List.filter_filter]
                  apply List.filter_congr
                  intro j hj
                  simp only [Array.getD_eq_getD_getElem?, Array.getElem?_setIfInBounds]
                  by_cases hij : i = j
                  · subst hij; simp [show i < listed.size from by omega]
                  · have : Nat.beq i j = false := by
                      cases hb : Nat.beq i j with
                      | false => rfl
                      | true => exact absurd (Nat.eq_of_beq_eq_true hb) hij
                    simp [hij, this]
                rw [hsub]
                have hmem : i ∈ (List.range l.length).filter fun j => !listed.getD j true := List.mem_filter.2 ⟨List.mem_range.2 hil, by rw [hi2.1]; rfl⟩
                exact List.length_filter_lt_length_iff_exists.2 ⟨i, hmem, by simp⟩
              omega
            · intro j hj hjl
              have := hsuf j hj hjl
              simp only [Array.getD_eq_getD_getElem?] at this
              simp only [Array.getD_eq_getD_getElem?, Array.getElem?_setIfInBounds]
              simp [show ¬ i = j from by omega, this]
            · intro k o' ho' hb' e he
              simp only [Array.getD_eq_getD_getElem?, Array.getElem?_setIfInBounds] at hb' ⊢
              by_cases hie : i = e
              · subst hie; simp [show i < listed.size from by omega]
              · simp only [if_neg hie]
                have h8 : ∀ e, (listed[e]?).getD false = listed.getD e false := fun e => by simp [Array.getD_eq_getD_getElem?]
                rw [h8]
                by_cases hik : i = k
                · subst hik
                  have : l[i] = o' := by rw [ho] at ho'; exact Option.some.inj ho'
                  subst this
                  exact hr e he
                · simp only [if_neg hik] at hb'
                  rw [h8] at hb'
                  exact hc k o' ho' hb' e he
            · have hdd : ∀ t, (a.put l[i].dst v).tmps.getD t undef = if l[i].dst = some t then v else a.tmps.getD t undef := by
                intro t
                cases hd : l[i].dst with
                | none => simp [Act.put]
                | some d =>
                  rw [getD_put]
                  have hdN : d < C.N := by
                    have := (hrow i _ ho).2.1
                    rw [hd] at this; simpa using this
                  by_cases hdt : d = t
                  · subst hdt; simp [hI.size, hdN]
                  · simp [hdt]
              refine ⟨?_, ?_, hst', ?_, ?_, ?_, ?_⟩
              · cases hd : l[i].dst <;> simp [Act.put, hI.defers]
              · cases hd : l[i].dst <;> simp [Act.put, hI.size]
              · have e : (listed.setIfInBounds i true).getD p false = (listed.getD p false || Nat.beq i p) := by
                  simp only [Array.getD_eq_getD_getElem?, Array.getElem?_setIfInBounds]
                  by_cases hip : i = p
                  · subst hip; simp [show i < listed.size from by omega]
                  · have : Nat.beq i p = false := by
                      cases hb : Nat.beq i p with
                      | false => rfl
                      | true => exact absurd (Nat.eq_of_beq_eq_true hb) hip
                    simp [hip, this]
                rw [e]; exact how'
              · intro hb
                have e : (listed.setIfInBounds i true).getD p false = (listed.getD p false || Nat.beq i p) := by
                  simp only [Array.getD_eq_getD_getElem?, Array.getElem?_setIfInBounds]
                  by_cases hip : i = p
                  · subst hip; simp [show i < listed.size from by omega]
                  · have : Nat.beq i p = false := by
                      cases hb : Nat.beq i p with
                      | false => rfl
                      | true => exact absurd (Nat.eq_of_beq_eq_true hb) hip
                    simp [hip, this]
                have hb2 : (listed.setIfInBounds i true).getD p false = true := hb
                rw [e] at hb2
                cases hip : Nat.beq i p with
                | true => rw [hip] at hφ'; exact hφ' rfl
                | false => rw [hip] at hφ'; obtain rfl := hφ'.1; rw [hip, Bool.or_false] at hb2; exact hI.phi hb2
              · intro t T hf hall
                have hbt : ∀ k, k < l.length → dstOf l k = some t → listed.getD k false = false ∧ k ≠ i := by
                  intro k hk hd
                  have := hall k hk hd
                  simp only [Array.getD_eq_getD_getElem?, Array.getElem?_setIfInBounds] at this ⊢
                  by_cases hik : i = k
                  · subst hik; simp [show i < listed.size from by omega] at this
                  · simp [hik] at this; exact ⟨this, fun e => hik e.symm⟩
                have hne : ¬ l[i].dst = some t := fun e => (hbt i hil (by simp [dstOf, ho, e])).2 rfl
                rw [hdd, if_neg hne]
                exact T.mono hsub (hI.old t T hf fun k hk hd => (hbt k hk hd).1)
              · intro k t hkm hb hd
                rw [hdd]
                simp only [Array.getD_eq_getD_getElem?, Array.getElem?_setIfInBounds] at hb
                by_cases hik : i = k
                · subst hik
                  have : l[i].dst = some t := by simpa [dstOf, ho] using hd
                  rw [if_pos this]
                  exact hv
                · simp only [if_neg hik] at hb
                  have hb' : listed.getD k false = true := by simpa [Array.getD_eq_getD_getElem?] using hb
                  have hne : ¬ l[i].dst = some t := by
                    intro e
                    -- two operations of the open part that write one slot
                    have h1 : (l.take m)[i]? = some l[i] := by rw [List.getElem?_take, if_pos him]; exact ho
                    have hkl : k < l.length := by omega
                    have h2 : (l.take m)[k]? = some l[k] := by rw [List.getElem?_take, if_pos hkm]; exact List.getElem?_eq_getElem hkl
                    have h3 : l[k].dst = some t := by simpa [dstOf, List.getElem?_eq_getElem hkl] using hd
                    exact hik (nodup_filterMap hnd h1 h2 e h3)
                  rw [if_neg hne]
                  have hgot := hI.got k t hkm hb' hd
                  have hcohk : (Ts r).getD k AnyT = (Ts r').getD k AnyT := by
                    cases hip : Nat.beq i p with
                    | false => rw [hip] at hφ'; rw [hφ'.1]
                    | true =>
                      have hie := Nat.eq_of_beq_eq_true hip
                      obtain ⟨o3, _, hop3⟩ := allOpsG_at hops k (by omega)
                      refine hop3.2 ?_ ?_ r r'
                      · unfold okFlag
                        simp only [Bool.false_eq_true, if_false, Bool.not_eq_true']
                        cases hq : ((masks l []).getD k 0).testBit p with
                        | false => rfl
                        | true =>
                          have h8 := hcl k (by omega) hb' p hq
                          rw [← hie] at h8
                          exact absurd (h8.symm.trans hbi) (by simp)
                      · cases hq : Nat.beq k p with
                        | false => rfl
                        | true => exact absurd (hie.trans (Nat.eq_of_beq_eq_true hq).symm) hik
                  rw [← hcohk]
                  exact ((Ts r).getD k AnyT).mono hsub hgot
  refine main l.length (Array.replicate l.length false) a { w with drawn := w.drawn + 1 } H r0 (by simp) (by
    refine Nat.le_trans (List.length_filter_le _ _) (by simp)) (fun i _ hi => by simp [Array.getD_eq_getD_getElem?, hi]) ?_ ?_ |> fun h => by simpa using h
  · intro k o ho hb e he
    simp [Array.getD_eq_getD_getElem?, Array.getElem?_replicate] at hb
    split at hb <;> simp at hb
  · refine ⟨f.defers, f.size, ⟨s.sub, fun k o e => s.on k o e, s.os, s.tape, s.output, s.size, s.keep, s.new⟩, ?_, fun hb => ?_, fun t T hf _ => f.get t T hf, fun k t _ hb => ?_⟩
    · have e0 : (Array.replicate l.length false).getD p false = false := by simp only [Array.getD_eq_getD_getElem?, Array.getElem?_replicate]; split <;> rfl
      rw [e0]
      exact ⟨fun i hi => i.st (w := w) (w' := { w with drawn := w.drawn + 1 }) (fun _ _ => rfl) (Sub.refl _) (ow.all i hi), ow.nodup, ow.own⟩
    · have e0 : (Array.replicate l.length false).getD p false = false := by simp only [Array.getD_eq_getD_getElem?, Array.getElem?_replicate]; split <;> rfl
      exact absurd (e0.symm.trans hb) (by simp)
    simp [Array.getD_eq_getD_getElem?, Array.getElem?_replicate] at hb
    split at hb <;> simp at hb
where
  nodup_filterMap {l : List Oper} (h : (l.filterMap (·.dst)).Nodup) {i k : Nat} {o o' : Oper} {t : Nat} (hi : l[i]? = some o) (hk : l[k]? = some o') (ho : o.dst = some t) (ho' : o'.dst = some t) : i = k := by
    induction l generalizing i k with
    | nil => simp at hi
    | cons q l ih =>
      cases i with
      | zero =>
        cases k with
        | zero => rfl
        | succ k =>
          exfalso
          have : q = o := by simpa using hi
          subst this
          rw [List.filterMap_cons_some ho] at h
          exact (List.nodup_cons.1 h).1 (List.mem_filterMap.2 ⟨o', List.mem_of_getElem? (by simpa using hk), ho'⟩)
      | succ i =>
        cases k with
        | zero =>
          exfalso
          have : q = o' := by simpa using hk
          subst this
          rw [List.filterMap_cons_some ho'] at h
          exact (List.nodup_cons.1 h).1 (List.mem_filterMap.2 ⟨o, List.mem_of_getElem? (by simpa using hi), ho⟩)
        | succ k =>
          have hn : (l.filterMap (·.dst)).Nodup := by
            cases hq : q.dst with
            | none => rwa [List.filterMap_cons_none hq] at h
            | some d => rw [List.filterMap_cons_some hq] at h; exact (List.nodup_cons.1 h).2
          exact congrArg (· + 1) (ih hn (i := i) (k := k) (by simpa using hi) (by simpa using hk))
end
end Go.Gw
