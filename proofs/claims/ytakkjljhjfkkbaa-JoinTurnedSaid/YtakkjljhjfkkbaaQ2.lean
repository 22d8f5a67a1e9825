/- The texts G16, G17, G18, G19, G27, SoA, So1, So2, SoB of this claim, put together in their order. No condition of their own. -/
import Derived.Test.YtakkjljhjfkkbaaQ1
import Derived.Laws.MakeOwn
import Derived.Lib.AppendZerosOnto
import Derived.Lib.SliceRun
import Derived.ChangeSame
import Derived.Lib.ConvBytes
import Derived.Laws.BytesString
import Derived.Laws.BytesArg
import Derived.Below
import Derived.Sort.AssemblyPlain
import Derived.Test.YtakkjljhjfkkbaaProg
/- Typed walks: regions that draw the order of their operations, with one operation in the open part that makes something not known ahead. Over any program. -/
namespace Go.Gw
open Go
set_option linter.unusedVariables false
set_option linter.unusedSimpArgs false
/-- One operation of the open part: from the items L to the items L' r, for an r that may not be known ahead. -/
def ROpG (C : Cx) (Γ : Env) (L : List It) {ρ : Type} (L' : ρ → List It) (φ : ρ → Prop) (ops : Array Oper) (o : Oper) (T : ρ → Ty) : Prop :=
  ∀ a w H, Fits C.N Γ H a → St C.M C.H0 C.w0 H w → Owns C.ok w H L → ∀ (Q : Exit → Act → World → Prop) (K : Act → World → Prop),
    (∀ (r : ρ) (v : Value) (w' : World) (H' : FH), φ r → Sub H H' → St C.M C.H0 C.w0 H' w' → Owns C.ok w' H' (L' r) → (T r).p H' v → K (a.put o.dst v) w') → if Region.wanted o (yielded ops a.tmps) = true then o.wp C.P a w K Q else K (a.put o.dst undef) w
section
variable {C : Cx} {Γ : Env} {L R : List It} {ops : Array Oper}
theorem ropg_of {o : Oper} {ρ : Type} {T : ρ → Ty} {ψ : ρ → Prop} (r : ρ) {L' : ρ → List It} (hL : L' r = L) (hψ : ψ r) (h : ROp C Γ L ops o (T r)) : ROpG C Γ L L' ψ ops o T := fun a w H f s ow Q K hK =>
  h a w H f s ow Q K fun v w' H' s' hv => hK r v w' H' hψ s'.sub (s.trans0 s') (hL ▸ ow.st0 s') hv
theorem ropg_acts {J : List It} {o : Oper} {ρ : Type} {T : ρ → Ty} {I : ρ → List It} {φ ψ : ρ → Prop} {T' : ρ → Ty} {L' : ρ → List It} (hg : o.guard = none) (hp : Acts C Γ L o J ρ T I φ) (hL : List.Perm L (J ++ R)) (hL' : ∀ r, List.Perm (I r ++ R) (L' r)) (hψ : ∀ r, φ r → ψ r) (hT : ∀ r, φ r → ∀ H v, (T r).p H v → (T' r).p H v) : ROpG C Γ L L' ψ ops o T' := fun a w H f s ow Q K hK => by
  rw [if_pos (by simp [Region.wanted, hg])]
  refine hp a w H f s ow Q K fun r v w' H' hφ s' hv ho => hK r v w' H' (hψ r hφ) s'.sub ?_ ?_ (hT r hφ H' v hv)
  · exact s.trans s' fun k hk => ((ow.perm hL).left.own k hk).2.2
  · have ow' := ow.perm hL
    have hM : ∀ k, k ∈ blks J → C.M k ∨ C.w0.heap.size ≤ k := fun k hk => (ow'.left.own k hk).2.2
    refine Owns.perm ?_ (hL' r)
    refine Owns.append (ho.mono fun g _ hg => ?_) (ow'.right.st s' fun g hg hj => ow'.apart g hj hg) fun g hg hr => ?_
    · rcases hg with hg | hg
      · exact hM g hg
      · exact .inr (Nat.le_trans s.size hg)
    · rcases (ho.own g hg).2.2 with h1 | h1
      · exact ow'.apart g h1 hr
      · have := (ow'.right.own g hr).1; omega
end
/-- Of operation i of the open part: from each state that it may meet; and that what it gives doesn't hang on p's, where it may come ahead of p. -/
def OpG (C : Cx) (Γ : Env) {ρ : Type} (Lf : Bool → ρ → List It) (p : Nat) (all : List Oper) (ops : Array Oper) (Ts : ρ → List Ty) (φ : ρ → Prop) (i : Nat) (o : Oper) (n : Need) : Prop :=
  (∀ c r, okFlag all p i c = true → ROpG C (envOf Γ (Ts r) n) (Lf c r) (fun r' => Lf (c || Nat.beq i p) r') (fun r' => cond (Nat.beq i p) (∀ _ : true = true, φ r') (r' = r ∧ True)) ops o (fun r' => (Ts r').getD i AnyT)) ∧
  (okFlag all p i false = true → Nat.beq i p = false → ∀ r r', (Ts r).getD i AnyT = (Ts r').getD i AnyT)
def AllOpsG (C : Cx) (Γ : Env) {ρ : Type} (Lf : Bool → ρ → List It) (p : Nat) (all : List Oper) (ops : Array Oper) (Ts : ρ → List Ty) (φ : ρ → Prop) : Nat → List Oper → List Need → Prop
  | i, o :: l, n :: ns => OpG C Γ Lf p all ops Ts φ i o n ∧ AllOpsG C Γ Lf p all ops Ts φ (i + 1) l ns
  | _, _, [] => True
  | _, [], _ :: _ => False
theorem allOpsG_from {C : Cx} {Γ : Env} {ρ : Type} {Lf : Bool → ρ → List It} {p : Nat} {all : List Oper} {ops : Array Oper} {Ts : ρ → List Ty} {φ : ρ → Prop} : ∀ {n : Nat} {l : List Oper} {ns : List Need}, AllOpsG C Γ Lf p all ops Ts φ n l ns → ∀ i, i < ns.length → ∃ o, l[i]? = some o ∧ OpG C Γ Lf p all ops Ts φ (n + i) o (ns.getD i [])
  | n, o :: l, m :: ns, h, 0, _ => ⟨o, rfl, h.1⟩
  | n, o :: l, m :: ns, h, i + 1, hi => by
    obtain ⟨o', h1, h2⟩ := allOpsG_from h.2 i (by simpa using hi)
    exact ⟨o', by simpa using h1, by rw [Nat.add_right_comm, Nat.add_assoc] at h2; simpa using h2⟩
  | _, [], [], _, i, hi => by simp at hi
  | _, _ :: _, [], _, i, hi => by simp at hi
theorem allOpsG_at {C : Cx} {Γ : Env} {ρ : Type} {Lf : Bool → ρ → List It} {p : Nat} {all : List Oper} {ops : Array Oper} {Ts : ρ → List Ty} {φ : ρ → Prop} {l : List Oper} {ns : List Need} (h : AllOpsG C Γ Lf p all ops Ts φ 0 l ns) (i : Nat) (hi : i < ns.length) : ∃ o, l[i]? = some o ∧ OpG C Γ Lf p all ops Ts φ i o (ns.getD i []) := by
  have := allOpsG_from h i hi
  simpa using this
section
variable {C : Cx} {Γ : Env} {L : List It} {Q : Exit → Act → World → Prop} {l : List Oper} {ns : List Need} {ρ : Type} {Ts : ρ → List Ty} {φ : ρ → Prop} {m : Nat}
/-- What stands while the open part is under way: b tells what has been listed. -/
structure InvG {ρ : Type} (C : Cx) (Γ : Env) (Lf : Bool → ρ → List It) (p : Nat) (l : List Oper) (Ts : ρ → List Ty) (φ : ρ → Prop) (m : Nat) (r : ρ) (b : Nat → Bool) (a : Act) (w : World) (H : FH) : Prop where
  defers : a.defers = []
  size : a.tmps.size = C.N
  st : St C.M C.H0 C.w0 H w
  ow : Owns C.ok w H (Lf (b p) r)
  phi : b p = true → φ r
  old : ∀ t T, find Γ t = some T → (∀ k, k < l.length → dstOf l k = some t → b k = false) → T.p H (a.tmps.getD t undef)
  got : ∀ k t, k < m → b k = true → dstOf l k = some t → ((Ts r).getD k AnyT).p H (a.tmps.getD t undef)
theorem needOk_fitsG {Lf : Bool → ρ → List It} {r : ρ} {p : Nat} {i : Nat} {b : Nat → Bool} {a : Act} {w : World} {H : FH} (hI : InvG C Γ Lf p l Ts φ m r b a w H) (him : i < m) (hlen : m ≤ l.length) (hi : b i = false) (hm : ∀ j, ((masks l []).getD i 0).testBit j = true → b j = true) (hcl : ∀ k, k < l.length → b k = true → ∀ j, ((masks l []).getD k 0).testBit j = true → b j = true) (hlt : ∀ j, ((masks l []).getD i 0).testBit j = true → j < i) :
    ∀ {n : Need}, needOk l (masks l []) i n = true → Fits C.N (envOf Γ (Ts r) n) H a
  | [], _ => ⟨hI.defers, hI.size, fun t T h => by cases h⟩
  | (t, none) :: nr, h => by
    simp only [needOk, Bool.and_eq_true] at h
    refine fits_cons ?_ (needOk_fitsG hI him hlen hi hm hcl hlt h.2)
    cases hf : find Γ t with
    | none => exact trivial
    | some T =>
      refine hI.old t T hf fun k hk hd => ?_
      have h1 := List.all_eq_true.1 h.1 k (List.mem_range.2 hk)
      simp only [hd, beq_self_eq_true, Bool.not_true, Bool.false_or, Bool.or_eq_true] at h1
      rcases h1 with h1 | h1
      · rw [Nat.eq_of_beq_eq_true h1]; exact hi
      · cases hb : b k with
        | false => rfl
        | true => have := hcl k hk hb i h1; rw [hi] at this; cases this
  | (t, some j) :: nr, h => by
    simp only [needOk, Bool.and_eq_true, beq_iff_eq] at h
    refine fits_cons ?_ (needOk_fitsG hI him hlen hi hm hcl hlt h.2)
    exact hI.got j t (by have := hlt j h.1.2; omega) (hm j h.1.2) h.1.1

theorem tr_anyG {id : Nat} {p : Nat} {Lf : Bool → ρ → List It} (r0 : ρ) (hp : Nat.ble (p + 1) m = true) (hm : C.P.follows .mixedOrders = true) (hok : regOk C.N l m ns = true) (hT : ∀ r, (Ts r).length = m) (hops : AllOpsG C Γ Lf p l l.toArray Ts φ 0 l ns) (h : ∀ r, φ r → Tr C (updAll (l.take m) (Ts r) Γ) (Lf true r) (wpList C.P l.toArray Q (l.drop m))) : Tr C Γ (Lf false r0) ((Code.region id l.toArray true).wp C.P Q) := by
  simp only [regOk, Bool.and_eq_true, decide_eq_true_eq] at hok
  obtain ⟨⟨⟨hok1, hnd⟩, hnl⟩, hml⟩ := hok
  have hml : m ≤ l.length := Nat.le_of_ble_eq_true hml
  have hpm : p < m := Nat.le_of_ble_eq_true hp
  have hrow : ∀ k o, l[k]? = some o → (∀ e ∈ needs o, e < k) ∧ (o.dst.all fun d => decide (d < C.N)) = true ∧ (k < m → needOk l (masks l []) k (ns.getD k []) = true) ∧ (m ≤ k → ∀ j, j < k → ((masks l []).getD k 0).testBit j = true) := by
    intro k o ho
    have hk := (List.getElem?_eq_some_iff.1 ho).1
    have h1 := List.all_eq_true.1 hok1 k (List.mem_range.2 hk)
    rw [ho] at h1
    simp only [Bool.and_eq_true, List.all_eq_true, decide_eq_true_eq] at h1
    refine ⟨h1.1.1, h1.1.2, fun hkm => ?_, fun hkm j hj => ?_⟩
    · have h2 := h1.2; rw [if_pos hkm] at h2; exact h2
    · have h2 := h1.2; rw [if_neg (by omega)] at h2; exact List.all_eq_true.1 h2 j (List.mem_range.2 hj)
  have hpos : ∀ k o, l[k]? = some o → ∀ e ∈ needs o, e < k := fun k o ho => (hrow k o ho).1
  have hlt : ∀ i, i < l.length → ∀ j, ((masks l []).getD i 0).testBit j = true → j < i := by
    intro i
    induction i using Nat.strongRecOn with
    | _ i ih =>
      intro hi j hj
      have ho : l[i]? = some l[i] := List.getElem?_eq_getElem hi
      have hm' := masks_at l [] i _ ho
      simp only [List.length_nil, Nat.zero_add] at hm'
      rw [List.getD_eq_getElem?_getD, hm', Option.getD_some] at hj
      obtain ⟨e, he, h⟩ := mask_bit hj
      have hei := hpos i _ ho e he
      rcases h with rfl | h
      · exact hei
      · rw [List.getD_eq_getElem?_getD, List.getElem?_take, if_pos hei, ← List.getD_eq_getElem?_getD] at h
        have := ih e hei (by omega) j h
        omega
  intro a w H f s ow
  refine wp_region_any hm ?_
  -- the open part
  have main : ∀ (fuel : Nat) (listed : Array Bool) (a : Act) (w : World) (H : FH) (r : ρ), listed.size = l.length → ((List.range l.length).filter fun i => !listed.getD i true).length ≤ fuel →
      (∀ i, m ≤ i → i < l.length → listed.getD i true = false) → ClosedB l (fun j => listed.getD j false) → InvG C Γ Lf p l Ts φ m r (fun j => listed.getD j false) a w H → wpAny C.P .any l.toArray Q fuel listed a w := by
    intro fuel
    induction fuel with
    | zero =>
      intro listed a w H r hs hf hsuf hc hI
      have hall : ∀ i, i < l.length → listed.getD i true = true := by
        intro i hi
        cases hb : listed.getD i true with
        | true => rfl
        | false =>
          have : i ∈ (List.range l.length).filter fun i => !listed.getD i true := List.mem_filter.2 ⟨List.mem_range.2 hi, by rw [hb]; rfl⟩
          have h0 : (List.range l.length).filter (fun i => !listed.getD i true) = [] := List.eq_nil_of_length_eq_zero (by omega)
          rw [h0] at this; cases this
      have hmn : m = l.length := by
        rcases Nat.lt_or_ge m l.length with h1 | h1
        · have h2 := hsuf m (Nat.le_refl _) h1; rw [hall m h1] at h2; cases h2
        · omega
      have hpd : listed.getD p false = true := by
        have := hall p (by omega); have h8 : p < listed.size := by omega
        simp [Array.getD_eq_getD_getElem?, Array.getElem?_eq_getElem h8] at this ⊢; exact this
      refine any_rest (m := m) (b := listed) hpos (fun k h1 h2 => (hrow k _ (List.getElem?_eq_getElem h2)).2.2.2 h1) 0 l.length listed a w (by omega) (Nat.le_refl _) hs (by omega) hall (fun i h1 h2 => by omega) ?_
      refine (by have h5 := h r (hI.phi hpd); rw [hmn] at h5; exact h5 : Tr C (updAll (l.take l.length) (Ts r) Γ) (Lf true r) (wpList C.P l.toArray Q (l.drop l.length))) a w H ⟨hI.defers, hI.size, fun t T e => ?_⟩ hI.st (by have := hI.ow; rw [hpd] at this; exact this)
      rw [List.take_length] at e
      rcases updAll_find l (Ts r) Γ t T (by rw [hT, hmn]) e with ⟨k, hk, hd, rfl⟩ | ⟨h1, h2⟩
      · exact hI.got k t (by omega) (by have := hall k hk; have h8 : k < listed.size := by omega
                                        simp [Array.getD_eq_getD_getElem?, Array.getElem?_eq_getElem h8] at this ⊢; exact this) hd
      · exact hI.old t T h1 fun k hk hd => absurd hd (h2 k hk)
    | succ fuel ih =>
      intro listed a w H r hs hf hsuf hc hI
      by_cases hpre : ∀ i, i < m → listed.getD i true = true
      · -- the open part is done
        have hpd : listed.getD p false = true := by
          have := hpre p (by omega); have h8 : p < listed.size := by omega
          simp [Array.getD_eq_getD_getElem?, Array.getElem?_eq_getElem h8] at this ⊢; exact this
        refine any_rest (m := m) (b := listed) hpos (fun k h1 h2 => (hrow k _ (List.getElem?_eq_getElem h2)).2.2.2 h1) (fuel + 1) m listed a w (Nat.le_refl _) hml hs ?_ hpre hsuf ?_
        · have : (List.range' m (l.length - m)).length ≤ ((List.range l.length).filter fun i => !listed.getD i true).length := by
            refine List.Sublist.length_le (l₁ := List.range' m (l.length - m)) ?_
            have e1 : (List.range l.length).filter (fun i => !listed.getD i true) = List.range' m (l.length - m) := by
              have e2 : List.range l.length = List.range' 0 m ++ List.range' m (l.length - m) := by
                rw [List.range_eq_range', show l.length = m + (l.length - m) from by omega, ← List.range'_append]
                simp
              rw [e2, List.filter_append]
              have e3 : (List.range' 0 m).filter (fun i => !listed.getD i true) = [] := by
                rw [List.filter_eq_nil_iff]
                intro i hi
                have := (List.mem_range'_1.1 hi).2
                rw [hpre i (by omega)]; simp
              have e4 : (List.range' m (l.length - m)).filter (fun i => !listed.getD i true) = List.range' m (l.length - m) := by
                rw [List.filter_eq_self]
                intro i hi
                have := List.mem_range'_1.1 hi
                rw [hsuf i (by omega) (by omega)]; rfl
              rw [e3, e4, List.nil_append]
            rw [e1]
            exact List.Sublist.refl _
          rw [List.length_range'] at this
          omega
        · refine h r (hI.phi hpd) a w H ⟨hI.defers, hI.size, fun t T e => ?_⟩ hI.st (by have := hI.ow; rw [hpd] at this; exact this)
          rcases updAll_find (l.take m) (Ts r) Γ t T (by rw [hT, List.length_take]; omega) e with ⟨k, hk, hd, rfl⟩ | ⟨h1, h2⟩
          · rw [List.length_take] at hk
            refine hI.got k t (by omega) ?_ (by unfold dstOf at hd ⊢; rw [List.getElem?_take, if_pos (by omega)] at hd; exact hd)
            have := hpre k (by omega)
            have h8 : k < listed.size := by omega
            simp [Array.getD_eq_getD_getElem?, Array.getElem?_eq_getElem h8] at this ⊢; exact this
          · refine hI.old t T h1 fun k hk hd => ?_
            rcases Nat.lt_or_ge k m with h3 | h3
            · exact absurd (by unfold dstOf at hd ⊢; rw [List.getElem?_take, if_pos h3]; exact hd) (h2 k (by rw [List.length_take]; omega))
            · have := hsuf k h3 hk
              have h8 : k < listed.size := by omega
              simp [Array.getD_eq_getD_getElem?, Array.getElem?_eq_getElem h8] at this ⊢; exact this
      · refine ⟨fun hr => ?_, fun i hi => ?_⟩
        · -- something is always ready
          exfalso
          have hex : ∃ i, i < l.length ∧ listed.getD i true = false := by
            apply Classical.byContradiction
            intro hno
            refine hpre fun i hi => ?_
            cases hb : listed.getD i true with
            | true => rfl
            | false => exact absurd ⟨i, by omega, hb⟩ hno
          have hmin : ∀ n i, i < n → i < l.length → listed.getD i true = false → ∃ j, j < l.length ∧ listed.getD j true = false ∧ ∀ k, k < j → listed.getD k true = true := by
            intro n
            induction n with
            | zero => intro i h; omega
            | succ n ihn =>
              intro i hi hl hb
              by_cases hk : ∀ k, k < i → listed.getD k true = true
              · exact ⟨i, hl, hb, hk⟩
              · have : ∃ k, k < i ∧ listed.getD k true = false := by
                  apply Classical.byContradiction
                  intro hno
                  refine hk fun k hki => ?_
                  cases hbk : listed.getD k true with
                  | true => rfl
                  | false => exact absurd ⟨k, hki, hbk⟩ hno
                obtain ⟨k, hk1, hk2⟩ := this
                exact ihn k (by omega) (by omega) hk2
          obtain ⟨i, hi, hb⟩ := hex
          obtain ⟨j, hj1, hj2, hj3⟩ := hmin (i + 1) i (by omega) hi hb
          have : j ∈ Region.ready .any l.toArray listed := by
            unfold Region.ready
            rw [List.mem_filter]
            refine ⟨by simpa using hj1, ?_⟩
            rw [hj2]
            have ho : l[j]? = some l[j] := List.getElem?_eq_getElem hj1
            simp only [List.getElem?_toArray, ho, Option.map_some, Option.getD_some, Bool.not_false, Bool.true_and]
            rw [← Array.all_toList, List.all_eq_true]
            intro e he
            by_cases hbe : Region.binds .any e = true
            · have hmem : e.on ∈ needs l[j] := List.mem_map.2 ⟨e, List.mem_filter.2 ⟨he, hbe⟩, rfl⟩
              have h3 := hj3 e.on (hpos j _ ho _ hmem)
              have h4 : e.on < listed.size := by have := hpos j _ ho _ hmem; omega
              simp [Array.getD_eq_getD_getElem?, Array.getElem?_eq_getElem h4] at h3 ⊢
              simp [h3]
            · simp [hbe]
          rw [hr] at this; cases this
        · unfold Region.ready at hi
          rw [List.mem_filter] at hi
          obtain ⟨hi1, hi2⟩ := hi
          have hil : i < l.length := by simpa using hi1
          simp only [Bool.and_eq_true, Bool.not_eq_true'] at hi2
          have ho : l[i]? = some l[i] := List.getElem?_eq_getElem hil
          have hr : ∀ e ∈ needs l[i], (fun j => listed.getD j false) e = true := by
            intro e he
            obtain ⟨ed, hed, rfl⟩ := List.mem_map.1 he
            rw [List.mem_filter] at hed
            have h4 := hi2.2
            simp only [List.getElem?_toArray, ho, Option.map_some, Option.getD_some, ← Array.all_toList, List.all_eq_true] at h4
            have h5 := h4 ed hed.1
            simpa [hed.2] using h5
          have hbi : (fun j => listed.getD j false) i = false := by
            have h8 : i < listed.size := by omega
            have := hi2.1
            simp [Array.getD_eq_getD_getElem?, Array.getElem?_eq_getElem h8] at this ⊢; exact this
          have hmk := ready_mask hc ho hr
          have him : i < m := by
            rcases Nat.lt_or_ge i m with h1 | h1
            · exact h1
            · exfalso
              refine hpre fun j hj => ?_
              have := hmk j ((hrow i _ ho).2.2.2 h1 j (by omega))
              have h8 : j < listed.size := by omega
              simp [Array.getD_eq_getD_getElem?, Array.getElem?_eq_getElem h8] at this ⊢; exact this
          obtain ⟨o, ho2, hop⟩ := allOpsG_at hops i (by omega)
          have hoo : o = l[i] := by rw [ho] at ho2; exact (Option.some.inj ho2).symm
          subst hoo
          have hcl : ∀ k, k < l.length → listed.getD k false = true → ∀ j, ((masks l []).getD k 0).testBit j = true → listed.getD j false = true := fun k hk hb j hj => closed_mask hc (k + 1) k (by omega) hk hb j hj
          have hfit := needOk_fitsG hI him hml hbi hmk hcl (hlt i hil) ((hrow i _ ho).2.2.1 him)
          have hfl : okFlag l p i (listed.getD p false) = true := by
            unfold okFlag
            cases hbp : listed.getD p false with
            | false =>
              simp only [Bool.false_eq_true, if_false, Bool.not_eq_true']
              cases hq : ((masks l []).getD i 0).testBit p with
              | false => rfl
              | true => have h8 := hmk p hq; exact absurd (h8.symm.trans hbp) (by simp)
            | true =>
              simp only [if_true, Bool.and_eq_true, Bool.not_eq_true']
              refine ⟨?_, ?_⟩
              · cases hq : ((masks l []).getD p 0).testBit i with
                | false => rfl
                | true => have h8 := hcl p (by omega) hbp i hq; exact absurd (h8.symm.trans hbi) (by simp)
              · cases hq : Nat.beq i p with
                | false => rfl
                | true => have h8 := Nat.eq_of_beq_eq_true hq; subst h8; exact absurd (hbp.symm.trans hbi) (by simp)
          have hop2 := (hop.1 (listed.getD p false) r hfl) a w H hfit hI.st hI.ow Q (wpAny C.P .any l.toArray Q fuel (listed.setIfInBounds i true)) ?_
          · unfold wpOp
            have : l.toArray[i]? = some l[i] := by simp
            rw [this]
            simp only
            split
            · rename_i hw; rw [if_pos hw] at hop2; exact .inl hop2
            · rename_i hw; rw [if_neg hw] at hop2; exact hop2
          · intro r' v w' H' hφ' hsub hst' how' hv
            refine ih _ _ w' H' r' (by simpa using hs) ?_ ?_ ?_ ?_
            · have : ((List.range l.length).filter fun j => !(listed.setIfInBounds i true).getD j true).length < ((List.range l.length).filter fun j => !listed.getD j true).length := by
                have hsub : (List.range l.length).filter (fun j => !(listed.setIfInBounds i true).getD j true) = ((List.range l.length).filter fun j => !listed.getD j true).filter (fun j => !(Nat.beq i j)) := by
                  rw [List.filter_filter]
                  apply List.filter_congr
                  intro j hj
                  simp only [Array.getD_eq_getD_getElem?, Array.getElem?_setIfInBounds]
                  by_cases hij : i = j
                  · subst hij; simp [show i < listed.size from by omega]
                  · have : Nat.beq i j = false := by
                      cases hb : Nat.beq i j with
                      | false => rfl
                      | true => exact absurd (Nat.eq_of_beq_eq_true hb) hij
                    simp [hij, this]
                rw [hsub]
                have hmem : i ∈ (List.range l.length).filter fun j => !listed.getD j true := List.mem_filter.2 ⟨List.mem_range.2 hil, by rw [hi2.1]; rfl⟩
                exact List.length_filter_lt_length_iff_exists.2 ⟨i, hmem, by simp⟩
              omega
            · intro j hj hjl
              have := hsuf j hj hjl
              simp only [Array.getD_eq_getD_getElem?] at this
              simp only [Array.getD_eq_getD_getElem?, Array.getElem?_setIfInBounds]
              simp [show ¬ i = j from by omega, this]
            · intro k o' ho' hb' e he
              simp only [Array.getD_eq_getD_getElem?, Array.getElem?_setIfInBounds] at hb' ⊢
              by_cases hie : i = e
              · subst hie; simp [show i < listed.size from by omega]
              · simp only [if_neg hie]
                have h8 : ∀ e, (listed[e]?).getD false = listed.getD e false := fun e => by simp [Array.getD_eq_getD_getElem?]
                rw [h8]
                by_cases hik : i = k
                · subst hik
                  have : l[i] = o' := by rw [ho] at ho'; exact Option.some.inj ho'
                  subst this
                  exact hr e he
                · simp only [if_neg hik] at hb'
                  rw [h8] at hb'
                  exact hc k o' ho' hb' e he
            · have hdd : ∀ t, (a.put l[i].dst v).tmps.getD t undef = if l[i].dst = some t then v else a.tmps.getD t undef := by
                intro t
                cases hd : l[i].dst with
                | none => simp [Act.put]
                | some d =>
                  rw [getD_put]
                  have hdN : d < C.N := by
                    have := (hrow i _ ho).2.1
                    rw [hd] at this; simpa using this
                  by_cases hdt : d = t
                  · subst hdt; simp [hI.size, hdN]
                  · simp [hdt]
              refine ⟨?_, ?_, hst', ?_, ?_, ?_, ?_⟩
              · cases hd : l[i].dst <;> simp [Act.put, hI.defers]
              · cases hd : l[i].dst <;> simp [Act.put, hI.size]
              · have e : (listed.setIfInBounds i true).getD p false = (listed.getD p false || Nat.beq i p) := by
                  simp only [Array.getD_eq_getD_getElem?, Array.getElem?_setIfInBounds]
                  by_cases hip : i = p
                  · subst hip; simp [show i < listed.size from by omega]
                  · have : Nat.beq i p = false := by
                      cases hb : Nat.beq i p with
                      | false => rfl
                      | true => exact absurd (Nat.eq_of_beq_eq_true hb) hip
                    simp [hip, this]
                rw [e]; exact how'
              · intro hb
                have e : (listed.setIfInBounds i true).getD p false = (listed.getD p false || Nat.beq i p) := by
                  simp only [Array.getD_eq_getD_getElem?, Array.getElem?_setIfInBounds]
                  by_cases hip : i = p
                  · subst hip; simp [show i < listed.size from by omega]
                  · have : Nat.beq i p = false := by
                      cases hb : Nat.beq i p with
                      | false => rfl
                      | true => exact absurd (Nat.eq_of_beq_eq_true hb) hip
                    simp [hip, this]
                have hb2 : (listed.setIfInBounds i true).getD p false = true := hb
                rw [e] at hb2
                cases hip : Nat.beq i p with
                | true => rw [hip] at hφ'; exact hφ' rfl
                | false => rw [hip] at hφ'; obtain rfl := hφ'.1; rw [hip, Bool.or_false] at hb2; exact hI.phi hb2
              · intro t T hf hall
                have hbt : ∀ k, k < l.length → dstOf l k = some t → listed.getD k false = false ∧ k ≠ i := by
                  intro k hk hd
                  have := hall k hk hd
                  simp only [Array.getD_eq_getD_getElem?, Array.getElem?_setIfInBounds] at this ⊢
                  by_cases hik : i = k
                  · subst hik; simp [show i < listed.size from by omega] at this
                  · simp [hik] at this; exact ⟨this, fun e => hik e.symm⟩
                have hne : ¬ l[i].dst = some t := fun e => (hbt i hil (by simp [dstOf, ho, e])).2 rfl
                rw [hdd, if_neg hne]
                exact T.mono hsub (hI.old t T hf fun k hk hd => (hbt k hk hd).1)
              · intro k t hkm hb hd
                rw [hdd]
                simp only [Array.getD_eq_getD_getElem?, Array.getElem?_setIfInBounds] at hb
                by_cases hik : i = k
                · subst hik
                  have : l[i].dst = some t := by simpa [dstOf, ho] using hd
                  rw [if_pos this]
                  exact hv
                · simp only [if_neg hik] at hb
                  have hb' : listed.getD k false = true := by simpa [Array.getD_eq_getD_getElem?] using hb
                  have hne : ¬ l[i].dst = some t := by
                    intro e
                    -- two operations of the open part that write one slot
                    have h1 : (l.take m)[i]? = some l[i] := by rw [List.getElem?_take, if_pos him]; exact ho
                    have hkl : k < l.length := by omega
                    have h2 : (l.take m)[k]? = some l[k] := by rw [List.getElem?_take, if_pos hkm]; exact List.getElem?_eq_getElem hkl
                    have h3 : l[k].dst = some t := by simpa [dstOf, List.getElem?_eq_getElem hkl] using hd
                    exact hik (nodup_filterMap hnd h1 h2 e h3)
                  rw [if_neg hne]
                  have hgot := hI.got k t hkm hb' hd
                  have hcohk : (Ts r).getD k AnyT = (Ts r').getD k AnyT := by
                    cases hip : Nat.beq i p with
                    | false => rw [hip] at hφ'; rw [hφ'.1]
                    | true =>
                      have hie := Nat.eq_of_beq_eq_true hip
                      obtain ⟨o3, _, hop3⟩ := allOpsG_at hops k (by omega)
                      refine hop3.2 ?_ ?_ r r'
                      · unfold okFlag
                        simp only [Bool.false_eq_true, if_false, Bool.not_eq_true']
                        cases hq : ((masks l []).getD k 0).testBit p with
                        | false => rfl
                        | true =>
                          have h8 := hcl k (by omega) hb' p hq
                          rw [← hie] at h8
                          exact absurd (h8.symm.trans hbi) (by simp)
                      · cases hq : Nat.beq k p with
                        | false => rfl
                        | true => exact absurd (hie.trans (Nat.eq_of_beq_eq_true hq).symm) hik
                  rw [← hcohk]
                  exact ((Ts r).getD k AnyT).mono hsub hgot
  refine main l.length (Array.replicate l.length false) a { w with drawn := w.drawn + 1 } H r0 (by simp) (by
    refine Nat.le_trans (List.length_filter_le _ _) (by simp)) (fun i _ hi => by simp [Array.getD_eq_getD_getElem?, hi]) ?_ ?_ |> fun h => by simpa using h
  · intro k o ho hb e he
    simp [Array.getD_eq_getD_getElem?, Array.getElem?_replicate] at hb
    split at hb <;> simp at hb
  · refine ⟨f.defers, f.size, ⟨s.sub, fun k o e => s.on k o e, s.os, s.tape, s.output, s.size, s.keep, s.new⟩, ?_, fun hb => ?_, fun t T hf _ => f.get t T hf, fun k t _ hb => ?_⟩
    · have e0 : (Array.replicate l.length false).getD p false = false := by simp only [Array.getD_eq_getD_getElem?, Array.getElem?_replicate]; split <;> rfl
      rw [e0]
      exact ⟨fun i hi => i.st (w := w) (w' := { w with drawn := w.drawn + 1 }) (fun _ _ => rfl) (Sub.refl _) (ow.all i hi), ow.nodup, ow.own⟩
    · have e0 : (Array.replicate l.length false).getD p false = false := by simp only [Array.getD_eq_getD_getElem?, Array.getElem?_replicate]; split <;> rfl
      exact absurd (e0.symm.trans hb) (by simp)
    simp [Array.getD_eq_getD_getElem?, Array.getElem?_replicate] at hb
    split at hb <;> simp at hb
where
  nodup_filterMap {l : List Oper} (h : (l.filterMap (·.dst)).Nodup) {i k : Nat} {o o' : Oper} {t : Nat} (hi : l[i]? = some o) (hk : l[k]? = some o') (ho : o.dst = some t) (ho' : o'.dst = some t) : i = k := by
    induction l generalizing i k with
    | nil => simp at hi
    | cons q l ih =>
      cases i with
      | zero =>
        cases k with
        | zero => rfl
        | succ k =>
          exfalso
          have : q = o := by simpa using hi
          subst this
          rw [List.filterMap_cons_some ho] at h
          exact (List.nodup_cons.1 h).1 (List.mem_filterMap.2 ⟨o', List.mem_of_getElem? (by simpa using hk), ho'⟩)
      | succ i =>
        cases k with
        | zero =>
          exfalso
          have : q = o' := by simpa using hk
          subst this
          rw [List.filterMap_cons_some ho'] at h
          exact (List.nodup_cons.1 h).1 (List.mem_filterMap.2 ⟨o, List.mem_of_getElem? (by simpa using hi), ho⟩)
        | succ k =>
          have hn : (l.filterMap (·.dst)).Nodup := by
            cases hq : q.dst with
            | none => rwa [List.filterMap_cons_none hq] at h
            | some d => rw [List.filterMap_cons_some hq] at h; exact (List.nodup_cons.1 h).2
          exact congrArg (· + 1) (ih hn (i := i) (k := k) (by simpa using hi) (by simpa using hk))
end
end Go.Gw
/- Typed walks: memory newer than a mark; contracts that speak of a mark; pieces of a row of one's own, rows made with room, cleared. Over any program. -/
namespace Go.Gw
open Go
set_option linter.unusedVariables false
set_option linter.unusedSimpArgs false
/-! ### 1. Newer than a mark -/
/-- A slice whose memory is newer than a mark, or that has no room. -/
def FreshV (K0 : FH) (n0 : Nat) : Value → Prop
  | .slice (some p) _ c => c = 0 ∨ (K0 p.block = none ∧ n0 ≤ p.block)
  | _ => True
/-- A slice's room lies in a block that may be written. -/
def RoomV (H : FH) (sz : Nat) : Value → Prop
  | .slice (some p) _ c => 0 < c → p.spot = none ∧ ∃ cells e, H p.block = some (.cells cells e (0, 0)) ∧ p.off + c * sz ≤ cells.size
  | _ => True
theorem RoomV.mono {H H' : FH} {sz : Nat} (hs : Sub H H') {v : Value} (h : RoomV H sz v) : RoomV H' sz v := by
  cases v with
  | slice A n c =>
    cases A with
    | none => trivial
    | some p => exact fun hc => let ⟨h1, cells, e, h2, h3⟩ := h hc; ⟨h1, cells, e, hs _ _ h2, h3⟩
  | _ => trivial
def FreshT {α : Type} (K0 : FH) (n0 : Nat) (d : Kd α) (xs : List α) : Ty := ⟨fun H v => (SlT d xs).p H v ∧ FreshV K0 n0 v ∧ RoomV H d.sz v, fun hs h => ⟨(SlT d xs).mono hs h.1, h.2.1, h.2.2.mono hs⟩⟩
/-- .. and there is no room beyond. -/
def ClipT {α : Type} (K0 : FH) (n0 : Nat) (d : Kd α) (xs : List α) : Ty := ⟨fun H v => (FreshT K0 n0 d xs).p H v ∧ ∃ A, v = .slice A xs.length xs.length, fun hs h => ⟨(FreshT K0 n0 d xs).mono hs h.1, h.2⟩⟩
def kty {α : Type} (T : α → Ty) (hT : ∀ {x H v}, (T x).p H v → ∃ A n c, v = .slice A n c) : Kd α where
  sz := 1
  agg := false
  K := fun H xs cs => ∃ v, cs = [v] ∧ (T xs).p H v
  T := T
  len := by rintro H x cs ⟨v, rfl, _⟩; rfl
  one := by rintro H x cs ⟨v, rfl, h⟩ u hu; obtain ⟨A, n, c, rfl⟩ := hT h; rw [List.mem_singleton.1 hu]; rfl
  mono := by rintro H H' x cs hs ⟨v, rfl, h⟩; exact ⟨v, rfl, (T x).mono hs h⟩
  toT := by rintro H x cs ⟨v, rfl, h⟩; exact h
  ofT := fun {H x v} h => ⟨[v], ⟨v, rfl, h⟩, rfl⟩
  szone := fun _ => rfl
/-- Slices that are read, with memory newer than a mark. -/
def kfr {α : Type} (K0 : FH) (n0 : Nat) (d : Kd α) : Kd (List α) := kty (fun xs => FreshT K0 n0 d xs) fun {x H v} h => let ⟨A, c, h1, _⟩ := h.1; ⟨A, _, c, h1⟩
def kcl {α : Type} (K0 : FH) (n0 : Nat) (d : Kd α) : Kd (List α) := kty (fun xs => ClipT K0 n0 d xs) fun {x H v} h => let ⟨A, h1⟩ := h.2; ⟨A, _, _, h1⟩
/-- Called where K0 is frozen and the heap has n0 blocks at least. -/
def CtM (K0 : FH) (n0 : Nat) (P : Program) (f : FuncId) (As : List Ty) (J : List It) (ρ : Type) (T : ρ → Ty) (I : ρ → List It) (φ : ρ → Prop) : Prop :=
  ∀ (H : FH) (w : World) (args : List Value), Sub K0 H → n0 ≤ w.heap.size → On H w → AllP H As args → Owns (fun _ => True) w H J → Calls P f args.toArray w (post J H w ρ T I φ)
theorem Ct.toM {K0 : FH} {n0 : Nat} {P : Program} {f : FuncId} {As : List Ty} {J : List It} {ρ : Type} {T : ρ → Ty} {I : ρ → List It} {φ : ρ → Prop} (h : Ct P f As J ρ T I φ) : CtM K0 n0 P f As J ρ T I φ := fun H w args _ _ hon hA hO => h H w args hon hA hO
theorem fn_introM {K0 : FH} {n0 : Nat} {P : Program} {f : FuncId} {fn : Func} {c : Code} {As : List Ty} {J : List It} {ρ : Type} {T : ρ → Ty} {I : ρ → List It} {φ : ρ → Prop} (hf : P.funcs[f]? = some fn) (hb : fn.body = some c) (hN : decide (As.length ≤ fn.ntmps) = true)
    (h : ∀ (H : FH) (w : World), Sub K0 H → n0 ≤ w.heap.size → Tr ⟨P, fn.ntmps, fun g => g ∈ blks J, H, w⟩ (argEnv 0 As) J (c.wp P (bodyPost P fn (post J H w ρ T I φ)))) : CtM K0 n0 P f As J ρ T I φ := by
  intro H w args hK hn hon hA hO
  have hlen := allP_len hA
  have hN' : As.length ≤ fn.ntmps := of_decide_eq_true hN
  refine calls_of_wp hf hb (h H w hK hn _ w H ⟨rfl, by simp; omega, fun t T' e => ?_⟩ (St.refl hon) (hO.mono fun g hg _ => .inl hg))
  obtain ⟨_, h2, h3⟩ := allP_find hA e
  have h4 : (args.toArray ++ Array.replicate (fn.ntmps - args.toArray.size) undef).getD t undef = args.getD (t - 0) undef := by
    simp only [Nat.sub_zero] at h3 ⊢
    simp [Array.getD_eq_getD_getElem?, List.getD_eq_getElem?_getD, Array.getElem?_append, h3]
  rw [h4]; exact h2
def MarkOk (C : Cx) (Γ : Env) (K0 : FH) (n0 : Nat) : Prop := (∀ a H, Fits C.N Γ H a → Sub C.H0 H → Sub K0 H) ∧ n0 ≤ C.w0.heap.size
theorem mk_in {C : Cx} {Γ : Env} {K0 : FH} {n0 : Nat} (hK : Sub K0 C.H0) (hn : n0 ≤ C.w0.heap.size) : MarkOk C Γ K0 n0 := ⟨fun _ _ _ hs => hK.trans hs, hn⟩
abbrev noK : FH := fun _ => none
theorem mk_none {C : Cx} {Γ : Env} : MarkOk C Γ noK 0 := ⟨fun _ _ _ _ k o h => (by cases h), Nat.zero_le _⟩
/-- A slot that says that K is frozen. -/
def MarkT (K : FH) : Ty := ⟨fun H _ => Sub K H, fun hs h => h.trans hs⟩
theorem mk_slot {C : Cx} {Γ : Env} {K0 : FH} {t : Nat} (h : OT C.N Γ (.tmp t) (MarkT K0)) : MarkOk C Γ K0 C.w0.heap.size := ⟨fun a H f _ => h a H f, Nat.le_refl _⟩
section
variable {C : Cx} {Γ : Env} {L R : List It} {Q : Exit → Act → World → Prop} {ops : Array Oper} {rest : List Oper}
variable {dst : Option Tmp} {ty : TypeId} {pos : String} {after : Array Edge} {guard : Option (Nat × Bool)} {x y z : Operand}
variable {α β : Type} {d : Kd α} {e : Kd β}
theorem acts_callM {K0 : FH} {n0 : Nat} {J : List It} {f : FuncId} {As : List Ty} {ρ : Type} {T : ρ → Ty} {I : ρ → List It} {φ : ρ → Prop} {xs : List Operand} {ats : Array TypeId}
    (hF : CtM K0 n0 C.P f As J ρ T I φ) (hk : MarkOk C Γ K0 n0) (hin : enters C.P f = true) (hxs : OTs C.N Γ xs As) (hL : List.Perm L (J ++ R)) :
    Acts C Γ L { dst, op := .call { callee := .value (.func f), args := xs.toArray, argTypes := ats }, type := ty, pos, after, guard } J ρ T I φ := by
  intro a w H fi s ow Q K hK
  have he : execOp a.eval { dst, op := .call { callee := .value (.func f), args := xs.toArray, argTypes := ats }, type := ty, pos, after, guard } = callFunc f (xs.map a.eval).toArray := by
    rw [execOp_call_go]; simp
  simp only [Oper.wp, he, run_enters hin, Oper.upon_enter]
  refine Calls.mono (hF H w _ (hk.1 a H fi s.sub) (Nat.le_trans hk.2 s.size) s.on (OTs.all fi hxs) ((ow.perm hL).left.mono fun _ _ _ => trivial)) ?_
  rintro e w' ⟨r, v, H', rfl, hφ, s', hv, ho⟩
  exact hK r v w' H' hφ s' hv ho
theorem own_frozenF {w : World} {H : FH} {t : TypeId} {v : Value} {xs : List α} (h : (OwnI t d v xs).p w H) (hn : ∀ g, v.ownBlock = some g → H g = none) (hon : On H w) :
    ∃ H', Sub H H' ∧ On H' w ∧ (∀ k o, H' k = some o → H k = some o ∨ v.ownBlock = some k) ∧ (SlT d xs).p H' v ∧ RoomV H' d.sz v := by
  obtain ⟨H', h1, h2, h3, h4⟩ := own_frozen h hn hon
  obtain ⟨inner, ⟨_, h5⟩, _⟩ := h
  rcases h5 with ⟨rfl, h0⟩ | ⟨g, cap, cur, rfl, _, hb, hc, hm, hs, _⟩
  · exact ⟨H', h1, h2, h3, h4, trivial⟩
  · by_cases hg' : H' g = none
    · have hg : H g = none := hn g rfl
      refine ⟨addH H' g (.cells cur t (0, 0)), h1.trans (addH_sub hg'), addH_on h2 hb, fun k o e => ?_, (SlT d xs).mono (addH_sub hg') h4, fun _ => ⟨rfl, cur, t, by simp [addH], by rw [hs]; simp⟩⟩
      unfold addH at e
      by_cases hk : k = g
      · subst hk; exact .inr rfl
      · rw [if_neg hk] at e; exact h3 k o e
    · obtain ⟨o, ho⟩ := Option.ne_none_iff_exists'.1 hg'
      have := h2 g o ho
      rw [hb] at this
      have ho' : o = .cells cur t (0, 0) := (Option.some.inj this).symm
      subst ho'
      exact ⟨H', h1, h2, h3, h4, fun _ => ⟨rfl, cur, t, ho, by rw [hs]; simp⟩⟩
/-- A row of one's own, made since the mark, is frozen. -/
theorem tr_freezeF {K0 : FH} {n0 : Nat} {t : TypeId} {v : Value} {xs : List α} {φ : Act → World → Prop} (hk : MarkOk C Γ K0 n0) (hM : ∀ g, ¬ C.M g) (hp : List.Perm L (OwnI t d v xs :: R)) (sl : Nat) (hv : OT C.N Γ (.tmp sl) (IsV v)) (h : Tr C ((sl, FreshT K0 n0 d xs) :: Γ) R φ) : Tr C Γ L φ := by
  intro a w H f s o
  have o' := o.perm hp
  have hb : ∀ g, v.ownBlock = some g → g < w.heap.size ∧ H g = none ∧ C.ok g := fun g hg => o'.own g (blk_mem (i := OwnI t d v xs) List.mem_cons_self hg)
  have hfr : FreshV K0 n0 v := by
    obtain ⟨inner, ⟨_, h2⟩, _⟩ := o'.all _ List.mem_cons_self
    rcases h2 with ⟨rfl, _⟩ | ⟨g, cap, cur, rfl, _⟩
    · exact trivial
    · obtain ⟨_, h4, h5⟩ := hb g rfl
      refine .inr ⟨?_, Nat.le_trans hk.2 (h5.resolve_left (hM g))⟩
      have hs := hk.1 a H f s.sub
      show K0 g = none
      cases e : K0 g with
      | none => rfl
      | some o => have := hs g o e; rw [h4] at this; cases this
  obtain ⟨H', h1, h2, h3, h4, h5⟩ := own_frozenF (o'.all _ List.mem_cons_self) (fun g hg => (hb g hg).2.1) s.on
  refine h a w H' (fits_cons ?_ (f.mono h1)) ⟨s.sub.trans h1, h2, s.os, s.tape, s.output, s.size, s.keep, fun k o e => ?_⟩ (frozen_sub o' h1 h3)
  · have : a.eval (.tmp sl) = v := hv a H f
    simp only [Act.eval] at this
    rw [this]; exact ⟨h4, hfr, h5⟩
  · rcases h3 k o e with e | e
    · exact s.new k o e
    · rcases (hb k e).2.2 with h5 | h5
      · exact .inr (.inr h5)
      · exact .inr (.inl h5)
/-- A slot is told less of. -/
theorem tr_as {T : Ty} {φ : Act → World → Prop} (sl : Nat) (hv : OT C.N Γ (.tmp sl) T) (h : Tr C ((sl, T) :: Γ) L φ) : Tr C Γ L φ := tr_env (fun a H f => fits_cons (hv a H f) f) h
theorem OT.fresh {N : Nat} {K0 : FH} {n0 : Nat} {xs : List α} (h : OT N Γ x (FreshT K0 n0 d xs)) : OT N Γ x (SlT d xs) := fun a H f => (h a H f).1
theorem reps_weak {d e : Kd α} (hsz : d.sz = e.sz) {H : FH} {xs : List α} {cs : List Value} (hw : ∀ {H x cs}, d.K H x cs → e.K H x cs) (h : Reps d H xs cs) : Reps e H xs cs := ⟨by rw [← hsz]; exact h.1, fun j x e => by rw [← hsz]; exact hw (h.2 j x e)⟩
theorem slt_weak {d e : Kd α} (hsz : d.sz = e.sz) (hw : ∀ {H x cs}, d.K H x cs → e.K H x cs) {H : FH} {v : Value} {xs : List α} (h : (SlT d xs).p H v) : (SlT e xs).p H v := by
  obtain ⟨A, c, h1, h2, h3, h4⟩ := h
  refine ⟨A, c, h1, h2, h3, fun hn => ?_⟩
  obtain ⟨ad, cells, el, fr, cs, e1, e2, e3, e4, e5⟩ := h4 hn
  exact ⟨ad, cells, el, fr, cs, e1, e2, e3, reps_weak hsz hw e4, e5⟩
theorem cl_weak {K0 : FH} {n0 : Nat} {H : FH} {xs : List α} {cs : List Value} (h : (kcl K0 n0 d).K H xs cs) : (ksl d).K H xs cs := let ⟨v, h1, h2⟩ := h; ⟨v, h1, h2.1.1⟩
theorem OT.unclip {N : Nat} {K0 : FH} {n0 : Nat} {xs : List α} (h : OT N Γ x (ClipT K0 n0 d xs)) : OT N Γ x (FreshT K0 n0 d xs) := fun a H f => (h a H f).1
theorem fr_weak {K0 : FH} {n0 : Nat} {H : FH} {xs : List α} {cs : List Value} (h : (kfr K0 n0 d).K H xs cs) : (ksl d).K H xs cs := let ⟨v, h1, h2⟩ := h; ⟨v, h1, h2.1⟩
/-- A slice of new slices is a slice of slices. -/
theorem OT.unfr {N : Nat} {K0 : FH} {n0 : Nat} {xs : List (List α)} (h : OT N Γ x (SlT (kcl K0 n0 d) xs)) : OT N Γ x (SlT (ksl d) xs) := fun a H f => slt_weak (d := kcl K0 n0 d) (e := ksl d) rfl cl_weak (h a H f)
theorem OT.unfr2 {N : Nat} {K0 : FH} {n0 : Nat} {xs : List (List α)} (h : OT N Γ x (FreshT K0 n0 (kcl K0 n0 d) xs)) : OT N Γ x (SlT (ksl d) xs) := OT.unfr h.fresh
/-! ### 2. Operations -/
/-- 's == nil'. -/
theorem acts_isnil {t t2 el : TypeId} {xs : List α} (hx : OT C.N Γ x (SlT d xs)) (ht : C.P.underlying t = some (.slice el)) :
    Acts C Γ L ⟨dst, .binOp .eql t x (.const nilS) t2, ty, pos, after, guard⟩ [] Bool (fun b => BoolT b) (fun _ => []) (fun b => b = true → xs = []) := by
  intro a w H f s ow Q K hK
  obtain ⟨A, c, hv, hc, hm, hr⟩ := hx a H f
  have hrun : (execOp a.eval ⟨dst, .binOp .eql t x (.const nilS) t2, ty, pos, after, guard⟩).run C.P w = .ok (.value (.bool A.isNone)) w := by
    have h1 := Lib.run_eql_slice_nil (P := C.P) w t el A xs.length c 0 0 ht
    simp only [execOp, hv, show a.eval (.const nilS) = nilS from rfl, Sem.run_bind]
    rw [show (eqGuard .eql t x (.const nilS) (.slice A xs.length c) nilS).run C.P w = .ok () w from by simp [eqGuard]]
    simp only [Result.andThen_ok, h1, Sem.run_pure]
  simp only [Oper.wp, hrun, Oper.upon_value]
  refine hK A.isNone _ w H (fun hb => ?_) (St.refl s.on) rfl Owns.nil
  cases xs with
  | nil => rfl
  | cons y ys =>
    obtain ⟨ad, _, _, _, _, e1, _⟩ := hr (by simp)
    rw [e1] at hb; cases hb
/-- 'make([]T, 0, c)'. -/
theorem acts_make {t el : TypeId} {bytes : Nat} {k1 k2 : IntKind} {n : Int} (hx : OT C.N Γ x (IntT k1 0)) (hy : OT C.N Γ y (IntT k2 n)) (ht : slTy C.P t el d.sz bytes = true) (h0 : 0 ≤ n) (h1 : n * bytes ≤ 281474976710656) (h2 : n ≤ maxLen) :
    Acts C Γ L ⟨dst, .makeSlice t x y, ty, pos, after, guard⟩ [] Value (fun r => IsV r) (fun r => [OwnI el d r []]) (fun _ => True) := by
  intro a w H f s ow Q K hK
  obtain ⟨hu, i, z, hi, hz, hsz, hby, hzs, hpos⟩ := slTy_spec ht
  have hv : a.eval x = .int k1 0 := hx a H f
  have hw : a.eval y = .int k2 n := hy a H f
  obtain ⟨c, rfl⟩ : ∃ c : Nat, n = c := ⟨n.toNat, by omega⟩
  obtain ⟨w', h3, h4, h5⟩ := run_make_own (P := C.P) w 0 t el i z d.sz hu hi hz hsz k1 k2 c (by rw [hby, Nat.mul_comm]; omega) (by omega) (Nat.zero_le _)
  have hrun : (execOp a.eval ⟨dst, .makeSlice t x y, ty, pos, after, guard⟩).run C.P w = .ok (.value (.slice (some ⟨w.heap.size, 0, none⟩) 0 c)) w' := by
    simp only [execOp, hv, hw, Sem.run_bind, h3, Result.andThen_ok, Sem.run_pure]
  simp only [Oper.wp, hrun, Oper.upon_value]
  have hsz' : w.heap.size < w'.heap.size := by
    rcases h4.2 with ⟨h6, _⟩ | ⟨g, cap, cur, h6, _, hh, _⟩
    · cases h6
    · have : g = w.heap.size := by injection h6 with h7; injection h7 with h8; injection h8 with h9; exact h9.symm
      subst this
      exact (Array.getElem?_eq_some_iff.1 hh).1
  exact hK _ _ w' H trivial (st_grown (row := none) s.on h5 fun g h => by cases h) rfl (owns_new (J := OwnI el d (.slice (some ⟨w.heap.size, 0, none⟩) 0 c) []) ⟨[], h4, Reps.nil⟩ (.inr rfl) hsz' s.on)
/-- 's[:n:n]' of all. -/
theorem pu_clip {t el : TypeId} {k1 k2 : IntKind} {xs : List α} {K0 : FH} {n0 : Nat} (hx : OT C.N Γ x (FreshT K0 n0 d xs)) (hy : OT C.N Γ y (IntT k1 xs.length)) (hz : OT C.N Γ z (IntT k2 xs.length)) (ht : C.P.underlying t = some (.slice el)) (he : tyOk C.P el d.agg d.sz = true) :
    Pure C Γ L ⟨dst, .slice t x none (some y) (some z), ty, pos, after, guard⟩ (ClipT K0 n0 d xs) := fun a w H f s ow => by
  obtain ⟨⟨A, c, hv, hc, hm, hr⟩, hfr, hrm⟩ := hx a H f
  have hi : a.eval y = .int k1 xs.length := hy a H f
  have hj : a.eval z = .int k2 xs.length := hz a H f
  have hcut := row_cut (lo := 0) (hi := xs.length) hr (by omega) (by omega) hc
  rw [List.take_length, List.drop_zero] at hcut
  have hcc : (xs.length : Int) ≤ (c : Int) := by omega
  have hadd : ∀ q : Addr, q.add (0 * d.sz) = q := fun q => by cases q; simp [Addr.add]
  have hA : (if xs.length = 0 then A else A.map (·.add (0 * d.sz))) = A := by
    split
    · rfl
    · cases A with
      | none => rfl
      | some q => rw [Option.map_some, hadd]
  refine ⟨.slice (if xs.length = 0 then A else A.map (·.add (0 * d.sz))) xs.length xs.length, ?_, ⟨⟨A, xs.length, by rw [hA], Nat.le_refl _, hm, hr⟩, ?_, ?_⟩, A, by rw [hA]⟩
  · simp [execOp, Instr.sliceAt, Instr.slice, Instr.sliceBounds, Instr.sliceBound, run_underlying ht, hv, hi, hj, asIntOf, hc, run_sizeOf he]
  · rw [hA]
    rw [show a.eval x = .slice A xs.length c from hv] at hfr
    cases A with
    | none => exact trivial
    | some q =>
      rcases hfr with h0 | h0
      · exact .inl (by omega)
      · exact .inr h0
  · rw [hA]
    rw [show a.eval x = .slice A xs.length c from hv] at hrm
    cases A with
    | none => exact trivial
    | some q =>
      intro h0
      obtain ⟨h1, cells, e, h2, h3⟩ := hrm (by omega)
      have : xs.length * d.sz ≤ c * d.sz := Nat.mul_le_mul_right _ hc
      exact ⟨h1, cells, e, h2, by omega⟩
/-! ### 3. Pieces of a row of one's own -/
def cutV (v : Value) (i sz : Nat) : Value := match v with
  | .slice (some a) n c => .slice (some ⟨a.block, i * sz, none⟩) (n - i) (c - i)
  | _ => undef
theorem pu_cut_own {t el t' : TypeId} {k : IntKind} {v : Value} {xs : List α} {i : Int} (hx : OT C.N Γ x (IsV v)) (hm : OwnI t' d v xs ∈ L) (hy : OT C.N Γ y (IntT k i)) (ht : C.P.underlying t = some (.slice el)) (he : tyOk C.P el d.agg d.sz = true) (h0 : 0 ≤ i) (h1 : i < xs.length) :
    Pure C Γ L ⟨dst, .slice t x (some y) none none, ty, pos, after, guard⟩ (IsV (cutV v i.toNat d.sz)) := fun a w H f s ow => by
  have hv : a.eval x = v := hx a H f
  have hi : a.eval y = .int k i := hy a H f
  obtain ⟨inner, ⟨h2, h3⟩, _⟩ := ow.all _ hm
  rcases h3 with ⟨rfl, hl⟩ | ⟨g, cap, cur, rfl, _, hb, hc, hmx, _⟩
  · omega
  · refine ⟨_, ?_, rfl⟩
    have hne : ¬ cap = i.toNat := by omega
    have hle : i ≤ (xs.length : Int) := by omega
    simp [execOp, Instr.sliceAt, Instr.slice, Instr.sliceBounds, Instr.sliceBound, run_underlying ht, hv, hi, asIntOf, h0, run_sizeOf he, hle, cutV, add_plain, hne]
theorem pu_len_cut {t el t' : TypeId} {v : Value} {xs : List α} {j sz : Nat} (hx : OT C.N Γ x (IsV (cutV v j sz))) (hm : OwnI t' d v xs ∈ L) (ht : C.P.underlying t = some (.slice el)) (hj : j < xs.length) : Pure C Γ L ⟨dst, .call ⟨.builtin .len, #[x], #[t]⟩, ty, pos, after, guard⟩ (I64 ((xs.length : Int) - j)) := fun a w H f s ow => by
  have h0 : a.eval x = cutV v j sz := hx a H f
  obtain ⟨inner, ⟨h2, h3⟩, _⟩ := ow.all _ hm
  rcases h3 with ⟨rfl, hl⟩ | ⟨g, cap, cur, rfl, _⟩
  · omega
  · refine ⟨.int .i64 ((xs.length - j : Nat) : Int), by simp [execOp, resolve, invoke, builtin, Builtin.len_, h0, cutV, run_underlying ht, goInt], ?_⟩
    show Value.int _ _ = Value.int _ _
    congr 1; omega
theorem pu_index_cut {t el t' : TypeId} {k : IntKind} {v : Value} {xs : List α} {i : Int} {j : Nat} (hx : OT C.N Γ x (IsV (cutV v j d.sz))) (hm : OwnI t' d v xs ∈ L) (hy : OT C.N Γ y (IntT k i)) (ht : C.P.underlying t = some (.slice el)) (he : tyOk C.P el d.agg d.sz = true) (h0 : 0 ≤ i) (h1 : (j : Int) + i < xs.length) :
    Pure C Γ L ⟨dst, .indexAddr t x y, ty, pos, after, guard⟩ (IsV (ptrAt v (((j : Int) + i).toNat * d.sz))) := fun a w H f s ow => by
  have hv : a.eval x = cutV v j d.sz := hx a H f
  have hi : a.eval y = .int k i := hy a H f
  obtain ⟨inner, ⟨h2, h3⟩, _⟩ := ow.all _ hm
  rcases h3 with ⟨rfl, hl⟩ | ⟨g, cap, cur, rfl, _⟩
  · omega
  · refine ⟨_, ?_, rfl⟩
    have hlt : i < ((xs.length - j : Nat) : Int) := by omega
    have e1 : j * d.sz + i.toNat * d.sz = ((j : Int) + i).toNat * d.sz := by rw [← Nat.add_mul]; congr 1; omega
    simp [execOp, Instr.indexAt, hi, asIntOf, run_underlying ht, hv, cutV, hlt, h0, run_sizeOf he, add_plain, ptrAt, e1]
/-- 's[:i]'. -/
theorem acts_slice_own_hi {t el t' : TypeId} {k1 : IntKind} {v : Value} {xs : List α} {i : Int} (hx : OT C.N Γ x (IsV v)) (hp : List.Perm L (OwnI t' d v xs :: R)) (hy : OT C.N Γ y (IntT k1 i)) (ht : C.P.underlying t = some (.slice el)) (he : tyOk C.P el d.agg d.sz = true) (h0 : 0 ≤ i) (h1 : i ≤ xs.length) :
    Acts C Γ L ⟨dst, .slice t x none (some y) none, ty, pos, after, guard⟩ [OwnI t' d v xs] Value (fun r => IsV r) (fun r => [OwnI t' d r (xs.take i.toNat)]) (fun _ => True) := by
  intro a w H f s ow Q K hK
  have hv : a.eval x = v := hx a H f
  have hi : a.eval y = .int k1 i := hy a H f
  have o' := ow.perm hp
  have key : ∃ r, (execOp a.eval ⟨dst, .slice t x none (some y) none, ty, pos, after, guard⟩).run C.P w = .ok (.value r) w ∧ r.ownBlock = v.ownBlock ∧ (OwnI t' d r (xs.take i.toNat)).p w H := by
    obtain ⟨inner, ⟨h2, h3⟩, h4⟩ := o'.all _ List.mem_cons_self
    rcases h3 with ⟨rfl, hl⟩ | ⟨g, cap, cur, rfl, hg0, hb, hc, hm, hs, hin⟩
    · have hx0 : xs = [] := List.eq_nil_of_length_eq_zero hl
      subst hx0
      have hi0 : i = 0 := by simp at h1; omega
      subst hi0
      exact ⟨nilS, by simp [execOp, Instr.sliceAt, Instr.slice, Instr.sliceBounds, Instr.sliceBound, run_underlying ht, hv, hi, asIntOf, run_sizeOf he], rfl, by simpa using own_nil_p⟩
    · have hcc : i ≤ (cap : Int) := by omega
      have e0 : (if cap = 0 then some (⟨g, 0, none⟩ : Addr) else (some (⟨g, 0, none⟩ : Addr)).map (·.add (0 * d.sz))) = some ⟨g, 0, none⟩ := by split <;> simp [add_plain]
      refine ⟨.slice (some ⟨g, 0, none⟩) i.toNat cap, ?_, rfl, inner.take (i.toNat * d.sz), ⟨?_, .inr ⟨g, cap, cur, ?_, hg0, hb, ?_, hm, hs, ?_⟩⟩, h4.take _ (by omega)⟩
      · have : (execOp a.eval ⟨dst, .slice t x none (some y) none, ty, pos, after, guard⟩).run C.P w = .ok (.value (.slice (if cap = 0 then some ⟨g, 0, none⟩ else (some (⟨g, 0, none⟩ : Addr)).map (·.add (0 * d.sz))) i.toNat cap)) w := by
          simp [execOp, Instr.sliceAt, Instr.slice, Instr.sliceBounds, Instr.sliceBound, run_underlying ht, hv, hi, asIntOf, h0, run_sizeOf he, hcc]
        rw [e0] at this; exact this
      · have : i.toNat * d.sz ≤ xs.length * d.sz := Nat.mul_le_mul_right _ (by omega)
        rw [List.length_take, List.length_take, h4.1, Nat.min_eq_left this, Nat.min_eq_left (by omega)]
      · rw [List.length_take, Nat.min_eq_left (by omega)]
      · rw [List.length_take]; omega
      · have : i.toNat * d.sz ≤ xs.length * d.sz := Nat.mul_le_mul_right _ (by omega)
        rw [List.length_take, Nat.min_eq_left (by omega), ← hin, List.take_take, Nat.min_eq_left this]
  obtain ⟨r, hr, hb, hq⟩ := key
  simp only [Oper.wp, hr, Oper.upon_value]
  exact hK r r w H trivial (St.refl s.on) rfl (owns_same (M := noM) o' hb hq)
end
end Go.Gw
/- Typed walks: the tail of a row of one's own is cleared; a new row by append of make. Over any program. -/
namespace Go.Gw
open Go
set_option linter.unusedVariables false
set_option linter.unusedSimpArgs false
section
variable {C : Cx} {Γ : Env} {L R : List It} {Q : Exit → Act → World → Prop} {ops : Array Oper} {rest : List Oper}
variable {dst : Option Tmp} {ty : TypeId} {pos : String} {after : Array Edge} {guard : Option (Nat × Bool)} {x y z : Operand}
variable {α β : Type} {d : Kd α} {e : Kd β}
theorem acts_clear_cut {t el : TypeId} {v : Value} {xs : List α} {v0 : α} {j : Nat} (hx : OT C.N Γ x (IsV (cutV v j d.sz))) (hp : List.Perm L (OwnI el d v xs :: R)) (ht : C.P.underlying t = some (.slice el)) (he : tyOk C.P el d.agg d.sz = true) (hz : ZeroOf C.P el d v0) (hd : 0 < d.sz) (hj : j < xs.length) :
    Acts C Γ L ⟨dst, .call ⟨.builtin .clear, #[x], #[t]⟩, ty, pos, after, guard⟩ [OwnI el d v xs] Unit (fun _ => AnyT) (fun _ => [OwnI el d v (xs.take j ++ List.replicate (xs.length - j) v0)]) (fun _ => True) := by
  intro a w H f s ow Q K hK
  have hv : a.eval x = cutV v j d.sz := hx a H f
  have o' := ow.perm hp
  obtain ⟨b, cap, cur, cs, rfl, hb, hR, hS, hcs, hcap, hcm, hcc⟩ := own_stand (o'.all _ List.mem_cons_self) (by omega)
  have hown := o'.own b (blk_mem (i := OwnI el d (.slice (some ⟨b, 0, none⟩) xs.length cap) xs) List.mem_cons_self rfl)
  obtain ⟨zv, h1, h2⟩ := rep_zeros hz he hd (xs.length - j) w H
  have hsz : zv.cells.size = d.sz := by
    obtain ⟨zv', h3, h4⟩ := run_zero (w := w) hz
    obtain ⟨cs', h5, _, h6⟩ := cells_of_T (h4 H)
    rw [h1] at h3
    have : zv = zv' := by injection h3
    subst this
    rw [h6]; simpa using d.len h5
  have hzc : (Builtin.zeroCells zv.cells (xs.length - j)).toList = (((Array.range ((xs.length - j) * d.sz)).map (zv.cells[· % zv.cells.size]!)).toList) := by
    unfold Builtin.zeroCells; rw [hsz]
  have hlen := h2.1
  rw [List.length_replicate] at hlen
  have hle : xs.length * d.sz ≤ cap * d.sz := Nat.mul_le_mul_right _ hcap
  have hjl : j * d.sz ≤ xs.length * d.sz := Nat.mul_le_mul_right _ (by omega)
  have hsub : (xs.length - j) * d.sz = xs.length * d.sz - j * d.sz := Nat.sub_mul _ _ _
  have hst := run_storeCells_at C.P b (j * d.sz) el (Builtin.zeroCells zv.cells (xs.length - j)).toList 0 cur w hb (by rw [hzc, hlen, hsub, hcs]; omega) (by rw [hzc]; exact Reps.cells h2)
  simp only [Nat.add_zero] at hst
  rw [hzc] at hst
  obtain ⟨n, hn⟩ : ∃ n, xs.length - j = n + 1 := ⟨xs.length - j - 1, by omega⟩
  have hrun : (execOp a.eval ⟨dst, .call ⟨.builtin .clear, #[x], #[t]⟩, ty, pos, after, guard⟩).run C.P w = .ok (.value (.tuple #[])) (w.setRow b (cur.toList.take (j * d.sz) ++ (((Array.range ((xs.length - j) * d.sz)).map (zv.cells[· % zv.cells.size]!)).toList) ++ cur.toList.drop (j * d.sz + (xs.length - j) * d.sz)).toArray) := by
    rw [hlen] at hst
    rw [← hzc] at hst ⊢
    simp only [execOp, resolve, invoke, builtin, hv, cutV, List.map_toArray, List.map_cons, List.map_nil, Sem.run_bind, Sem.run_pure, Result.andThen_ok]
    rw [hn] at hst ⊢
    simp [Builtin.clear_, run_underlying ht, h1, hst]
  simp only [Oper.wp, hrun, Oper.upon_value]
  have hmem : b ∈ blks [OwnI el d (.slice (some ⟨b, 0, none⟩) xs.length cap) xs] := blk_mem (i := OwnI el d (.slice (some ⟨b, 0, none⟩) xs.length cap) xs) List.mem_cons_self rfl
  have hl2 : (xs.take j ++ List.replicate (xs.length - j) v0).length = xs.length := by
    rw [List.length_append, List.length_take, List.length_replicate]; omega
  have hRn := (hR.take j (by omega)).append h2
  refine hK () _ _ H trivial (st_setRow s.on hown.2.1 hmem _) trivial ⟨?_, by simp [blks, OwnI, Value.ownBlock], ?_⟩
  · intro it hit
    rw [List.mem_singleton.1 hit]
    refine ⟨_, ⟨?_, .inr ⟨b, cap, _, ?_, Nat.zero_le _, setRow_heap w b _ _ el _ hb, ?_, hcm, ?_, ?_⟩⟩, hRn⟩
    · rw [hRn.1]
    · rw [hl2]
    · rw [hl2]; exact hcap
    · have hcl : cur.toList.length = cap * d.sz := by simpa using hcs
      simp only [List.size_toArray, List.length_append, List.length_take, List.length_drop, hlen, hcl]
      omega
    · rw [hl2, hcc, List.take_take, Nat.min_eq_left hjl]
      have hlen3 : (cur.toList.take (j * d.sz) ++ (((Array.range ((xs.length - j) * d.sz)).map (zv.cells[· % zv.cells.size]!)).toList)).length = xs.length * d.sz := by
        rw [List.length_append, hlen, List.length_take, Array.length_toList, hcs, hsub]; omega
      rw [List.toList_toArray, ← hlen3]
      exact List.take_left
  · intro g' hg'
    have : g' = b := by simpa [blks, OwnI, Value.ownBlock] using hg'
    subst this
    exact ⟨by simpa using hown.1, hown.2.1, .inl hmem⟩
/-- 'append(nil, make([]T, n)...)'. -/
theorem acts_append_make {t tn el : TypeId} {bytes : Nat} {kq kn : IntKind} {n : Int} {v0 : α} (hx : OT C.N Γ x (IsV nilS)) (hy : OT C.N Γ y (IntT kq n)) (ht : slTy C.P t el d.sz bytes = true) (htn : C.P.underlying tn = some (.int kn)) (he : tyOk C.P el d.agg d.sz = true) (hz : ZeroOf C.P el d v0) (h0 : 0 < n) (hb : n * bytes ≤ 281474976710656) (hm : n ≤ maxLen) :
    Acts C Γ L ⟨dst, .call ⟨.builtin .append, #[x, y], #[t, tn]⟩, ty, pos, after, guard⟩ [] Value (fun r => IsV r) (fun r => [OwnI el d r (List.replicate n.toNat v0)]) (fun _ => True) := by
  intro a w H f s ow Q K hK
  obtain ⟨hu, i, z, hi, hzi, hsz, hby, hzs, hpos⟩ := slTy_spec ht
  have hv : a.eval x = nilS := hx a H f
  have hw : a.eval y = .int kq n := hy a H f
  obtain ⟨k, rfl⟩ : ∃ c : Nat, n = c := ⟨n.toNat, by omega⟩
  have hm' : k ≤ maxLen := by omega
  have hbk : k * i.bytes ≤ 281474976710656 := by rw [hby]; omega
  have h63 : ((0 + k : Nat) : Int) ≤ 9223372036854775807 := by simp only [maxLen] at hm'; omega
  have hcapn : Builtin.nextslicecap (0 + k) 0 = k := by unfold Builtin.nextslicecap; rw [if_pos (by omega)]; omega
  have hr := Lib.run_append_grow_zeros (P := C.P) w t tn ty el i z kq kn hu htn hi hzi none 0 0 [] (by simp [Builtin.firstCells]) k (by omega) (by omega) (by omega) h63 hbk (by rw [hcapn]; exact hbk)
  simp only [Nat.zero_add] at hr
  have hrun : (execOp a.eval ⟨dst, .call ⟨.builtin .append, #[x, y], #[t, tn]⟩, ty, pos, after, guard⟩).run C.P w = .ok (.value (.slice (some ⟨w.heap.size, 0, none⟩) k (grownCap w k 0 el))) (w.drew.alloc (.cells (([] : List Value).toArray ++ Builtin.zeroCells z.cells k ++ Builtin.zeroCells z.cells (grownCap w k 0 el - k)) el)) := by
    simp only [execOp, resolve, invoke, builtin, hv, hw, List.map_toArray, List.map_cons, List.map_nil, Sem.run_bind, Sem.run_pure, Result.andThen_ok, hr]
  simp only [Oper.wp, hrun, Oper.upon_value]
  obtain ⟨zv, h1, h2⟩ := rep_zeros hz he (by omega) k w H
  have hzz : zv = z := by
    have : (zeroValue el).run C.P w = .ok z w := by simp [zeroValue, typeInfo, hi, hzi]
    rw [this] at h1; injection h1 with h1; exact h1.symm
  subst hzz
  have hzc : (Builtin.zeroCells zv.cells k).toList = (((Array.range (k * d.sz)).map (zv.cells[· % zv.cells.size]!)).toList) := by
    unfold Builtin.zeroCells; rw [hzs]
  have hge := grownCap_ge w k 0 el
  have hcm : grownCap w k 0 el ≤ maxLen := grownCap_le_maxLen w k 0 el hm'
  have hg : w.grownBy (w.drew.alloc (.cells (([] : List Value).toArray ++ Builtin.zeroCells zv.cells k ++ Builtin.zeroCells zv.cells (grownCap w k 0 el - k)) el)) none := ⟨rfl, rfl, rfl, by simp, fun k hk _ => heap_alloc_old w.drew _ hk⟩
  have hlen := h2.1
  rw [List.length_replicate] at hlen
  refine hK _ _ _ H trivial (st_grown (row := none) s.on hg fun g h => by cases h) rfl (owns_new (J := OwnI el d (.slice (some ⟨w.heap.size, 0, none⟩) k (grownCap w k 0 el)) (List.replicate k v0)) ⟨_, ⟨?_, .inr ⟨w.heap.size, grownCap w k 0 el, _, ?_, Nat.zero_le _, heap_alloc_new w.drew _, ?_, hcm, ?_, ?_⟩⟩, h2⟩ (.inr rfl) (by simp) s.on)
  · rw [hlen, List.length_replicate]
  · rw [List.length_replicate]
  · rw [List.length_replicate]; exact hge
  · simp only [Array.size_append, List.size_toArray, List.length_nil, size_zeroCells, hzs, Nat.zero_add, ← Nat.add_mul]
    congr 1; omega
  · rw [List.length_replicate, ← hzc]
    simp only [Array.toList_append, List.toList_toArray, List.nil_append]
    have : (Builtin.zeroCells zv.cells k).toList.length = k * d.sz := by rw [hzc, hlen]
    rw [← this]; exact List.take_left
end
end Go.Gw
/- Typed walks: two results, the first of which lies in a variable. Over any program. -/
namespace Go.Gw
open Go
set_option linter.unusedVariables false
set_option linter.unusedSimpArgs false
section
variable {Γ : Env} {L J : List It} {α : Type} {d : Kd α}
theorem ret_cell_tmp {fn : Func} {ρ : Type} {T : ρ → Ty} {I : ρ → List It} {φ : ρ → Prop} {P : Program} {N : Nat} {H0 : FH} {w0 : World} (e : Exit) (he : e = .ret ∨ e = .normal) {t u : Nat} {tt t' : TypeId} {b : Nat} {v : α} {B : Ty} (hres : fn.results = #[.cell t tt, .tmp u]) (r : ρ) (hx : OT N Γ (.tmp t) (IsV (pt b 0))) (hm : BlkI b t' d v ∈ L) (ht : tyOk P tt d.agg d.sz = true) (hB : OT N Γ (.tmp u) B) (hT : ∀ H v', (TupT [d.T v, B]).p H v' → (T r).p H v') (hφ : φ r) (hI : ∃ R, List.Perm L (I r ++ R)) :
    Tr ⟨P, N, fun g => g ∈ blks J, H0, w0⟩ Γ L (bodyPost P fn (post J H0 w0 ρ T I φ) e) :=
  ret_post e he r hφ hI fun a w H f s ow => by
    have hv : a.eval (.tmp t) = pt b 0 := hx a H f
    obtain ⟨cs, hK, hb⟩ := ow.all _ hm
    have hl := d.len hK
    have hload := run_loadVar (P := P) (w := w) (t := tt) (agg := d.agg) (cs := cs) (g := b) (off := 0) (by rw [hl]; exact ht) (fun h => by rw [hl]; exact d.szone h) hb (fun i u h => by simpa using h)
    refine ⟨.tuple [mkV d.agg cs, a.eval (.tmp u)].toArray, ?_, hT _ _ ⟨_, rfl, d.toT hK, hB a H f, trivial⟩⟩
    simp only [Act.eval] at hv
    simp only [Array.getD_eq_getD_getElem?] at hv
    simp [results, hres, hv, asAddr, hload, pt, Act.eval]
end
end Go.Gw
namespace Go.Gw
open Go
theorem Ct.pre {P : Program} {f : FuncId} {As : List Ty} {J : List It} {ρ : Type} {T : ρ → Ty} {I : ρ → List It} {φ : ρ → Prop} {p : Prop} (hA : ∀ H vs, AllP H As vs → p) (h : p → Ct P f As J ρ T I φ) : Ct P f As J ρ T I φ := fun H w args hon hAl hO => h (hA H args hAl) H w args hon hAl hO
theorem Ct.args {P : Program} {f : FuncId} {As Bs : List Ty} {J : List It} {ρ : Type} {T : ρ → Ty} {I : ρ → List It} {φ : ρ → Prop} (hA : ∀ H vs, AllP H Bs vs → AllP H As vs) (h : Ct P f As J ρ T I φ) : Ct P f Bs J ρ T I φ := fun H w args hon hAl hO => h H w args hon (hA H args hAl) hO
theorem two_len {α β : Type} {d : Kd α} {e : Kd β} {xs : List α} {ys : List β} : ∀ (H : FH) (vs : List Value), AllP H [SlT d xs, SlT e ys] vs → xs.length ≤ maxLen ∧ ys.length ≤ maxLen
  | _, [], h => h.elim
  | _, [_], h => h.2.elim
  | _, [_, _], ⟨⟨_, _, _, _, h1, _⟩, ⟨_, _, _, _, h2, _⟩, _⟩ => ⟨h1, h2⟩
  | _, _ :: _ :: _ :: _, h => h.2.2.elim
theorem one_len {α : Type} {d : Kd α} {xs : List α} : ∀ (H : FH) (vs : List Value), AllP H [SlT d xs] vs → xs.length ≤ maxLen
  | _, [], h => h.elim
  | _, [_], ⟨⟨_, _, _, _, h1, _⟩, _⟩ => h1
  | _, _ :: _ :: _, h => h.2.elim
theorem two_fresh {α β : Type} {d : Kd α} {e : Kd β} {K0 : FH} {n0 : Nat} {xs : List α} {ys : List β} : ∀ (H : FH) (vs : List Value), AllP H [ClipT K0 n0 d xs, ClipT K0 n0 e ys] vs → AllP H [SlT d xs, SlT e ys] vs
  | _, [], h => h
  | _, [_], h => h.2.elim
  | _, [_, _], ⟨h1, h2, _⟩ => ⟨h1.1.1, h2.1.1, trivial⟩
  | _, _ :: _ :: _ :: _, h => h.2.2.elim
end Go.Gw
namespace Go.Gw
open Go
set_option linter.unusedVariables false
section
variable {C : Cx} {Γ : Env} {L R : List It} {dst : Option Tmp} {ty : TypeId} {pos : String} {after : Array Edge} {guard : Option (Nat × Bool)} {x y z : Operand}
theorem pu_len_nil {t el : TypeId} (hx : OT C.N Γ x (IsV nilS)) (ht : C.P.underlying t = some (.slice el)) : Pure C Γ L ⟨dst, .call ⟨.builtin .len, #[x], #[t]⟩, ty, pos, after, guard⟩ (I64 0) := fun a w H f s ow => by
  have h0 : a.eval x = nilS := hx a H f
  exact ⟨_, by simp [execOp, resolve, invoke, builtin, Builtin.len_, h0, run_underlying ht, goInt], rfl⟩
theorem pu_cap_nil {t el : TypeId} (hx : OT C.N Γ x (IsV nilS)) (ht : C.P.underlying t = some (.slice el)) : Pure C Γ L ⟨dst, .call ⟨.builtin .cap, #[x], #[t]⟩, ty, pos, after, guard⟩ (I64 0) := fun a w H f s ow => by
  have h0 : a.eval x = nilS := hx a H f
  exact ⟨_, by simp [execOp, resolve, invoke, builtin, Builtin.cap_, h0, run_underlying ht, goInt], rfl⟩
theorem pu_slice_nil {t el : TypeId} {k : IntKind} {agg : Bool} {sz : Nat} (hx : OT C.N Γ x (IsV nilS)) (hy : OT C.N Γ y (IntT k 0)) (ht : C.P.underlying t = some (.slice el)) (he : tyOk C.P el agg sz = true) : Pure C Γ L ⟨dst, .slice t x none (some y) none, ty, pos, after, guard⟩ (IsV nilS) := fun a w H f s ow => by
  have hv : a.eval x = nilS := hx a H f
  have hi : a.eval y = .int k 0 := hy a H f
  exact ⟨nilS, by simp [execOp, Instr.sliceAt, Instr.slice, Instr.sliceBounds, Instr.sliceBound, run_underlying ht, hv, hi, asIntOf, run_sizeOf he], rfl⟩
end
end Go.Gw
namespace Go.Gw
open Go
set_option linter.unusedVariables false
theorem caps_nil {N : Nat} {Γ : Env} : capsOf N Γ [] [] := trivial
theorem caps_cons {N : Nat} {Γ : Env} {x : Operand} {v : Value} {xs : List Operand} {vs : List Value} (h : OT N Γ x (IsV v)) (hs : capsOf N Γ xs vs) : capsOf N Γ (x :: xs) (v :: vs) := ⟨h, hs⟩
theorem CtM.freeze {K0 : FH} {n0 : Nat} {P : Program} {f : FuncId} {As : List Ty} {α : Type} {d : Kd α} {t : TypeId} {xs : List α} {φ : Value → Prop} (h : CtM K0 n0 P f As [] Value (fun v => IsV v) (fun v => [OwnI t d v xs]) φ) : CtM K0 n0 P f As [] Unit (fun _ => FreshT K0 n0 d xs) (fun _ => []) (fun _ => True) := by
  intro H w args hK hn hon hA hO
  refine (h H w args hK hn hon hA hO).mono ?_
  rintro e w' ⟨r, v, H', rfl, _, s, hv, ho⟩
  have hv' : v = r := hv
  subst hv'
  have hb : ∀ g, v.ownBlock = some g → g < w'.heap.size ∧ H' g = none ∧ (g ∈ blks [] ∨ w.heap.size ≤ g) := fun g hg => ho.own g (blk_mem (i := OwnI t d v xs) List.mem_cons_self hg)
  have hfr : FreshV K0 n0 v := by
    obtain ⟨inner, ⟨_, h2⟩, _⟩ := ho.all _ List.mem_cons_self
    rcases h2 with ⟨rfl, _⟩ | ⟨g, cap, cur, rfl, _⟩
    · exact trivial
    · obtain ⟨_, h4, h5⟩ := hb g rfl
      refine .inr ⟨?_, Nat.le_trans hn (h5.resolve_left blks_nil)⟩
      show K0 g = none
      cases e : K0 g with
      | none => rfl
      | some o => have := s.sub g o (hK g o e); rw [h4] at this; cases this
  obtain ⟨H'', h1, h2, h3, h4, h6⟩ := own_frozenF (ho.all _ List.mem_cons_self) (fun g hg => (hb g hg).2.1) s.on
  refine ⟨(), v, H'', rfl, trivial, ⟨s.sub.trans h1, h2, s.os, s.tape, s.output, s.size, s.keep, fun k o e => ?_⟩, ⟨h4, hfr, h6⟩, Owns.nil⟩
  rcases h3 k o e with e | e
  · exact s.new k o e
  · rcases (hb k e).2.2 with h5 | h5
    · exact absurd h5 blks_nil
    · exact .inr (.inl h5)
end Go.Gw
namespace Go.Gw
open Go Go.ChangeShapes Go.WideShapes Go.RowKit
set_option linter.unusedVariables false
theorem opn_struct2 {P : Program} {α β : Type} {a : Kd α} {b : Kd β} {g0 : α → Prop} {g1 : β → Prop} {t : TypeId} {f0 f1 : Field} (ht : P.underlying t = some (.struct #[f0, f1])) (h0 : Opn P f0.type a g0) (h1 : Opn P f1.type b g1)
    (o0 : f0.offset = 0) (o1 : f1.offset = a.sz) (s0 : P.cellsOf f0.type = a.sz) (s1 : P.cellsOf f1.type = b.sz) (s : P.cellsOf t = a.sz + b.sz) : Opn P t (kpair a b) (fun x => g0 x.1 ∧ g1 x.2) := fun Hh enc w fuel cs x h => by
  obtain ⟨y0, y1, n, _, hl, e0, e1⟩ := trod_struct2 ht h
  rw [o0, s0, List.drop_zero] at e0
  rw [o1, s1] at e1
  obtain ⟨u, hu, gu⟩ := h0 Hh enc w n _ _ e0
  obtain ⟨v, hv, gv⟩ := h1 Hh enc w n _ _ e1
  refine ⟨(u, v), ⟨_, _, hu, hv, ?_⟩, gu, gv⟩
  rw [List.take_of_length_le (l := cs.drop a.sz) (by rw [List.length_drop]; omega), List.take_append_drop]
end Go.Gw
/- Typed walks: texts as lists of bytes: joined, compared, read byte by byte, cut, converted; error values that are nil or not; library contracts that only make memory. Over any program. -/
namespace Go.Gw
open Go
set_option linter.unusedVariables false
set_option linter.unusedSimpArgs false
/-! ### 1. Texts as lists of bytes -/
abbrev bs (l : List UInt8) : ByteArray := ⟨l.toArray⟩
abbrev BsT (l : List UInt8) : Ty := StrT (bs l)
theorem bs_of (s : ByteArray) : bs s.data.toList = s := by cases s; simp [bs]
theorem bs_append (a b : List UInt8) : bs a ++ bs b = bs (a ++ b) := by
  apply ByteArray.ext; simp [bs]
theorem bs_inj {a b : List UInt8} : bs a = bs b ↔ a = b := by
  constructor
  · intro h
    have := congrArg (fun s => s.data.toList) h
    simpa [bs] using this
  · rintro rfl; rfl
theorem bs_size (l : List UInt8) : (bs l).size = l.length := by simp [bs, ByteArray.size]
/-- A text's bytes, as numbers. -/
abbrev nums (l : List UInt8) : List Int := l.map fun b => (b.toNat : Int)
abbrev unnum (xs : List Int) : List UInt8 := xs.map fun n => UInt8.ofNat n.toNat
theorem unnum_nums (l : List UInt8) : unnum (nums l) = l := by
  unfold unnum nums
  rw [List.map_map]
  conv => rhs; rw [← List.map_id l]
  refine List.map_congr_left fun b _ => ?_
  simp
abbrev kS : Kd (List UInt8) := scalar (fun l => Value.string (bs l)) fun _ => rfl
section
variable {C : Cx} {Γ : Env} {L R : List It} {dst : Option Tmp} {ty : TypeId} {pos : String} {after : Array Edge} {guard : Option (Nat × Bool)} {x y z : Operand}
theorem pu_bs_add {t t2 : TypeId} {u v : List UInt8} (hx : OT C.N Γ x (BsT u)) (hy : OT C.N Γ y (BsT v)) (hl : u.length + v.length ≤ 9223372036854775807) : Pure C Γ L ⟨dst, .binOp .add t x y t2, ty, pos, after, guard⟩ (BsT (u ++ v)) :=
  (pu_str_add hx hy (by rw [bs_size, bs_size]; exact hl)).val (by rw [bs_append])
theorem beq_bs (u v : List UInt8) : ((bs u).toList == (bs v).toList) = decide (u = v) := by
  rw [ByteArray.toList_eq, ByteArray.toList_eq]
  simp only [bs]
  by_cases h : u = v <;> simp [h]
theorem pu_bs_eql {t t2 : TypeId} {u v : List UInt8} (hx : OT C.N Γ x (BsT u)) (hy : OT C.N Γ y (BsT v)) : Pure C Γ L ⟨dst, .binOp .eql t x y t2, ty, pos, after, guard⟩ (BoolT (decide (u = v))) :=
  (pu_str_eql hx hy).val (by rw [beq_bs])
theorem pu_bs_neq {t t2 : TypeId} {u v : List UInt8} (hx : OT C.N Γ x (BsT u)) (hy : OT C.N Γ y (BsT v)) : Pure C Γ L ⟨dst, .binOp .neq t x y t2, ty, pos, after, guard⟩ (BoolT (decide (u ≠ v))) :=
  (pu_str_neq hx hy).val (by rw [beq_bs]; by_cases h : u = v <;> simp [h])
theorem pu_len_bs {t : TypeId} {u : List UInt8} (ht : C.P.underlying t = some .string) (hx : OT C.N Γ x (BsT u)) : Pure C Γ L ⟨dst, .call ⟨.builtin .len, #[x], #[t]⟩, ty, pos, after, guard⟩ (I64 u.length) :=
  (pu_len_str ht hx).val (by rw [bs_size])
theorem pu_bs_index {t : TypeId} {k : IntKind} {l : List UInt8} {i : Int} (hx : OT C.N Γ x (BsT l)) (hy : OT C.N Γ y (IntT k i)) (ht : C.P.underlying t = some .string) (h0 : 0 ≤ i) (h1 : i < l.length) :
    Pure C Γ L ⟨dst, .index t x y, ty, pos, after, guard⟩ (IntT .u8 (at' (nums l) i)) := fun a w H f s' ow => by
  have hv : a.eval x = .string (bs l) := hx a H f
  have hi : a.eval y = .int k i := hy a H f
  have hlt : i.toNat < l.length := by omega
  have hlt2 : i.toNat < (bs l).size := by rw [bs_size]; exact hlt
  have e1 : (bs l)[i.toNat]? = some l[i.toNat] := by
    rw [getElem?_pos (bs l) i.toNat hlt2]; rfl
  refine ⟨.int .u8 (l[i.toNat]).toNat, ?_, ?_⟩
  · simp [execOp, Instr.index, hi, hv, asIntOf, run_underlying ht, h0, e1]
  · show Value.int _ _ = Value.int _ _
    congr 1
    simp [at', nums, List.getD_eq_getElem?_getD, hlt]
theorem bs_extract (l : List UInt8) (i j : Nat) : (bs l).extract i j = bs ((l.take j).drop i) := by
  apply ByteArray.ext
  simp [bs]
  rw [List.drop_take]
theorem pu_bs_slice {t : TypeId} {k1 k2 : IntKind} {l : List UInt8} {i j : Int} (hx : OT C.N Γ x (BsT l)) (hy : OT C.N Γ y (IntT k1 i)) (hz : OT C.N Γ z (IntT k2 j)) (ht : C.P.underlying t = some .string) (h0 : 0 ≤ i) (h1 : i ≤ j) (h2 : j ≤ l.length) :
    Pure C Γ L ⟨dst, .slice t x (some y) (some z) none, ty, pos, after, guard⟩ (BsT ((l.take j.toNat).drop i.toNat)) := fun a w H f s' ow => by
  have hv : a.eval x = .string (bs l) := hx a H f
  have hi : a.eval y = .int k1 i := hy a H f
  have hj : a.eval z = .int k2 j := hz a H f
  have hs := bs_size l
  have h3 : 0 ≤ j := by omega
  have h4 : i ≤ ((j.toNat : Nat) : Int) := by omega
  have h5 : max j 0 = j := by omega
  refine ⟨.string ((bs l).extract i.toNat j.toNat), by simp [execOp, Instr.sliceAt, Instr.slice, Instr.sliceBounds, Instr.sliceBound, run_underlying ht, hv, hi, hj, asIntOf, h0, h1, h2, h3, h4, h5, hs], ?_⟩
  show Value.string _ = Value.string _
  rw [bs_extract]
theorem pu_bs_slice_lo {t : TypeId} {k1 : IntKind} {l : List UInt8} {i : Int} (hx : OT C.N Γ x (BsT l)) (hy : OT C.N Γ y (IntT k1 i)) (ht : C.P.underlying t = some .string) (h0 : 0 ≤ i) (h1 : i ≤ l.length) :
    Pure C Γ L ⟨dst, .slice t x (some y) none none, ty, pos, after, guard⟩ (BsT (l.drop i.toNat)) := fun a w H f s' ow => by
  have hv : a.eval x = .string (bs l) := hx a H f
  have hi : a.eval y = .int k1 i := hy a H f
  have hs := bs_size l
  refine ⟨.string ((bs l).extract i.toNat l.length), by simp [execOp, Instr.sliceAt, Instr.slice, Instr.sliceBounds, Instr.sliceBound, run_underlying ht, hv, hi, asIntOf, h0, h1, hs], ?_⟩
  show Value.string _ = Value.string _
  have e : bs (l.drop i.toNat) = bs ((l.take l.length).drop i.toNat) := by rw [List.take_length]
  rw [e, ← bs_extract]
theorem pu_bs_slice_hi {t : TypeId} {k2 : IntKind} {l : List UInt8} {j : Int} (hx : OT C.N Γ x (BsT l)) (hz : OT C.N Γ z (IntT k2 j)) (ht : C.P.underlying t = some .string) (h0 : 0 ≤ j) (h1 : j ≤ l.length) :
    Pure C Γ L ⟨dst, .slice t x none (some z) none, ty, pos, after, guard⟩ (BsT (l.take j.toNat)) := fun a w H f s' ow => by
  have hv : a.eval x = .string (bs l) := hx a H f
  have hj : a.eval z = .int k2 j := hz a H f
  have hs := bs_size l
  refine ⟨.string ((bs l).extract 0 j.toNat), by simp [execOp, Instr.sliceAt, Instr.slice, Instr.sliceBounds, Instr.sliceBound, run_underlying ht, hv, hj, asIntOf, h0, h1, hs], ?_⟩
  show Value.string _ = Value.string _
  have e : bs (l.take j.toNat) = bs ((l.take j.toNat).drop 0) := by rw [List.drop_zero]
  rw [e, ← bs_extract]
/-! ### 2. Conversions -/
/-- '[]byte(s)', to be read. -/
theorem acts_bs_bytes {src tt el : TypeId} {u : TypeDesc} {l : List UInt8} (hx : OT C.N Γ x (BsT l)) (hs : C.P.underlying src = some u) (hd : C.P.underlying tt = some (.slice el)) (he : C.P.underlying el = some (.int .u8)) (hm : l.length ≤ maxLen) :
    Acts C Γ L ⟨dst, .convert src tt x, ty, pos, after, guard⟩ [] Unit (fun _ => SlT (kint .u8) (nums l)) (fun _ => []) (fun _ => True) := by
  intro a w H f s' ow Q K hK
  have hsz := bs_size l
  generalize hsd : bs l = s at hsz
  have hdl : s.data.toList = l := by rw [← hsd]
  have hv : a.eval x = .string s := by rw [← hsd]; exact hx a H f
  have hr := Lib.run_convert_string_bytes (P := C.P) w src tt el s hs hd he
  have hrun : (execOp a.eval ⟨dst, .convert src tt x, ty, pos, after, guard⟩).run C.P w = .ok (.value (.slice (some ⟨w.heap.size, 0, none⟩) s.size (grownCap w s.size 0 el))) (Lib.bytesWorld w el s) := by
    simp only [execOp, hv, Sem.run_bind, hr, Result.andThen_ok, Sem.run_pure]
  simp only [Oper.wp, hrun, Oper.upon_value]
  have hge := grownCap_ge w s.size 0 el
  have hnew := fh_new s'.on
  have hH : Sub H (addH H w.heap.size (.cells (Lib.bytesCells w el s) el ((Lib.bytesCells w el s).size, (Lib.bytesCells w el s).size + 1))) := addH_sub hnew
  refine hK () _ _ (addH H w.heap.size (.cells (Lib.bytesCells w el s) el ((Lib.bytesCells w el s).size, (Lib.bytesCells w el s).size + 1))) trivial ⟨hH, addH_on (fun k o e => ?_) (Lib.bytesWorld_at_new w el s), rfl, rfl, rfl, by rw [Lib.bytesWorld_size]; omega, fun k hk _ => Lib.bytesWorld_at_old w el s k hk, fun k o e => ?_⟩ ⟨some ⟨w.heap.size, 0, none⟩, grownCap w s.size 0 el, ?_, ?_, ?_, fun h0 => ⟨⟨w.heap.size, 0, none⟩, _, _, _, (nums l).map (Value.int .u8), rfl, rfl, show addH H w.heap.size _ w.heap.size = _ by unfold addH; rw [if_pos rfl], ⟨by rw [List.length_map]; exact (Nat.mul_one _).symm, fun j v hj => ?_⟩, fun j v hj => ?_⟩⟩ Owns.nil
  · rw [Lib.bytesWorld_at_old w el s k (s'.on.lt e)]; exact s'.on k o e
  · unfold addH at e
    by_cases hk : k = w.heap.size
    · exact .inr (.inl (Nat.le_of_eq hk.symm))
    · rw [if_neg hk] at e; exact .inl e
  · simp [hsz]
  · simp [hsz] at hge ⊢; exact hge
  · simpa using hm
  · have : (kint .u8).sz = 1 := rfl
    rw [this, Nat.mul_one]
    show (((nums l).map (Value.int .u8)).drop j).take 1 = [Value.int .u8 v]
    have h2 : ((nums l).map (Value.int .u8))[j]? = some (Value.int .u8 v) := by rw [List.getElem?_map, hj]; rfl
    obtain ⟨h3, h4⟩ := List.getElem?_eq_some_iff.1 h2
    rw [List.drop_eq_getElem_cons h3, List.take_succ_cons, List.take_zero, h4]
  · rw [Nat.zero_add]
    have hlt : j < s.size := by
      have := (List.getElem?_eq_some_iff.1 hj).1; simpa [hsz] using this
    unfold Lib.bytesCells
    rw [Array.getElem?_append_left (by rw [Array.size_map]; exact hlt)]
    rw [List.getElem?_map, List.getElem?_map] at hj
    rw [Array.getElem?_map, ← Array.getElem?_toList, hdl]
    simpa [Function.comp] using hj
theorem push_fold (ns : List Int) : ∀ s : ByteArray, ns.foldl (fun r n => r.push (UInt8.ofNat n.toNat)) s = bs (s.data.toList ++ unnum ns) := by
  induction ns with
  | nil => intro s; simp [bs_of]
  | cons n ns ih =>
    intro s
    rw [List.foldl_cons, ih]
    have e : (s.push (UInt8.ofNat n.toNat)).data.toList = s.data.toList ++ [UInt8.ofNat n.toNat] := by
      show (s.data.push _).toList = _
      rw [Array.toList_push]
    rw [e, List.append_assoc]; rfl
/-- 'string(b)'. -/
theorem pu_bytes_bs {src tt el : TypeId} {xs : List Int} (hx : OT C.N Γ x (SlT (kint .u8) xs)) (hs : C.P.underlying src = some (.slice el)) (he : C.P.underlying el = some (.int .u8)) (hd : C.P.underlying tt = some .string) :
    Pure C Γ L ⟨dst, .convert src tt x, ty, pos, after, guard⟩ (BsT (unnum xs)) := fun a w H f s' ow => by
  obtain ⟨A, c, hv, h1, h2, h3⟩ := hx a H f
  refine ⟨.string (bs (unnum xs)), ?_, rfl⟩
  cases xs with
  | nil =>
    cases A with
    | none =>
      have := run_convert_bytes_nil (P := C.P) (w := w) src el hs he 0 c tt hd
      simp only [execOp, hv, List.length_nil, Sem.run_bind, this, Result.andThen_ok, Sem.run_pure]; rfl
    | some A =>
      have hr : (convert src tt (.slice (some A) 0 c)).run C.P w = .ok (.string (bs [])) w := by
        rw [run_convert_bytes_string w src tt el (some A) 0 c hs he hd, run_bytesToString w A 0 c [] (by simpa using run_loadCells_list (P := C.P) w A [] (by simp))]; rfl
      simp only [execOp, hv, List.length_nil, Sem.run_bind, hr, Result.andThen_ok, Sem.run_pure]; rfl
  | cons n ns =>
    obtain ⟨ad, cells, e, fr, cs, rfl, hsp, hH, hR, hS⟩ := h3 (by simp)
    have hb := s'.on _ _ hH
    have hcs : cs = (n :: ns).map (Value.int .u8) := by
      apply List.ext_getElem?
      intro j
      by_cases hj : j < (n :: ns).length
      · have hg : (n :: ns)[j]? = some (n :: ns)[j] := List.getElem?_eq_getElem hj
        have := hR.2 j _ hg
        have hsz : (kint .u8).sz = 1 := rfl
        rw [hsz, Nat.mul_one] at this
        have hk : (cs.drop j).take 1 = [Value.int .u8 (n :: ns)[j]] := this
        have hh : (cs.drop j)[0]? = some (Value.int .u8 (n :: ns)[j]) := by
          have h0 : ((cs.drop j).take 1)[0]? = some (Value.int .u8 (n :: ns)[j]) := by rw [hk]; rfl
          rwa [List.getElem?_take_of_lt (by omega)] at h0
        rw [List.getElem?_drop, Nat.add_zero] at hh
        rw [hh, List.getElem?_map, hg]; rfl
      · have hl : cs.length = (n :: ns).length := by have := hR.1; simpa [kint, scalar] using this
        rw [List.getElem?_eq_none (by omega), List.getElem?_eq_none (by simp at hj ⊢; omega)]
    have hld : (loadCells ad (n :: ns).length).run C.P w = .ok ((n :: ns).map (Value.int .u8)).toArray w := by
      have := run_loadCells_list (P := C.P) w ad ((n :: ns).map (Value.int .u8)) (fun j v hj => by
        rw [Addr.plain hsp, add_plain, cell_of_cells hb]
        exact hS j v (by rw [hcs]; exact hj))
      simpa using this
    have hr : (convert src tt (.slice (some ad) (n :: ns).length c)).run C.P w = .ok (.string (bs (unnum (n :: ns)))) w := by
      rw [run_convert_bytes_string w src tt el (some ad) _ c hs he hd, run_bytesToString w ad _ c _ hld, push_fold]; rfl
    simp only [execOp, hv, Sem.run_bind, hr, Result.andThen_ok, Sem.run_pure]
/-! ### 3. Error values -/
/-- An error value: nil just if b. -/
def ErrT (b : Bool) : Ty := ⟨fun _ v => if b then v = .nilIface else ∃ t p, v = .iface t p, fun _ h => h⟩
theorem pu_err_neq {t t2 : TypeId} {b : Bool} {ms : Array (String × TypeId)} (hx : OT C.N Γ x (ErrT b)) (ht : C.P.underlying t = some (.interface ms)) : Pure C Γ L ⟨dst, .binOp .neq t x (.const .nilIface) t2, ty, pos, after, guard⟩ (BoolT (!b)) := fun a w H f s ow => by
  have h1 := hx a H f
  have e1 : ∀ (d : Nat) (v : Value), (v = .nilIface ∨ ∃ tt p, v = .iface tt p) → (Op.equalIn (d + 1) t v .nilIface).run C.P w = .ok (v matches .nilIface) w := by
    intro d v hv
    rw [Op.equalIn]
    rcases hv with rfl | ⟨tt, p, rfl⟩ <;> simp [run_underlying ht]
  have e2 : ∀ (v : Value), (v = .nilIface ∨ ∃ tt p, v = .iface tt p) → (Op.equal t v .nilIface).run C.P w = .ok (v matches .nilIface) w := fun v hv => e1 9999 v hv
  refine ⟨.bool (!b), ?_, rfl⟩
  have hc : a.eval (.const .nilIface) = .nilIface := rfl
  cases b with
  | true =>
    have hv : a.eval x = .nilIface := h1
    have hg : (eqGuard .neq t x (.const .nilIface) .nilIface .nilIface).run C.P w = .ok () w := by simp [eqGuard]
    have hb : (binOp .neq t .nilIface .nilIface).run C.P w = .ok (.bool false) w := by
      show ((Op.equal t .nilIface .nilIface) >>= fun r => pure (Value.bool !r)).run C.P w = _
      rw [Sem.run_bind, e2 _ (.inl rfl)]; rfl
    simp only [execOp, hv, hc, Sem.run_bind, hg, hb, Result.andThen_ok, Sem.run_pure]; rfl
  | false =>
    obtain ⟨tt, p, hv⟩ : ∃ t p, a.eval x = .iface t p := h1
    have hg : (eqGuard .neq t x (.const .nilIface) (.iface tt p) .nilIface).run C.P w = .ok () w := by simp [eqGuard]
    have hb : (binOp .neq t (.iface tt p) .nilIface).run C.P w = .ok (.bool true) w := by
      show ((Op.equal t (.iface tt p) .nilIface) >>= fun r => pure (Value.bool !r)).run C.P w = _
      rw [Sem.run_bind, e2 _ (.inr ⟨_, _, rfl⟩)]; rfl
    simp only [execOp, hv, hc, Sem.run_bind, hg, hb, Result.andThen_ok, Sem.run_pure]; rfl
end
/-! ### 4. Contracts that only make memory -/
open Go.RowKit in
/-- A library's contract that leaves all that was there. -/
theorem ct_below {K0 : FH} {n0 : Nat} {P : Program} {f : FuncId} {As : List Ty} {T : Ty}
    (h : ∀ (H : FH) (w : World) (args : List Value), Sub K0 H → On H w → AllP H As args → Calls P f args.toArray w fun e w' => ∃ v, e = .returned v ∧ T.p H v ∧ Below w.heap.size w w') :
    CtM K0 n0 P f As [] Unit (fun _ => T) (fun _ => []) (fun _ => True) := by
  intro H w args hK hn hon hA hO
  refine (h H w args hK hon hA).mono ?_
  rintro e w' ⟨v, rfl, hv, hb⟩
  exact ⟨(), v, H, rfl, trivial, ⟨Sub.refl _, fun k o e => (hb.block k (hon.lt e)).trans (hon k o e), hb.os, hb.tape, hb.output, hb.size, fun k hk _ => hb.block k hk, fun k o e => .inl e⟩, hv, Owns.nil⟩
end Go.Gw
/- Sorts of tuples: arrays of tuples as lists, the comparison. The plain layer of the sort is the kit's. -/
namespace Go.So
open Go Go.Gw
set_option linter.unusedVariables false
set_option linter.unusedSimpArgs false
abbrev kT : Kd (List Int) := ksl (kint .i64)
abbrev DA := Array (List Int)
/-- A type of slices of numbers. -/
structure SlTy where
  T : List Int → Ty
  h : ∀ {x H v}, (T x).p H v → ∃ A n c, v = .slice A n c
abbrev kG (Z : SlTy) : Kd (List Int) := kty Z.T Z.h
abbrev zC (K0 : FH) (n0 : Nat) : SlTy := ⟨fun xs => ClipT K0 n0 (kint .i64) xs, fun {x H v} h => let ⟨A, h1⟩ := h.2; ⟨A, _, _, h1⟩⟩
abbrev zS : SlTy := ⟨fun xs => SlT (kint .i64) xs, fun {x H v} h => let ⟨A, c, h1, _⟩ := h; ⟨A, _, c, h1⟩⟩
abbrev kF (K0 : FH) (n0 : Nat) : Kd (List Int) := kcl K0 n0 (kint .i64)
/-- 'Less', out of cmp. -/
def ltc (c : List Int → List Int → Int) (x y : List Int) : Bool := decide (c x y < 0)
theorem at_arr {d : DA} {i : Int} (h0 : 0 ≤ i) (h1 : i < d.size) : at' d.toList i = d[i.toNat]! := by
  have h : i.toNat < d.size := by omega
  simp [at', List.getD_eq_getElem?_getD, h]
theorem at_nat {d : DA} {i : Nat} (h1 : i < d.size) : at' d.toList (i : Int) = d[i]! := by
  rw [at_arr (by omega) (by omega), Int.toNat_natCast]
theorem swp_list {d : DA} {i j : Nat} (hi : i < d.size) (hj : j < d.size) : ((d.toList.set i (at' d.toList (j : Int))).set j (at' d.toList (i : Int))) = (Sort.swp d i j).toList := by
  rw [at_nat hi, at_nat hj]
  simp [Sort.swp]
theorem swp_size {d : DA} {i j : Nat} : (Sort.swp d i j).size = d.size := by simp [Sort.swp]
theorem swp_items {d : DA} {i j : Int} (hi : 0 ≤ i) (hi1 : i < d.size) (hj : 0 ≤ j) (hj1 : j < d.size) : (d.toList.set i.toNat (at' d.toList j)).set j.toNat (at' d.toList i) = (Sort.swp d i.toNat j.toNat).toList := by
  have h1 := swp_list (d := d) (i := i.toNat) (j := j.toNat) (by omega) (by omega)
  rw [Int.toNat_of_nonneg hi, Int.toNat_of_nonneg hj] at h1
  exact h1
section
variable {c : List Int → List Int → Int} {d : DA} {a b i j : Nat}
theorem ltc_at (hi : i < d.size) (hj : j < d.size) : ltc c d[i]! d[j]! = decide (c (at' d.toList (i : Int)) (at' d.toList (j : Int)) < 0) := by
  rw [ltc, at_nat hi, at_nat hj]
theorem insIn_step (h : a < j) (hl : ltc c d[j]! d[j - 1]! = true) : Sort.insInner (ltc c) a j d = Sort.insInner (ltc c) a (j - 1) (Sort.swp d j (j - 1)) := by
  obtain ⟨k, rfl⟩ : ∃ k, j = k + 1 := ⟨j - 1, by omega⟩
  rw [Nat.add_sub_cancel] at hl ⊢
  rw [Sort.insInner, if_pos (by simp [hl]; omega)]
theorem insIn_stop (h : a < j → ltc c d[j]! d[j - 1]! = false) : Sort.insInner (ltc c) a j d = d := by
  cases j with
  | zero => rfl
  | succ k =>
    rw [Sort.insInner]
    split
    · rename_i hc
      simp only [Bool.and_eq_true, decide_eq_true_eq] at hc
      have := h hc.1
      rw [Nat.add_sub_cancel] at this
      rw [this] at hc; exact absurd hc.2 (by simp)
    · rfl
theorem insOut_step (h : i < b) : Sort.insOuter (ltc c) a b i d = Sort.insOuter (ltc c) a b (i + 1) (Sort.insInner (ltc c) a i d) := by
  rw [Sort.insOuter, if_pos h]
theorem insOut_end (h : ¬ i < b) : Sort.insOuter (ltc c) a b i d = d := by
  rw [Sort.insOuter, if_neg h]
theorem rev_step (h : i < j) : Sort.reverseLoop i j d = Sort.reverseLoop (i + 1) (j - 1) (Sort.swp d i j) := by
  rw [Sort.reverseLoop, if_pos h]
theorem rev_end (h : ¬ i < j) : Sort.reverseLoop i j d = d := by
  rw [Sort.reverseLoop, if_neg h]
variable {hi first root : Nat}
theorem sift_end (h : 2 * root + 1 ≥ hi) : Sort.siftDown (ltc c) hi first root d = d := by
  rw [Sort.siftDown, dif_pos h]
theorem sift_two (h : ¬ 2 * root + 1 ≥ hi) (h2 : 2 * root + 1 + 1 < hi) (h3 : ltc c d[first + (2 * root + 1)]! d[first + (2 * root + 1) + 1]! = true) :
    Sort.siftDown (ltc c) hi first root d = if !ltc c d[first + root]! d[first + (2 * root + 2)]! then d else Sort.siftDown (ltc c) hi first (2 * root + 2) (Sort.swp d (first + root) (first + (2 * root + 2))) := by
  rw [Sort.siftDown, dif_neg h, if_pos (by simp [h2, h3])]
  split <;> first | rfl | rw [dif_pos (by omega)]
theorem sift_one (h : ¬ 2 * root + 1 ≥ hi) (h3 : 2 * root + 1 + 1 < hi → ltc c d[first + (2 * root + 1)]! d[first + (2 * root + 1) + 1]! = false) :
    Sort.siftDown (ltc c) hi first root d = if !ltc c d[first + root]! d[first + (2 * root + 1)]! then d else Sort.siftDown (ltc c) hi first (2 * root + 1) (Sort.swp d (first + root) (first + (2 * root + 1))) := by
  rw [Sort.siftDown, dif_neg h, if_neg (by
    rw [Bool.and_eq_true, decide_eq_true_eq]; rintro ⟨h4, h5⟩; rw [h3 h4] at h5; cases h5)]
theorem sift_size (hi first root : Nat) (d : DA) : (Sort.siftDown (ltc c) hi first root d).size = d.size := by
  fun_induction Sort.siftDown (ltc c) hi first root d <;> simp_all [Sort.swp]
theorem heap_eq (h : a < b) : Sort.heapSort (ltc c) d a b = Sort.heapPop (ltc c) a (b - a) (Sort.heapBuild (ltc c) (b - a) a ((b - a - 1) / 2 + 1) d) := rfl
end
end Go.So
/- Walks through the Go functions api.Tuple], api.Tuple], api.Tuple], api.Tuple], as typed contracts. -/
namespace Go.Proofs.Ytakkjljhjfkkbaa
open Go Go.Gw Go.So
set_option linter.unusedVariables false
set_option linter.unusedSimpArgs false
variable {Z : SlTy}

set_option maxHeartbeats 1000000 in
set_option maxRecDepth 20000 in
/-- slices.insertionSortCmpFunc[rhizome/api.Tuple] -/
theorem ins_fn (v fv : Value) (d : DA) (a b : Nat) (c : List Int → List Int → Int) (hm : d.size < 4611686018427387904) (hab : a ≤ b) (hb : b ≤ d.size) (hfv : ∀ x y, CtV Try.prog fv [(kG Z).T x, (kG Z).T y] [] Unit (fun _ => I64 (c x y)) (fun _ => []) (fun _ => True)) : Ct Try.prog 40 [IsV v, I64 (a : Int), I64 (b : Int), IsV fv] ([OwnI 45 (kG Z) v d.toList]) Unit (fun _ => AnyT) (fun _ => [OwnI 45 (kG Z) v (Sort.insertionSort (ltc c) d a b).toList]) (fun _ => True) := by
  refine fn_intro Try.func40 rfl rfl ?_
  intro H w
  refine tr_seq ?_
  -- region 0
  refine tr_env (es_cons (t := 0) (OT.tmp rfl) (es_cons (t := 1) (OT.tmp rfl) (es_cons (t := 2) (OT.tmp rfl) (es_cons (t := 3) (OT.tmp rfl) es_nil)))) ?_
  refine tr_region ?_
  refine op_pure (pu_move (OT.tmp rfl)) rfl rfl ?_
  refine op_pure (pu_add' (OT.tmp rfl) OT.const (by omega)) rfl rfl ?_
  refine op_pure (pu_assign (OT.tmp rfl)) rfl rfl ?_
  refine tr_nil ?_
  refine then_normal ?_
  refine tr_block ?_
  refine tr_loopK (σ := Nat × DA) (es_cons (t := 0) (OT.tmp rfl) (es_cons (t := 1) (OT.tmp rfl) (es_cons (t := 2) (OT.tmp rfl) (es_cons (t := 3) (OT.tmp rfl) es_nil)))) (fun s => [(8, I64 (s.1 : Int))]) (fun s => [OwnI 45 (kG Z) v s.2.toList]) (fun s => a + 1 ≤ s.1 ∧ s.2.size = d.size ∧ Sort.insOuter (ltc c) a b s.1 s.2 = Sort.insertionSort (ltc c) d a b) (fun s => b - s.1) (a + 1, d) ⟨by simp, rfl, rfl⟩ ?_ (own_picks (by repeat (first | exact picks_nil | refine picks_cons 0 rfl ?_ | refine picks_cons 1 rfl ?_ | refine picks_cons 2 rfl ?_ | refine picks_cons 3 rfl ?_ | refine picks_cons 4 rfl ?_ | refine picks_cons 5 rfl ?_ | refine picks_cons 6 rfl ?_))) ?_
  · exact (es_cons (t := 8) (by exact OT.tmp rfl) es_nil)
  · rintro ⟨i, d1⟩ ⟨hi0, hs1, hi⟩
    dsimp only at hi0 hs1 hi ⊢
    refine tr_seq ?_
    refine tr_seq ?_
    -- region 1
    refine tr_env (es_cons (t := 0) (OT.tmp rfl) (es_cons (t := 1) (OT.tmp rfl) (es_cons (t := 2) (OT.tmp rfl) (es_cons (t := 3) (OT.tmp rfl) (es_cons (t := 8) (OT.tmp rfl) es_nil))))) ?_
    refine tr_region ?_
    refine op_pure (pu_move (OT.tmp rfl)) rfl rfl ?_
    refine op_pure (pu_move (OT.tmp rfl)) rfl rfl ?_
    refine op_pure (pu_lss (OT.tmp rfl) (OT.tmp rfl)) rfl rfl ?_
    refine tr_nil ?_
    refine then_normal ?_
    refine tr_cond (OT.tmp rfl) (fun c14 => ?_) (fun c14 => ?_)
    · try simp only [decide_eq_true_eq, decide_eq_false_iff_not, Bool.or_eq_true, Bool.and_eq_true, Bool.or_eq_false_iff, Bool.and_eq_false_iff, Bool.not_eq_true', Bool.not_eq_false', ne_eq, Classical.not_not] at c14
      refine tr_skip ?_
      refine then_normal ?_
      refine tr_seq ?_
      refine tr_block ?_
      refine tr_seq ?_
      -- region 3
      refine tr_env (es_cons (t := 0) (OT.tmp rfl) (es_cons (t := 1) (OT.tmp rfl) (es_cons (t := 2) (OT.tmp rfl) (es_cons (t := 3) (OT.tmp rfl) (es_cons (t := 8) (OT.tmp rfl) es_nil))))) ?_
      refine tr_region ?_
      refine op_pure (pu_move (OT.tmp rfl)) rfl rfl ?_
      refine op_pure (pu_assign (OT.tmp rfl)) rfl rfl ?_
      refine tr_nil ?_
      refine then_normal ?_
      refine tr_block ?_
      refine tr_loopK (σ := Nat × DA) (es_cons (t := 0) (OT.tmp rfl) (es_cons (t := 1) (OT.tmp rfl) (es_cons (t := 2) (OT.tmp rfl) (es_cons (t := 3) (OT.tmp rfl) (es_cons (t := 8) (OT.tmp rfl) es_nil))))) (fun s => [(9, I64 (s.1 : Int))]) (fun s => [OwnI 45 (kG Z) v s.2.toList]) (fun s => a ≤ s.1 ∧ s.1 ≤ i ∧ s.2.size = d.size ∧ Sort.insInner (ltc c) a s.1 s.2 = Sort.insInner (ltc c) a i d1) (fun s => s.1) (i, d1) ⟨by omega, by simp, hs1, rfl⟩ ?_ (own_picks (by repeat (first | exact picks_nil | refine picks_cons 0 rfl ?_ | refine picks_cons 1 rfl ?_ | refine picks_cons 2 rfl ?_ | refine picks_cons 3 rfl ?_ | refine picks_cons 4 rfl ?_ | refine picks_cons 5 rfl ?_ | refine picks_cons 6 rfl ?_))) ?_
      · exact (es_cons (t := 9) (by exact OT.tmp rfl) es_nil)
      · rintro ⟨j, d2⟩ ⟨hj0, hj1, hs2, hj⟩
        dsimp only at hj0 hj1 hs2 hj ⊢
        have hl2 : d2.toList.length = d2.size := Array.length_toList
        refine tr_seq ?_
        refine tr_seq ?_
        -- region 4
        refine tr_env (es_cons (t := 0) (OT.tmp rfl) (es_cons (t := 1) (OT.tmp rfl) (es_cons (t := 2) (OT.tmp rfl) (es_cons (t := 3) (OT.tmp rfl) (es_cons (t := 8) (OT.tmp rfl) (es_cons (t := 9) (OT.tmp rfl) es_nil)))))) ?_
        have hlt1 : i < d2.size := by omega
        apply tr_any (m := 14) (ns := [[(9, none)], [(1, none)], [(18, some 0), (19, some 1)], [(20, some 2)], [(3, none), (21, some 3)], [(0, none), (21, some 3)], [(9, none), (21, some 3)], [(21, some 3), (23, some 5), (24, some 6)], [(21, some 3), (25, some 7)], [(0, none), (21, some 3)], [(9, none), (21, some 3)], [(21, some 3), (28, some 10)], [(21, some 3), (27, some 9), (29, some 11)], [(21, some 3), (30, some 12)]]) (by kernel_rfl) (by kernel_rfl) (Ts := [_, _, _, _, _, _, _, _, _, _, _, _, _, _]) rfl
        case hops =>
          refine ⟨?_, ⟨?_, ⟨?_, ⟨?_, ⟨?_, ⟨?_, ⟨?_, ⟨?_, ⟨?_, ⟨?_, ⟨?_, ⟨?_, ⟨?_, ⟨?_, trivial⟩⟩⟩⟩⟩⟩⟩⟩⟩⟩⟩⟩⟩⟩
          · exact rop_pure rfl (pu_move (OT.tmp rfl))
          · exact rop_pure rfl (pu_move (OT.tmp rfl))
          · exact rop_pure rfl (pu_gtr (OT.tmp rfl) (OT.tmp rfl))
          · exact rop_pure rfl (pu_move (OT.tmp rfl))
          · exact rop_gu rfl rfl rfl (OT.gu_mk (OT.tmp rfl)) (fun hg => by (have hg1 := hg.2; exact rop_pure rfl (pu_move (by exact OT.tmp rfl))))
          · exact rop_gu rfl rfl rfl (OT.gu_mk (OT.tmp rfl)) (fun hg => by (have hg1 := hg.2; exact rop_pure rfl (pu_move (by exact OT.tmp rfl))))
          · exact rop_gu rfl rfl rfl (OT.gu_mk (OT.tmp rfl)) (fun hg => by (have hg1 := hg.2; exact rop_pure rfl (pu_move (by exact OT.tmp rfl))))
          · exact rop_gu rfl rfl rfl (OT.gu_mk (OT.tmp rfl)) (fun hg => by (have hg1 := hg.2; exact rop_pure rfl (pu_index_own (by exact OT.gu (OT.tmp rfl) hg) (by exact mem_at 0 rfl) (by exact OT.gu (OT.tmp rfl) hg) Try.underlying35 (show tyOk Try.prog 45 false 1 = true from by decide +kernel) (by omega) (by omega))))
          · exact rop_gu rfl rfl rfl (OT.gu_mk (OT.tmp rfl)) (fun hg => by (have hg1 := hg.2; exact rop_pure rfl (pu_load_own0 (by exact OT.gu (OT.tmp rfl) hg) (by exact mem_at 0 rfl) (by omega) (by omega) (show tyOk Try.prog 45 false 1 = true from by decide +kernel))))
          · exact rop_gu rfl rfl rfl (OT.gu_mk (OT.tmp rfl)) (fun hg => by (have hg1 := hg.2; exact rop_pure rfl (pu_move (by exact OT.tmp rfl))))
          · exact rop_gu rfl rfl rfl (OT.gu_mk (OT.tmp rfl)) (fun hg => by (have hg1 := hg.2; exact rop_pure rfl (pu_move (by exact OT.tmp rfl))))
          · exact rop_gu rfl rfl rfl (OT.gu_mk (OT.tmp rfl)) (fun hg => by (have hg1 := hg.2; exact rop_pure rfl (pu_sub' (by exact OT.gu (OT.tmp rfl) hg) OT.const (by omega))))
          · exact rop_gu rfl rfl rfl (OT.gu_mk (OT.tmp rfl)) (fun hg => by (have hg1 := hg.2; exact rop_pure rfl (pu_index_own (by exact OT.gu (OT.tmp rfl) hg) (by exact mem_at 0 rfl) (by exact OT.gu (OT.tmp rfl) hg) Try.underlying35 (show tyOk Try.prog 45 false 1 = true from by decide +kernel) (by (simp [maxLen] at *; omega)) (by omega))))
          · exact rop_gu rfl rfl rfl (OT.gu_mk (OT.tmp rfl)) (fun hg => by (have hg1 := hg.2; exact rop_pure rfl (pu_load_own0 (by exact OT.gu (OT.tmp rfl) hg) (by exact mem_at 0 rfl) (by (simp [maxLen] at *; omega)) (by omega) (show tyOk Try.prog 45 false 1 = true from by decide +kernel))))
        case h =>
          refine op_gu_acts () rfl rfl rfl (OT.gu_mk (OT.tmp rfl)) (fun hg => by (have hg1 := hg.2; (try simp only [decide_eq_true_eq, decide_eq_false_iff_not] at hg1); exact acts_callv (by exact OT.gu (OT.tmp rfl) hg) (hfv _ _) (OTs.cons (by exact OT.gu (OT.tmp rfl) hg) (OTs.cons (by exact OT.gu (OT.tmp rfl) hg) OTs.nil)) (List.Perm.refl _))) rfl (fun _ _ => ?_)
          refine op_gu rfl rfl rfl (OT.gu_mk (OT.tmp rfl)) (fun hg => by (have hg1 := hg.2; (try simp only [decide_eq_true_eq, decide_eq_false_iff_not] at hg1); exact pu_lss (by exact OT.gu (OT.tmp rfl) hg) OT.const)) rfl ?_
          refine op_pure (pu_pick_and (OT.tmp rfl) (by exact OT.tmp rfl)) rfl rfl ?_
          refine tr_nil ?_
          refine then_normal ?_
          refine tr_cond (OT.tmp rfl) (fun c34 => ?_) (fun c34 => ?_)
          · try simp only [decide_eq_true_eq, decide_eq_false_iff_not, Bool.or_eq_true, Bool.and_eq_true, Bool.or_eq_false_iff, Bool.and_eq_false_iff, Bool.not_eq_true', Bool.not_eq_false', ne_eq, Classical.not_not] at c34
            obtain ⟨hc1, hc2⟩ := c34
            have hj1' : ((j : Int) - 1) = ((j - 1 : Nat) : Int) := by omega
            have hgo : Sort.insInner (ltc c) a (j - 1) (Sort.swp d2 j (j - 1)) = Sort.insInner (ltc c) a i d1 := (insIn_step (c := c) (d := d2) (a := a) (j := j) (by omega) (by rw [ltc_at (by omega) (by omega), ← hj1']; simpa using hc2)).symm.trans hj
            have hsw : (Sort.swp d2 j (j - 1)).toList = (d2.toList.set (j : Int).toNat (at' d2.toList ((j : Int) - 1))).set ((j : Int) - 1).toNat (at' d2.toList (j : Int)) := by rw [swp_items (by omega) (by omega) (by omega) (by omega)]; simp [hj1']
            refine tr_skip ?_
            refine then_normal ?_
            refine tr_seq ?_
            refine tr_block ?_
            -- region 6
            refine tr_env (es_cons (t := 0) (OT.tmp rfl) (es_cons (t := 1) (OT.tmp rfl) (es_cons (t := 2) (OT.tmp rfl) (es_cons (t := 3) (OT.tmp rfl) (es_cons (t := 8) (OT.tmp rfl) (es_cons (t := 9) (OT.tmp rfl) es_nil)))))) ?_
            apply tr_anyW (p := 15) (Lf := fun c => cond c ([OwnI 45 (kG Z) v (d2.toList.set (j : Int).toNat (at' d2.toList ((j : Int) - 1)))]) ([OwnI 45 (kG Z) v d2.toList])) (by kernel_rfl) (m := 16) (ns := [[(0, none)], [(9, none)], [(0, none)], [(9, none)], [(40, some 3)], [(0, none)], [(9, none)], [(43, some 6)], [(42, some 5), (44, some 7)], [(45, some 8)], [(0, none)], [(9, none)], [(47, some 10), (48, some 11)], [(49, some 12)], [(37, some 0), (38, some 1)], [(46, some 9), (51, some 14)]]) (by kernel_rfl) (by kernel_rfl) (Ts := [_, _, _, _, _, _, _, _, _, _, _, _, _, _, _, _]) rfl
            case hops =>
              refine ⟨?_, ⟨?_, ⟨?_, ⟨?_, ⟨?_, ⟨?_, ⟨?_, ⟨?_, ⟨?_, ⟨?_, ⟨?_, ⟨?_, ⟨?_, ⟨?_, ⟨?_, ⟨?_, trivial⟩⟩⟩⟩⟩⟩⟩⟩⟩⟩⟩⟩⟩⟩⟩⟩
              · intro c hc; cases c
                · exact ropw_of (rop_pure rfl (pu_move (OT.tmp rfl)))
                · exact Bool.noConfusion (hc.symm.trans (by kernel_rfl : okFlag _ _ _ _ = false))
              · intro c hc; cases c
                · exact ropw_of (rop_pure rfl (pu_move (OT.tmp rfl)))
                · exact Bool.noConfusion (hc.symm.trans (by kernel_rfl : okFlag _ _ _ _ = false))
              · intro c hc; cases c
                · exact ropw_of (rop_pure rfl (pu_move (OT.tmp rfl)))
                · exact ropw_of (rop_pure rfl (pu_move (OT.tmp rfl)))
              · intro c hc; cases c
                · exact ropw_of (rop_pure rfl (pu_move (OT.tmp rfl)))
                · exact ropw_of (rop_pure rfl (pu_move (OT.tmp rfl)))
              · intro c hc; cases c
                · exact ropw_of (rop_pure rfl (pu_sub' (OT.tmp rfl) OT.const (by omega)))
                · exact ropw_of (rop_pure rfl (pu_sub' (OT.tmp rfl) OT.const (by omega)))
              · intro c hc; cases c
                · exact ropw_of (rop_pure rfl (pu_move (OT.tmp rfl)))
                · exact Bool.noConfusion (hc.symm.trans (by kernel_rfl : okFlag _ _ _ _ = false))
              · intro c hc; cases c
                · exact ropw_of (rop_pure rfl (pu_move (OT.tmp rfl)))
                · exact Bool.noConfusion (hc.symm.trans (by kernel_rfl : okFlag _ _ _ _ = false))
              · intro c hc; cases c
                · exact ropw_of (rop_pure rfl (pu_sub' (OT.tmp rfl) OT.const (by omega)))
                · exact Bool.noConfusion (hc.symm.trans (by kernel_rfl : okFlag _ _ _ _ = false))
              · intro c hc; cases c
                · exact ropw_of (rop_pure rfl (pu_index_own (OT.tmp rfl) (by exact mem_at 0 rfl) (OT.tmp rfl) Try.underlying35 (show tyOk Try.prog 45 false 1 = true from by decide +kernel) (by omega) (by omega)))
                · exact Bool.noConfusion (hc.symm.trans (by kernel_rfl : okFlag _ _ _ _ = false))
              · intro c hc; cases c
                · exact ropw_of (rop_pure rfl (pu_load_own0 (OT.tmp rfl) (by exact mem_at 0 rfl) (by omega) (by omega) (show tyOk Try.prog 45 false 1 = true from by decide +kernel)))
                · exact Bool.noConfusion (hc.symm.trans (by kernel_rfl : okFlag _ _ _ _ = false))
              · intro c hc; cases c
                · exact ropw_of (rop_pure rfl (pu_move (OT.tmp rfl)))
                · exact Bool.noConfusion (hc.symm.trans (by kernel_rfl : okFlag _ _ _ _ = false))
              · intro c hc; cases c
                · exact ropw_of (rop_pure rfl (pu_move (OT.tmp rfl)))
                · exact Bool.noConfusion (hc.symm.trans (by kernel_rfl : okFlag _ _ _ _ = false))
              · intro c hc; cases c
                · exact ropw_of (rop_pure rfl (pu_index_own (OT.tmp rfl) (by exact mem_at 0 rfl) (OT.tmp rfl) Try.underlying35 (show tyOk Try.prog 45 false 1 = true from by decide +kernel) (by omega) (by omega)))
                · exact Bool.noConfusion (hc.symm.trans (by kernel_rfl : okFlag _ _ _ _ = false))
              · intro c hc; cases c
                · exact ropw_of (rop_pure rfl (pu_load_own0 (OT.tmp rfl) (by exact mem_at 0 rfl) (by omega) (by omega) (show tyOk Try.prog 45 false 1 = true from by decide +kernel)))
                · exact Bool.noConfusion (hc.symm.trans (by kernel_rfl : okFlag _ _ _ _ = false))
              · intro c hc; cases c
                · exact ropw_of (rop_pure rfl (pu_index_own (OT.tmp rfl) (by exact mem_at 0 rfl) (OT.tmp rfl) Try.underlying35 (show tyOk Try.prog 45 false 1 = true from by decide +kernel) (by omega) (by omega)))
                · exact Bool.noConfusion (hc.symm.trans (by kernel_rfl : okFlag _ _ _ _ = false))
              · intro c hc; cases c
                · exact ropw_acts rfl (acts_store_own0 (OT.tmp rfl) (OT.tmp rfl) (by exact perm_at 0 rfl) (by omega) (by omega) (show tyOk Try.prog 45 false 1 = true from by decide +kernel)) (by exact perm_at 0 rfl) (fun _ => (by exact perm_at 0 rfl)) (fun _ _ _ _ h => h)
                · exact Bool.noConfusion (hc.symm.trans (by kernel_rfl : okFlag _ _ _ _ = false))
            case h =>
              refine op_pure (pu_index_own (OT.tmp rfl) (by exact mem_at 0 rfl) (OT.tmp rfl) Try.underlying35 (show tyOk Try.prog 45 false 1 = true from by decide +kernel) (by omega) (by (simp; omega))) rfl rfl ?_
              refine op_acts (acts_store_own0 (OT.tmp rfl) (OT.tmp rfl) (by exact perm_at 0 rfl) (by omega) (by (simp; omega)) (show tyOk Try.prog 45 false 1 = true from by decide +kernel)) (by exact perm_at 0 rfl) rfl rfl (fun _ _ => ?_)
              refine tr_nil ?_
              refine block_normal ?_
              refine then_normal ?_
              -- region 5
              refine tr_env (es_cons (t := 0) (OT.tmp rfl) (es_cons (t := 1) (OT.tmp rfl) (es_cons (t := 2) (OT.tmp rfl) (es_cons (t := 3) (OT.tmp rfl) (es_cons (t := 8) (OT.tmp rfl) (es_cons (t := 9) (OT.tmp rfl) es_nil)))))) ?_
              refine tr_region ?_
              refine op_pure (pu_move (OT.tmp rfl)) rfl rfl ?_
              refine op_pure (pu_sub' (OT.tmp rfl) OT.const (by omega)) rfl rfl ?_
              refine op_pure (pu_assign (OT.tmp rfl)) rfl rfl ?_
              refine tr_nil ?_
              refine then_normal ?_
              exact tr_again (j - 1, Sort.swp d2 j (j - 1)) ⟨by show a ≤ j - 1; omega, by show j - 1 ≤ i; omega, swp_size.trans hs2, hgo⟩ (by omega) (es_append (es_cons (t := 9) (OT.val (OT.tmp rfl) (congrArg (Value.int _) (by omega))) es_nil) (es_cons (t := 0) (OT.tmp rfl) (es_cons (t := 1) (OT.tmp rfl) (es_cons (t := 2) (OT.tmp rfl) (es_cons (t := 3) (OT.tmp rfl) (es_cons (t := 8) (OT.tmp rfl) es_nil)))))) (own_picks (by rw [hsw]; exact (by repeat (first | exact picks_nil | refine picks_cons 0 rfl ?_ | refine picks_cons 1 rfl ?_ | refine picks_cons 2 rfl ?_ | refine picks_cons 3 rfl ?_ | refine picks_cons 4 rfl ?_ | refine picks_cons 5 rfl ?_ | refine picks_cons 6 rfl ?_))))
          · try simp only [decide_eq_true_eq, decide_eq_false_iff_not, Bool.or_eq_true, Bool.and_eq_true, Bool.or_eq_false_iff, Bool.and_eq_false_iff, Bool.not_eq_true', Bool.not_eq_false', ne_eq, Classical.not_not] at c34
            have hend : Sort.insInner (ltc c) a j d2 = d2 := insIn_stop (fun h => by rw [ltc_at (by omega) (by omega), show ((j - 1 : Nat) : Int) = (j : Int) - 1 from by omega]; rcases c34 with h9 | h9; omega; simpa using h9)
            have hnx : Sort.insOuter (ltc c) a b (i + 1) d2 = Sort.insertionSort (ltc c) d a b := by
              have h9 := insOut_step (c := c) (a := a) (d := d1) (i := i) (b := b) (by omega)
              rw [hi, ← hj, hend] at h9
              exact h9.symm
            refine tr_exit ?_
            refine then_exit ?_
            refine then_exit ?_
            refine block_hit ?_
            refine block_normal ?_
            refine then_normal ?_
            -- region 2
            refine tr_env (es_cons (t := 0) (OT.tmp rfl) (es_cons (t := 1) (OT.tmp rfl) (es_cons (t := 2) (OT.tmp rfl) (es_cons (t := 3) (OT.tmp rfl) (es_cons (t := 8) (OT.tmp rfl) es_nil))))) ?_
            refine tr_region ?_
            refine op_pure (pu_move (OT.tmp rfl)) rfl rfl ?_
            refine op_pure (pu_add' (OT.tmp rfl) OT.const (by omega)) rfl rfl ?_
            refine op_pure (pu_assign (OT.tmp rfl)) rfl rfl ?_
            refine tr_nil ?_
            refine then_normal ?_
            exact tr_again (i + 1, d2) ⟨by show a + 1 ≤ i + 1; omega, hs2, hnx⟩ (by omega) (es_append (es_cons (t := 8) (by exact OT.tmp rfl) es_nil) (es_cons (t := 0) (OT.tmp rfl) (es_cons (t := 1) (OT.tmp rfl) (es_cons (t := 2) (OT.tmp rfl) (es_cons (t := 3) (OT.tmp rfl) es_nil))))) (own_picks (by repeat (first | exact picks_nil | refine picks_cons 0 rfl ?_ | refine picks_cons 1 rfl ?_ | refine picks_cons 2 rfl ?_ | refine picks_cons 3 rfl ?_ | refine picks_cons 4 rfl ?_ | refine picks_cons 5 rfl ?_ | refine picks_cons 6 rfl ?_)))
    · try simp only [decide_eq_true_eq, decide_eq_false_iff_not, Bool.or_eq_true, Bool.and_eq_true, Bool.or_eq_false_iff, Bool.and_eq_false_iff, Bool.not_eq_true', Bool.not_eq_false', ne_eq, Classical.not_not] at c14
      have hfin : d1 = Sort.insertionSort (ltc c) d a b := by rw [← hi, insOut_end (by omega)]
      refine tr_exit ?_
      refine then_exit ?_
      refine then_exit ?_
      refine block_hit ?_
      exact ret_none .normal (.inr rfl) rfl () (fun _ => trivial) trivial (by rw [← hfin]; exact picks_cons 0 rfl picks_nil)
set_option maxHeartbeats 1000000 in
set_option maxRecDepth 20000 in
/-- slices.reverseRangeCmpFunc[rhizome/api.Tuple] -/
theorem rev_fn (v fv : Value) (d : DA) (a b : Nat) (hm : d.size < 4611686018427387904) (hab : a < b) (hb : b ≤ d.size) : Ct Try.prog 44 [IsV v, I64 (a : Int), I64 (b : Int), IsV fv] ([OwnI 45 (kG Z) v d.toList]) Unit (fun _ => AnyT) (fun _ => [OwnI 45 (kG Z) v (Sort.reverseRange d a b).toList]) (fun _ => True) := by
  refine fn_intro Try.func44 rfl rfl ?_
  intro H w
  refine tr_seq ?_
  -- region 0
  refine tr_env (es_cons (t := 0) (OT.tmp rfl) (es_cons (t := 1) (OT.tmp rfl) (es_cons (t := 2) (OT.tmp rfl) es_nil))) ?_
  refine tr_region ?_
  refine op_pure (pu_move (OT.tmp rfl)) rfl rfl ?_
  refine op_pure (pu_assign (OT.tmp rfl)) rfl rfl ?_
  refine tr_nil ?_
  refine then_normal ?_
  refine tr_seq ?_
  -- region 1
  refine tr_env (es_cons (t := 0) (OT.tmp rfl) (es_cons (t := 2) (OT.tmp rfl) (es_cons (t := 8) (OT.tmp rfl) es_nil))) ?_
  refine tr_region ?_
  refine op_pure (pu_move (OT.tmp rfl)) rfl rfl ?_
  refine op_pure (pu_sub' (OT.tmp rfl) OT.const (by omega)) rfl rfl ?_
  refine op_pure (pu_assign (OT.tmp rfl)) rfl rfl ?_
  refine tr_nil ?_
  refine then_normal ?_
  refine tr_block ?_
  refine tr_loopK (σ := Nat × Nat × DA) (es_cons (t := 0) (OT.tmp rfl) es_nil) (fun s => [(8, I64 (s.1 : Int)), (9, I64 (s.2.1 : Int))]) (fun s => [OwnI 45 (kG Z) v s.2.2.toList]) (fun s => s.2.1 < d.size ∧ s.2.2.size = d.size ∧ Sort.reverseLoop s.1 s.2.1 s.2.2 = Sort.reverseRange d a b) (fun s => s.2.1 - s.1) (a, b - 1, d) ⟨by show b - 1 < d.size; omega, rfl, rfl⟩ ?_ (own_picks (by repeat (first | exact picks_nil | refine picks_cons 0 rfl ?_ | refine picks_cons 1 rfl ?_ | refine picks_cons 2 rfl ?_ | refine picks_cons 3 rfl ?_ | refine picks_cons 4 rfl ?_ | refine picks_cons 5 rfl ?_ | refine picks_cons 6 rfl ?_))) ?_
  · exact (es_cons (t := 8) (by exact OT.tmp rfl) (es_cons (t := 9) (by exact OT.val (OT.tmp rfl) (congrArg (Value.int _) (by (simp; omega)))) es_nil))
  · rintro ⟨i, j, d1⟩ ⟨hj, hs1, hr⟩
    dsimp only at hj hs1 hr ⊢
    have hl1 : d1.toList.length = d1.size := Array.length_toList
    refine tr_seq ?_
    refine tr_seq ?_
    -- region 2
    refine tr_env (es_cons (t := 0) (OT.tmp rfl) (es_cons (t := 8) (OT.tmp rfl) (es_cons (t := 9) (OT.tmp rfl) es_nil))) ?_
    refine tr_region ?_
    refine op_pure (pu_move (OT.tmp rfl)) rfl rfl ?_
    refine op_pure (pu_move (OT.tmp rfl)) rfl rfl ?_
    refine op_pure (pu_lss (OT.tmp rfl) (OT.tmp rfl)) rfl rfl ?_
    refine tr_nil ?_
    refine then_normal ?_
    refine tr_cond (OT.tmp rfl) (fun c15 => ?_) (fun c15 => ?_)
    · try simp only [decide_eq_true_eq, decide_eq_false_iff_not, Bool.or_eq_true, Bool.and_eq_true, Bool.or_eq_false_iff, Bool.and_eq_false_iff, Bool.not_eq_true', Bool.not_eq_false', ne_eq, Classical.not_not] at c15
      have hsw : (Sort.swp d1 i j).toList = (d1.toList.set (i : Int).toNat (at' d1.toList (j : Int))).set (j : Int).toNat (at' d1.toList (i : Int)) := by rw [swp_items (by omega) (by omega) (by omega) (by omega)]; simp
      have hnx := (rev_step (d := d1) (i := i) (j := j) (by omega)).symm.trans hr
      refine tr_skip ?_
      refine then_normal ?_
      refine tr_block ?_
      refine tr_seq ?_
      -- region 3
      refine tr_env (es_cons (t := 0) (OT.tmp rfl) (es_cons (t := 8) (OT.tmp rfl) (es_cons (t := 9) (OT.tmp rfl) es_nil))) ?_
      apply tr_anyW (p := 13) (Lf := fun c => cond c ([OwnI 45 (kG Z) v (d1.toList.set (i : Int).toNat (at' d1.toList (j : Int)))]) ([OwnI 45 (kG Z) v d1.toList])) (by kernel_rfl) (m := 14) (ns := [[(0, none)], [(8, none)], [(0, none)], [(9, none)], [(0, none)], [(9, none)], [(20, some 4), (21, some 5)], [(22, some 6)], [(0, none)], [(8, none)], [(24, some 8), (25, some 9)], [(26, some 10)], [(16, some 0), (17, some 1)], [(23, some 7), (28, some 12)]]) (by kernel_rfl) (by kernel_rfl) (Ts := [_, _, _, _, _, _, _, _, _, _, _, _, _, _]) rfl
      case hops =>
        refine ⟨?_, ⟨?_, ⟨?_, ⟨?_, ⟨?_, ⟨?_, ⟨?_, ⟨?_, ⟨?_, ⟨?_, ⟨?_, ⟨?_, ⟨?_, ⟨?_, trivial⟩⟩⟩⟩⟩⟩⟩⟩⟩⟩⟩⟩⟩⟩
        · intro c hc; cases c
          · exact ropw_of (rop_pure rfl (pu_move (OT.tmp rfl)))
          · exact Bool.noConfusion (hc.symm.trans (by kernel_rfl : okFlag _ _ _ _ = false))
        · intro c hc; cases c
          · exact ropw_of (rop_pure rfl (pu_move (OT.tmp rfl)))
          · exact Bool.noConfusion (hc.symm.trans (by kernel_rfl : okFlag _ _ _ _ = false))
        · intro c hc; cases c
          · exact ropw_of (rop_pure rfl (pu_move (OT.tmp rfl)))
          · exact ropw_of (rop_pure rfl (pu_move (OT.tmp rfl)))
        · intro c hc; cases c
          · exact ropw_of (rop_pure rfl (pu_move (OT.tmp rfl)))
          · exact ropw_of (rop_pure rfl (pu_move (OT.tmp rfl)))
        · intro c hc; cases c
          · exact ropw_of (rop_pure rfl (pu_move (OT.tmp rfl)))
          · exact Bool.noConfusion (hc.symm.trans (by kernel_rfl : okFlag _ _ _ _ = false))
        · intro c hc; cases c
          · exact ropw_of (rop_pure rfl (pu_move (OT.tmp rfl)))
          · exact Bool.noConfusion (hc.symm.trans (by kernel_rfl : okFlag _ _ _ _ = false))
        · intro c hc; cases c
          · exact ropw_of (rop_pure rfl (pu_index_own (OT.tmp rfl) (by exact mem_at 0 rfl) (OT.tmp rfl) Try.underlying35 (show tyOk Try.prog 45 false 1 = true from by decide +kernel) (by omega) (by omega)))
          · exact Bool.noConfusion (hc.symm.trans (by kernel_rfl : okFlag _ _ _ _ = false))
        · intro c hc; cases c
          · exact ropw_of (rop_pure rfl (pu_load_own0 (OT.tmp rfl) (by exact mem_at 0 rfl) (by omega) (by omega) (show tyOk Try.prog 45 false 1 = true from by decide +kernel)))
          · exact Bool.noConfusion (hc.symm.trans (by kernel_rfl : okFlag _ _ _ _ = false))
        · intro c hc; cases c
          · exact ropw_of (rop_pure rfl (pu_move (OT.tmp rfl)))
          · exact Bool.noConfusion (hc.symm.trans (by kernel_rfl : okFlag _ _ _ _ = false))
        · intro c hc; cases c
          · exact ropw_of (rop_pure rfl (pu_move (OT.tmp rfl)))
          · exact Bool.noConfusion (hc.symm.trans (by kernel_rfl : okFlag _ _ _ _ = false))
        · intro c hc; cases c
          · exact ropw_of (rop_pure rfl (pu_index_own (OT.tmp rfl) (by exact mem_at 0 rfl) (OT.tmp rfl) Try.underlying35 (show tyOk Try.prog 45 false 1 = true from by decide +kernel) (by omega) (by omega)))
          · exact Bool.noConfusion (hc.symm.trans (by kernel_rfl : okFlag _ _ _ _ = false))
        · intro c hc; cases c
          · exact ropw_of (rop_pure rfl (pu_load_own0 (OT.tmp rfl) (by exact mem_at 0 rfl) (by omega) (by omega) (show tyOk Try.prog 45 false 1 = true from by decide +kernel)))
          · exact Bool.noConfusion (hc.symm.trans (by kernel_rfl : okFlag _ _ _ _ = false))
        · intro c hc; cases c
          · exact ropw_of (rop_pure rfl (pu_index_own (OT.tmp rfl) (by exact mem_at 0 rfl) (OT.tmp rfl) Try.underlying35 (show tyOk Try.prog 45 false 1 = true from by decide +kernel) (by omega) (by omega)))
          · exact Bool.noConfusion (hc.symm.trans (by kernel_rfl : okFlag _ _ _ _ = false))
        · intro c hc; cases c
          · exact ropw_acts rfl (acts_store_own0 (OT.tmp rfl) (OT.tmp rfl) (by exact perm_at 0 rfl) (by omega) (by omega) (show tyOk Try.prog 45 false 1 = true from by decide +kernel)) (by exact perm_at 0 rfl) (fun _ => (by exact perm_at 0 rfl)) (fun _ _ _ _ h => h)
          · exact Bool.noConfusion (hc.symm.trans (by kernel_rfl : okFlag _ _ _ _ = false))
      case h =>
        refine op_pure (pu_index_own (OT.tmp rfl) (by exact mem_at 0 rfl) (OT.tmp rfl) Try.underlying35 (show tyOk Try.prog 45 false 1 = true from by decide +kernel) (by omega) (by (simp; omega))) rfl rfl ?_
        refine op_acts (acts_store_own0 (OT.tmp rfl) (OT.tmp rfl) (by exact perm_at 0 rfl) (by omega) (by (simp; omega)) (show tyOk Try.prog 45 false 1 = true from by decide +kernel)) (by exact perm_at 0 rfl) rfl rfl (fun _ _ => ?_)
        refine tr_nil ?_
        refine then_normal ?_
        refine tr_seq ?_
        -- region 4
        refine tr_env (es_cons (t := 0) (OT.tmp rfl) (es_cons (t := 8) (OT.tmp rfl) (es_cons (t := 9) (OT.tmp rfl) es_nil))) ?_
        refine tr_region ?_
        refine op_pure (pu_move (OT.tmp rfl)) rfl rfl ?_
        refine op_pure (pu_add' (OT.tmp rfl) OT.const (by omega)) rfl rfl ?_
        refine op_pure (pu_assign (OT.tmp rfl)) rfl rfl ?_
        refine tr_nil ?_
        refine then_normal ?_
        -- region 5
        refine tr_env (es_cons (t := 0) (OT.tmp rfl) (es_cons (t := 8) (OT.tmp rfl) (es_cons (t := 9) (OT.tmp rfl) es_nil))) ?_
        refine tr_region ?_
        refine op_pure (pu_move (OT.tmp rfl)) rfl rfl ?_
        refine op_pure (pu_sub' (OT.tmp rfl) OT.const (by omega)) rfl rfl ?_
        refine op_pure (pu_assign (OT.tmp rfl)) rfl rfl ?_
        refine tr_nil ?_
        refine block_normal ?_
        refine then_normal ?_
        exact tr_again (i + 1, j - 1, Sort.swp d1 i j) ⟨by show j - 1 < d.size; omega, swp_size.trans hs1, hnx⟩ (by show j - 1 - (i + 1) < j - i; omega) (es_append (es_cons (t := 8) (by exact OT.tmp rfl) (es_cons (t := 9) (by exact OT.val (OT.tmp rfl) (congrArg (Value.int _) (by (simp; omega)))) es_nil)) (es_cons (t := 0) (OT.tmp rfl) es_nil)) (own_picks (by rw [hsw]; exact (by repeat (first | exact picks_nil | refine picks_cons 0 rfl ?_ | refine picks_cons 1 rfl ?_ | refine picks_cons 2 rfl ?_ | refine picks_cons 3 rfl ?_ | refine picks_cons 4 rfl ?_ | refine picks_cons 5 rfl ?_ | refine picks_cons 6 rfl ?_))))
    · try simp only [decide_eq_true_eq, decide_eq_false_iff_not, Bool.or_eq_true, Bool.and_eq_true, Bool.or_eq_false_iff, Bool.and_eq_false_iff, Bool.not_eq_true', Bool.not_eq_false', ne_eq, Classical.not_not] at c15
      have hfin : d1 = Sort.reverseRange d a b := by rw [← hr, rev_end (by omega)]
      refine tr_exit ?_
      refine then_exit ?_
      refine then_exit ?_
      refine block_hit ?_
      exact ret_none .normal (.inr rfl) rfl () (fun _ => trivial) trivial (by rw [← hfin]; exact picks_cons 0 rfl picks_nil)
set_option maxHeartbeats 1000000 in
set_option maxRecDepth 20000 in
/-- slices.siftDownCmpFunc[rhizome/api.Tuple] -/
theorem sift_fn (v fv : Value) (d : DA) (lo hi first : Nat) (c : List Int → List Int → Int) (hm : d.size < 4611686018427387904) (hb : first + hi ≤ d.size) (hlo : lo ≤ hi) (hfv : ∀ x y, CtV Try.prog fv [(kG Z).T x, (kG Z).T y] [] Unit (fun _ => I64 (c x y)) (fun _ => []) (fun _ => True)) : Ct Try.prog 53 [IsV v, I64 (lo : Int), I64 (hi : Int), I64 (first : Int), IsV fv] ([OwnI 45 (kG Z) v d.toList]) Unit (fun _ => AnyT) (fun _ => [OwnI 45 (kG Z) v (Sort.siftDown (ltc c) hi first lo d).toList]) (fun _ => True) := by
  refine fn_intro Try.func53 rfl rfl ?_
  intro H w
  refine tr_seq ?_
  -- region 0
  refine tr_env (es_cons (t := 0) (OT.tmp rfl) (es_cons (t := 1) (OT.tmp rfl) (es_cons (t := 2) (OT.tmp rfl) (es_cons (t := 3) (OT.tmp rfl) (es_cons (t := 4) (OT.tmp rfl) es_nil))))) ?_
  refine tr_region ?_
  refine op_pure (pu_move (OT.tmp rfl)) rfl rfl ?_
  refine op_pure (pu_assign (OT.tmp rfl)) rfl rfl ?_
  refine tr_nil ?_
  refine then_normal ?_
  refine tr_block ?_
  refine tr_loopK (σ := Nat × DA) (es_cons (t := 0) (OT.tmp rfl) (es_cons (t := 2) (OT.tmp rfl) (es_cons (t := 3) (OT.tmp rfl) (es_cons (t := 4) (OT.tmp rfl) es_nil)))) (fun s => [(10, I64 (s.1 : Int))]) (fun s => [OwnI 45 (kG Z) v s.2.toList]) (fun s => s.1 ≤ hi ∧ s.2.size = d.size ∧ Sort.siftDown (ltc c) hi first s.1 s.2 = Sort.siftDown (ltc c) hi first lo d) (fun s => hi - s.1) (lo, d) ⟨hlo, rfl, rfl⟩ ?_ (own_picks (by repeat (first | exact picks_nil | refine picks_cons 0 rfl ?_ | refine picks_cons 1 rfl ?_ | refine picks_cons 2 rfl ?_ | refine picks_cons 3 rfl ?_ | refine picks_cons 4 rfl ?_ | refine picks_cons 5 rfl ?_ | refine picks_cons 6 rfl ?_))) ?_
  · exact (es_cons (t := 10) (by exact OT.tmp rfl) es_nil)
  · rintro ⟨root, d1⟩ ⟨hrh, hs1, hr⟩
    dsimp only at hrh hs1 hr ⊢
    have hl1 : d1.toList.length = d1.size := Array.length_toList
    refine tr_block ?_
    refine tr_seq ?_
    -- region 1
    refine tr_env (es_cons (t := 0) (OT.tmp rfl) (es_cons (t := 2) (OT.tmp rfl) (es_cons (t := 3) (OT.tmp rfl) (es_cons (t := 4) (OT.tmp rfl) (es_cons (t := 10) (OT.tmp rfl) es_nil))))) ?_
    refine tr_region ?_
    refine op_pure (pu_move (OT.tmp rfl)) rfl rfl ?_
    refine op_pure (pu_mul' OT.const (OT.tmp rfl) (by omega)) rfl rfl ?_
    refine op_pure (pu_add' (OT.tmp rfl) OT.const (by omega)) rfl rfl ?_
    refine op_pure (pu_assign (OT.tmp rfl)) rfl rfl ?_
    refine tr_nil ?_
    refine then_normal ?_
    refine tr_seq ?_
    refine tr_seq ?_
    -- region 2
    refine tr_env (es_cons (t := 0) (OT.tmp rfl) (es_cons (t := 2) (OT.tmp rfl) (es_cons (t := 3) (OT.tmp rfl) (es_cons (t := 4) (OT.tmp rfl) (es_cons (t := 10) (OT.tmp rfl) (es_cons (t := 11) (OT.tmp rfl) es_nil)))))) ?_
    refine tr_region ?_
    refine op_pure (pu_move (OT.tmp rfl)) rfl rfl ?_
    refine op_pure (pu_move (OT.tmp rfl)) rfl rfl ?_
    refine op_pure (pu_geq (OT.tmp rfl) (OT.tmp rfl)) rfl rfl ?_
    refine tr_nil ?_
    refine then_normal ?_
    refine tr_cond (OT.tmp rfl) (fun c18 => ?_) (fun c18 => ?_)
    · try simp only [decide_eq_true_eq, decide_eq_false_iff_not, Bool.or_eq_true, Bool.and_eq_true, Bool.or_eq_false_iff, Bool.and_eq_false_iff, Bool.not_eq_true', Bool.not_eq_false', ne_eq, Classical.not_not] at c18
      have hfin : d1 = Sort.siftDown (ltc c) hi first lo d := by rw [← hr, sift_end (by omega)]
      refine tr_exit ?_
      refine then_exit ?_
      refine block_pass rfl ?_
      refine then_exit ?_
      refine block_hit ?_
      exact ret_none .normal (.inr rfl) rfl () (fun _ => trivial) trivial (by rw [← hfin]; exact picks_cons 0 rfl picks_nil)
    · try simp only [decide_eq_true_eq, decide_eq_false_iff_not, Bool.or_eq_true, Bool.and_eq_true, Bool.or_eq_false_iff, Bool.and_eq_false_iff, Bool.not_eq_true', Bool.not_eq_false', ne_eq, Classical.not_not] at c18
      refine tr_skip ?_
      refine then_normal ?_
      refine tr_seq ?_
      refine tr_seq ?_
      -- region 3
      refine tr_env (es_cons (t := 0) (OT.tmp rfl) (es_cons (t := 2) (OT.tmp rfl) (es_cons (t := 3) (OT.tmp rfl) (es_cons (t := 4) (OT.tmp rfl) (es_cons (t := 10) (OT.tmp rfl) (es_cons (t := 11) (OT.tmp rfl) es_nil)))))) ?_
      apply tr_any (m := 19) (ns := [[(11, none)], [(19, some 0)], [(2, none)], [(20, some 1), (21, some 2)], [(22, some 3)], [(4, none), (23, some 4)], [(0, none), (23, some 4)], [(3, none), (23, some 4)], [(11, none), (23, some 4)], [(23, some 4), (26, some 7), (27, some 8)], [(23, some 4), (25, some 6), (28, some 9)], [(23, some 4), (29, some 10)], [(0, none), (23, some 4)], [(3, none), (23, some 4)], [(11, none), (23, some 4)], [(23, some 4), (32, some 13), (33, some 14)], [(23, some 4), (34, some 15)], [(23, some 4), (31, some 12), (35, some 16)], [(23, some 4), (36, some 17)]]) (by kernel_rfl) (by kernel_rfl) (Ts := [_, _, _, _, _, _, _, _, _, _, _, _, _, _, _, _, _, _, _]) rfl
      case hops =>
        refine ⟨?_, ⟨?_, ⟨?_, ⟨?_, ⟨?_, ⟨?_, ⟨?_, ⟨?_, ⟨?_, ⟨?_, ⟨?_, ⟨?_, ⟨?_, ⟨?_, ⟨?_, ⟨?_, ⟨?_, ⟨?_, ⟨?_, trivial⟩⟩⟩⟩⟩⟩⟩⟩⟩⟩⟩⟩⟩⟩⟩⟩⟩⟩⟩
        · exact rop_pure rfl (pu_move (OT.tmp rfl))
        · exact rop_pure rfl (pu_add' (OT.tmp rfl) OT.const (by omega))
        · exact rop_pure rfl (pu_move (OT.tmp rfl))
        · exact rop_pure rfl (pu_lss (OT.tmp rfl) (OT.tmp rfl))
        · exact rop_pure rfl (pu_move (OT.tmp rfl))
        · exact rop_gu rfl rfl rfl (OT.gu_mk (OT.tmp rfl)) (fun hg => by (have hg1 := hg.2; exact rop_pure rfl (pu_move (by exact OT.tmp rfl))))
        · exact rop_gu rfl rfl rfl (OT.gu_mk (OT.tmp rfl)) (fun hg => by (have hg1 := hg.2; exact rop_pure rfl (pu_move (by exact OT.tmp rfl))))
        · exact rop_gu rfl rfl rfl (OT.gu_mk (OT.tmp rfl)) (fun hg => by (have hg1 := hg.2; exact rop_pure rfl (pu_move (by exact OT.tmp rfl))))
        · exact rop_gu rfl rfl rfl (OT.gu_mk (OT.tmp rfl)) (fun hg => by (have hg1 := hg.2; exact rop_pure rfl (pu_move (by exact OT.tmp rfl))))
        · exact rop_gu rfl rfl rfl (OT.gu_mk (OT.tmp rfl)) (fun hg => by (have hg1 := hg.2; exact rop_pure rfl (pu_add' (by exact OT.gu (OT.tmp rfl) hg) (by exact OT.gu (OT.tmp rfl) hg) (by omega))))
        · exact rop_gu rfl rfl rfl (OT.gu_mk (OT.tmp rfl)) (fun hg => by (have hg1 := hg.2; exact rop_pure rfl (pu_index_own (by exact OT.gu (OT.tmp rfl) hg) (by exact mem_at 0 rfl) (by exact OT.gu (OT.tmp rfl) hg) Try.underlying35 (show tyOk Try.prog 45 false 1 = true from by decide +kernel) (by omega) (by omega))))
        · exact rop_gu rfl rfl rfl (OT.gu_mk (OT.tmp rfl)) (fun hg => by (have hg1 := hg.2; exact rop_pure rfl (pu_load_own0 (by exact OT.gu (OT.tmp rfl) hg) (by exact mem_at 0 rfl) (by omega) (by omega) (show tyOk Try.prog 45 false 1 = true from by decide +kernel))))
        · exact rop_gu rfl rfl rfl (OT.gu_mk (OT.tmp rfl)) (fun hg => by (have hg1 := hg.2; exact rop_pure rfl (pu_move (by exact OT.tmp rfl))))
        · exact rop_gu rfl rfl rfl (OT.gu_mk (OT.tmp rfl)) (fun hg => by (have hg1 := hg.2; exact rop_pure rfl (pu_move (by exact OT.tmp rfl))))
        · exact rop_gu rfl rfl rfl (OT.gu_mk (OT.tmp rfl)) (fun hg => by (have hg1 := hg.2; exact rop_pure rfl (pu_move (by exact OT.tmp rfl))))
        · exact rop_gu rfl rfl rfl (OT.gu_mk (OT.tmp rfl)) (fun hg => by (have hg1 := hg.2; exact rop_pure rfl (pu_add' (by exact OT.gu (OT.tmp rfl) hg) (by exact OT.gu (OT.tmp rfl) hg) (by omega))))
        · exact rop_gu rfl rfl rfl (OT.gu_mk (OT.tmp rfl)) (fun hg => by (have hg1 := hg.2; exact rop_pure rfl (pu_add' (by exact OT.gu (OT.tmp rfl) hg) OT.const (by omega))))
        · exact rop_gu rfl rfl rfl (OT.gu_mk (OT.tmp rfl)) (fun hg => by (have hg1 := hg.2; exact rop_pure rfl (pu_index_own (by exact OT.gu (OT.tmp rfl) hg) (by exact mem_at 0 rfl) (by exact OT.gu (OT.tmp rfl) hg) Try.underlying35 (show tyOk Try.prog 45 false 1 = true from by decide +kernel) (by omega) (by (simp [maxLen] at *; omega)))))
        · exact rop_gu rfl rfl rfl (OT.gu_mk (OT.tmp rfl)) (fun hg => by (have hg1 := hg.2; exact rop_pure rfl (pu_load_own0 (by exact OT.gu (OT.tmp rfl) hg) (by exact mem_at 0 rfl) (by omega) (by (simp [maxLen] at *; omega)) (show tyOk Try.prog 45 false 1 = true from by decide +kernel))))
      case h =>
        refine op_gu_acts () rfl rfl rfl (OT.gu_mk (OT.tmp rfl)) (fun hg => by (have hg1 := hg.2; (try simp only [decide_eq_true_eq, decide_eq_false_iff_not] at hg1); exact acts_callv (by exact OT.gu (OT.tmp rfl) hg) (hfv _ _) (OTs.cons (by exact OT.gu (OT.tmp rfl) hg) (OTs.cons (by exact OT.gu (OT.tmp rfl) hg) OTs.nil)) (List.Perm.refl _))) rfl (fun _ _ => ?_)
        refine op_gu rfl rfl rfl (OT.gu_mk (OT.tmp rfl)) (fun hg => by (have hg1 := hg.2; (try simp only [decide_eq_true_eq, decide_eq_false_iff_not] at hg1); exact pu_lss (by exact OT.gu (OT.tmp rfl) hg) OT.const)) rfl ?_
        refine op_pure (pu_pick_and (OT.tmp rfl) (by exact OT.tmp rfl)) rfl rfl ?_
        refine tr_nil ?_
        refine then_normal ?_
        refine tr_cond (OT.tmp rfl) (fun c40 => ?_) (fun c40 => ?_)
        · try simp only [decide_eq_true_eq, decide_eq_false_iff_not, Bool.or_eq_true, Bool.and_eq_true, Bool.or_eq_false_iff, Bool.and_eq_false_iff, Bool.not_eq_true', Bool.not_eq_false', ne_eq, Classical.not_not] at c40
          obtain ⟨ch, hch, hcl, hcr, hstep⟩ : ∃ ch : Nat, 2 * (root : Int) + 1 + 1 = ch ∧ ch < hi ∧ root < ch ∧ Sort.siftDown (ltc c) hi first root d1 = (if !ltc c d1[first + root]! d1[first + ch]! then d1 else Sort.siftDown (ltc c) hi first ch (Sort.swp d1 (first + root) (first + ch))) := ⟨2 * root + 2, by omega, by omega, by omega, sift_two (by omega) (by omega) (by rw [ltc_at (by omega) (by omega), show ((first + (2 * root + 1) : Nat) : Int) = (first : Int) + (2 * root + 1) from by omega, show ((first + (2 * root + 1) + 1 : Nat) : Int) = (first : Int) + (2 * root + 1) + 1 from by omega]; simpa using c40.2)⟩
          -- region 4
          refine tr_env (es_cons (t := 0) (OT.tmp rfl) (es_cons (t := 2) (OT.tmp rfl) (es_cons (t := 3) (OT.tmp rfl) (es_cons (t := 4) (OT.tmp rfl) (es_cons (t := 10) (OT.tmp rfl) (es_cons (t := 11) (OT.tmp rfl) es_nil)))))) ?_
          refine tr_region ?_
          refine op_pure (pu_move (OT.tmp rfl)) rfl rfl ?_
          refine op_pure (pu_add' (OT.tmp rfl) OT.const (by omega)) rfl rfl ?_
          refine op_pure (pu_assign (OT.tmp rfl)) rfl rfl ?_
          refine tr_nil ?_
          refine then_normal ?_
          refine tr_seq ?_
          refine tr_seq ?_
          -- region 5
          refine tr_env (es_cons (t := 0) (OT.tmp rfl) (es_cons (t := 2) (OT.tmp rfl) (es_cons (t := 3) (OT.tmp rfl) (es_cons (t := 4) (OT.tmp rfl) (es_cons (t := 10) (OT.tmp rfl) (es_cons (t := 11) (OT.tmp rfl) es_nil)))))) ?_
          rw [hch]
          apply tr_any (m := 13) (ns := [[(4, none)], [(0, none)], [(3, none)], [(10, none)], [(45, some 2), (46, some 3)], [(44, some 1), (47, some 4)], [(48, some 5)], [(0, none)], [(3, none)], [(11, none)], [(51, some 8), (52, some 9)], [(50, some 7), (53, some 10)], [(54, some 11)]]) (by kernel_rfl) (by kernel_rfl) (Ts := [_, _, _, _, _, _, _, _, _, _, _, _, _]) rfl
          case hops =>
            refine ⟨?_, ⟨?_, ⟨?_, ⟨?_, ⟨?_, ⟨?_, ⟨?_, ⟨?_, ⟨?_, ⟨?_, ⟨?_, ⟨?_, ⟨?_, trivial⟩⟩⟩⟩⟩⟩⟩⟩⟩⟩⟩⟩⟩
            · exact rop_pure rfl (pu_move (OT.tmp rfl))
            · exact rop_pure rfl (pu_move (OT.tmp rfl))
            · exact rop_pure rfl (pu_move (OT.tmp rfl))
            · exact rop_pure rfl (pu_move (OT.tmp rfl))
            · exact rop_pure rfl (pu_add' (OT.tmp rfl) (OT.tmp rfl) (by omega))
            · exact rop_pure rfl (pu_index_own (OT.tmp rfl) (by exact mem_at 0 rfl) (OT.tmp rfl) Try.underlying35 (show tyOk Try.prog 45 false 1 = true from by decide +kernel) (by omega) (by omega))
            · exact rop_pure rfl (pu_load_own0 (OT.tmp rfl) (by exact mem_at 0 rfl) (by omega) (by omega) (show tyOk Try.prog 45 false 1 = true from by decide +kernel))
            · exact rop_pure rfl (pu_move (OT.tmp rfl))
            · exact rop_pure rfl (pu_move (OT.tmp rfl))
            · exact rop_pure rfl (pu_move (OT.tmp rfl))
            · exact rop_pure rfl (pu_add' (OT.tmp rfl) (OT.tmp rfl) (by omega))
            · exact rop_pure rfl (pu_index_own (OT.tmp rfl) (by exact mem_at 0 rfl) (OT.tmp rfl) Try.underlying35 (show tyOk Try.prog 45 false 1 = true from by decide +kernel) (by omega) (by omega))
            · exact rop_pure rfl (pu_load_own0 (OT.tmp rfl) (by exact mem_at 0 rfl) (by omega) (by omega) (show tyOk Try.prog 45 false 1 = true from by decide +kernel))
          case h =>
            refine op_acts (acts_callv (OT.tmp rfl) (hfv _ _) (OTs.cons (OT.tmp rfl) (OTs.cons (OT.tmp rfl) OTs.nil)) (List.Perm.refl _)) (List.Perm.refl _) rfl rfl (fun _ _ => ?_)
            refine op_pure (pu_lss (OT.tmp rfl) OT.const) rfl rfl ?_
            refine op_pure (pu_not (OT.tmp rfl)) rfl rfl ?_
            refine tr_nil ?_
            refine then_normal ?_
            refine tr_cond (OT.tmp rfl) (fun c58 => ?_) (fun c58 => ?_)
            · try simp only [decide_eq_true_eq, decide_eq_false_iff_not, Bool.or_eq_true, Bool.and_eq_true, Bool.or_eq_false_iff, Bool.and_eq_false_iff, Bool.not_eq_true', Bool.not_eq_false', ne_eq, Classical.not_not] at c58
              have hfin : d1 = Sort.siftDown (ltc c) hi first lo d := by
                rw [if_pos (by rw [ltc_at (by omega) (by omega), show ((first + root : Nat) : Int) = (first : Int) + root from by omega, show ((first + ch : Nat) : Int) = (first : Int) + ch from by omega]; simpa using c58)] at hstep
                exact hstep.symm.trans hr
              refine tr_ret ?_
              refine then_ret ?_
              refine block_ret ?_
              refine then_ret ?_
              refine block_ret ?_
              exact ret_none .ret (.inl rfl) rfl () (fun _ => trivial) trivial (by rw [← hfin]; exact picks_cons 0 rfl picks_nil)
            · try simp only [decide_eq_true_eq, decide_eq_false_iff_not, Bool.or_eq_true, Bool.and_eq_true, Bool.or_eq_false_iff, Bool.and_eq_false_iff, Bool.not_eq_true', Bool.not_eq_false', ne_eq, Classical.not_not] at c58
              have hnx : Sort.siftDown (ltc c) hi first ch (Sort.swp d1 (first + root) (first + ch)) = Sort.siftDown (ltc c) hi first lo d := by
                rw [if_neg (by rw [ltc_at (by omega) (by omega), show ((first + root : Nat) : Int) = (first : Int) + root from by omega, show ((first + ch : Nat) : Int) = (first : Int) + ch from by omega]; simpa using c58)] at hstep
                exact hstep.symm.trans hr
              have hsw : (Sort.swp d1 (first + root) (first + ch)).toList = (d1.toList.set ((first : Int) + root).toNat (at' d1.toList ((first : Int) + ch))).set ((first : Int) + ch).toNat (at' d1.toList ((first : Int) + root)) := by
                rw [swp_items (by omega) (by omega) (by omega) (by omega)]; congr 2
              refine tr_skip ?_
              refine then_normal ?_
              refine tr_seq ?_
              -- region 6
              refine tr_env (es_cons (t := 0) (OT.tmp rfl) (es_cons (t := 2) (OT.tmp rfl) (es_cons (t := 3) (OT.tmp rfl) (es_cons (t := 4) (OT.tmp rfl) (es_cons (t := 10) (OT.tmp rfl) (es_cons (t := 11) (OT.tmp rfl) es_nil)))))) ?_
              apply tr_anyW (p := 21) (Lf := fun c => cond c ([OwnI 45 (kG Z) v (d1.toList.set ((first : Int) + root).toNat (at' d1.toList ((first : Int) + ch)))]) ([OwnI 45 (kG Z) v d1.toList])) (by kernel_rfl) (m := 22) (ns := [[(0, none)], [(3, none)], [(10, none)], [(60, some 1), (61, some 2)], [(0, none)], [(3, none)], [(11, none)], [(64, some 5), (65, some 6)], [(0, none)], [(3, none)], [(11, none)], [(68, some 9), (69, some 10)], [(67, some 8), (70, some 11)], [(71, some 12)], [(0, none)], [(3, none)], [(10, none)], [(74, some 15), (75, some 16)], [(73, some 14), (76, some 17)], [(77, some 18)], [(59, some 0), (62, some 3)], [(72, some 13), (79, some 20)]]) (by kernel_rfl) (by kernel_rfl) (Ts := [_, _, _, _, _, _, _, _, _, _, _, _, _, _, _, _, _, _, _, _, _, _]) rfl
              case hops =>
                refine ⟨?_, ⟨?_, ⟨?_, ⟨?_, ⟨?_, ⟨?_, ⟨?_, ⟨?_, ⟨?_, ⟨?_, ⟨?_, ⟨?_, ⟨?_, ⟨?_, ⟨?_, ⟨?_, ⟨?_, ⟨?_, ⟨?_, ⟨?_, ⟨?_, ⟨?_, trivial⟩⟩⟩⟩⟩⟩⟩⟩⟩⟩⟩⟩⟩⟩⟩⟩⟩⟩⟩⟩⟩⟩
                · intro c hc; cases c
                  · exact ropw_of (rop_pure rfl (pu_move (OT.tmp rfl)))
                  · exact Bool.noConfusion (hc.symm.trans (by kernel_rfl : okFlag _ _ _ _ = false))
                · intro c hc; cases c
                  · exact ropw_of (rop_pure rfl (pu_move (OT.tmp rfl)))
                  · exact Bool.noConfusion (hc.symm.trans (by kernel_rfl : okFlag _ _ _ _ = false))
                · intro c hc; cases c
                  · exact ropw_of (rop_pure rfl (pu_move (OT.tmp rfl)))
                  · exact Bool.noConfusion (hc.symm.trans (by kernel_rfl : okFlag _ _ _ _ = false))
                · intro c hc; cases c
                  · exact ropw_of (rop_pure rfl (pu_add' (OT.tmp rfl) (OT.tmp rfl) (by omega)))
                  · exact Bool.noConfusion (hc.symm.trans (by kernel_rfl : okFlag _ _ _ _ = false))
                · intro c hc; cases c
                  · exact ropw_of (rop_pure rfl (pu_move (OT.tmp rfl)))
                  · exact ropw_of (rop_pure rfl (pu_move (OT.tmp rfl)))
                · intro c hc; cases c
                  · exact ropw_of (rop_pure rfl (pu_move (OT.tmp rfl)))
                  · exact ropw_of (rop_pure rfl (pu_move (OT.tmp rfl)))
                · intro c hc; cases c
                  · exact ropw_of (rop_pure rfl (pu_move (OT.tmp rfl)))
                  · exact ropw_of (rop_pure rfl (pu_move (OT.tmp rfl)))
                · intro c hc; cases c
                  · exact ropw_of (rop_pure rfl (pu_add' (OT.tmp rfl) (OT.tmp rfl) (by omega)))
                  · exact ropw_of (rop_pure rfl (pu_add' (OT.tmp rfl) (OT.tmp rfl) (by omega)))
                · intro c hc; cases c
                  · exact ropw_of (rop_pure rfl (pu_move (OT.tmp rfl)))
                  · exact Bool.noConfusion (hc.symm.trans (by kernel_rfl : okFlag _ _ _ _ = false))
                · intro c hc; cases c
                  · exact ropw_of (rop_pure rfl (pu_move (OT.tmp rfl)))
                  · exact Bool.noConfusion (hc.symm.trans (by kernel_rfl : okFlag _ _ _ _ = false))
                · intro c hc; cases c
                  · exact ropw_of (rop_pure rfl (pu_move (OT.tmp rfl)))
                  · exact Bool.noConfusion (hc.symm.trans (by kernel_rfl : okFlag _ _ _ _ = false))
                · intro c hc; cases c
                  · exact ropw_of (rop_pure rfl (pu_add' (OT.tmp rfl) (OT.tmp rfl) (by omega)))
                  · exact Bool.noConfusion (hc.symm.trans (by kernel_rfl : okFlag _ _ _ _ = false))
                · intro c hc; cases c
                  · exact ropw_of (rop_pure rfl (pu_index_own (OT.tmp rfl) (by exact mem_at 0 rfl) (OT.tmp rfl) Try.underlying35 (show tyOk Try.prog 45 false 1 = true from by decide +kernel) (by omega) (by omega)))
                  · exact Bool.noConfusion (hc.symm.trans (by kernel_rfl : okFlag _ _ _ _ = false))
                · intro c hc; cases c
                  · exact ropw_of (rop_pure rfl (pu_load_own0 (OT.tmp rfl) (by exact mem_at 0 rfl) (by omega) (by omega) (show tyOk Try.prog 45 false 1 = true from by decide +kernel)))
                  · exact Bool.noConfusion (hc.symm.trans (by kernel_rfl : okFlag _ _ _ _ = false))
                · intro c hc; cases c
                  · exact ropw_of (rop_pure rfl (pu_move (OT.tmp rfl)))
                  · exact Bool.noConfusion (hc.symm.trans (by kernel_rfl : okFlag _ _ _ _ = false))
                · intro c hc; cases c
                  · exact ropw_of (rop_pure rfl (pu_move (OT.tmp rfl)))
                  · exact Bool.noConfusion (hc.symm.trans (by kernel_rfl : okFlag _ _ _ _ = false))
                · intro c hc; cases c
                  · exact ropw_of (rop_pure rfl (pu_move (OT.tmp rfl)))
                  · exact Bool.noConfusion (hc.symm.trans (by kernel_rfl : okFlag _ _ _ _ = false))
                · intro c hc; cases c
                  · exact ropw_of (rop_pure rfl (pu_add' (OT.tmp rfl) (OT.tmp rfl) (by omega)))
                  · exact Bool.noConfusion (hc.symm.trans (by kernel_rfl : okFlag _ _ _ _ = false))
                · intro c hc; cases c
                  · exact ropw_of (rop_pure rfl (pu_index_own (OT.tmp rfl) (by exact mem_at 0 rfl) (OT.tmp rfl) Try.underlying35 (show tyOk Try.prog 45 false 1 = true from by decide +kernel) (by omega) (by omega)))
                  · exact Bool.noConfusion (hc.symm.trans (by kernel_rfl : okFlag _ _ _ _ = false))
                · intro c hc; cases c
                  · exact ropw_of (rop_pure rfl (pu_load_own0 (OT.tmp rfl) (by exact mem_at 0 rfl) (by omega) (by omega) (show tyOk Try.prog 45 false 1 = true from by decide +kernel)))
                  · exact Bool.noConfusion (hc.symm.trans (by kernel_rfl : okFlag _ _ _ _ = false))
                · intro c hc; cases c
                  · exact ropw_of (rop_pure rfl (pu_index_own (OT.tmp rfl) (by exact mem_at 0 rfl) (OT.tmp rfl) Try.underlying35 (show tyOk Try.prog 45 false 1 = true from by decide +kernel) (by omega) (by omega)))
                  · exact Bool.noConfusion (hc.symm.trans (by kernel_rfl : okFlag _ _ _ _ = false))
                · intro c hc; cases c
                  · exact ropw_acts rfl (acts_store_own0 (OT.tmp rfl) (OT.tmp rfl) (by exact perm_at 0 rfl) (by omega) (by omega) (show tyOk Try.prog 45 false 1 = true from by decide +kernel)) (by exact perm_at 0 rfl) (fun _ => (by exact perm_at 0 rfl)) (fun _ _ _ _ h => h)
                  · exact Bool.noConfusion (hc.symm.trans (by kernel_rfl : okFlag _ _ _ _ = false))
              case h =>
                refine op_pure (pu_index_own (OT.tmp rfl) (by exact mem_at 0 rfl) (OT.tmp rfl) Try.underlying35 (show tyOk Try.prog 45 false 1 = true from by decide +kernel) (by omega) (by (simp; omega))) rfl rfl ?_
                refine op_acts (acts_store_own0 (OT.tmp rfl) (OT.tmp rfl) (by exact perm_at 0 rfl) (by omega) (by (simp; omega)) (show tyOk Try.prog 45 false 1 = true from by decide +kernel)) (by exact perm_at 0 rfl) rfl rfl (fun _ _ => ?_)
                refine tr_nil ?_
                refine then_normal ?_
                -- region 7
                refine tr_env (es_cons (t := 0) (OT.tmp rfl) (es_cons (t := 2) (OT.tmp rfl) (es_cons (t := 3) (OT.tmp rfl) (es_cons (t := 4) (OT.tmp rfl) (es_cons (t := 11) (OT.tmp rfl) es_nil))))) ?_
                refine tr_region ?_
                refine op_pure (pu_move (OT.tmp rfl)) rfl rfl ?_
                refine op_pure (pu_assign (OT.tmp rfl)) rfl rfl ?_
                refine tr_nil ?_
                refine block_normal ?_
                refine then_normal ?_
                exact tr_again (ch, Sort.swp d1 (first + root) (first + ch)) ⟨by show ch ≤ hi; omega, swp_size.trans hs1, hnx⟩ (by show hi - ch < hi - root; omega) (es_append (es_cons (t := 10) (by exact OT.tmp rfl) es_nil) (es_cons (t := 0) (OT.tmp rfl) (es_cons (t := 2) (OT.tmp rfl) (es_cons (t := 3) (OT.tmp rfl) (es_cons (t := 4) (OT.tmp rfl) es_nil))))) (own_picks (by rw [hsw]; exact (by repeat (first | exact picks_nil | refine picks_cons 0 rfl ?_ | refine picks_cons 1 rfl ?_ | refine picks_cons 2 rfl ?_ | refine picks_cons 3 rfl ?_ | refine picks_cons 4 rfl ?_ | refine picks_cons 5 rfl ?_ | refine picks_cons 6 rfl ?_))))
        · try simp only [decide_eq_true_eq, decide_eq_false_iff_not, Bool.or_eq_true, Bool.and_eq_true, Bool.or_eq_false_iff, Bool.and_eq_false_iff, Bool.not_eq_true', Bool.not_eq_false', ne_eq, Classical.not_not] at c40
          obtain ⟨ch, hch, hcl, hcr, hstep⟩ : ∃ ch : Nat, 2 * (root : Int) + 1 = ch ∧ ch < hi ∧ root < ch ∧ Sort.siftDown (ltc c) hi first root d1 = (if !ltc c d1[first + root]! d1[first + ch]! then d1 else Sort.siftDown (ltc c) hi first ch (Sort.swp d1 (first + root) (first + ch))) := ⟨2 * root + 1, by omega, by omega, by omega, sift_one (by omega) (fun h8 => by rw [ltc_at (by omega) (by omega), show ((first + (2 * root + 1) : Nat) : Int) = (first : Int) + (2 * root + 1) from by omega, show ((first + (2 * root + 1) + 1 : Nat) : Int) = (first : Int) + (2 * root + 1) + 1 from by omega]; rcases c40 with h9 | h9; omega; simpa using h9)⟩
          refine tr_skip ?_
          refine then_normal ?_
          refine tr_seq ?_
          refine tr_seq ?_
          -- region 5
          refine tr_env (es_cons (t := 0) (OT.tmp rfl) (es_cons (t := 2) (OT.tmp rfl) (es_cons (t := 3) (OT.tmp rfl) (es_cons (t := 4) (OT.tmp rfl) (es_cons (t := 10) (OT.tmp rfl) (es_cons (t := 11) (OT.tmp rfl) es_nil)))))) ?_
          rw [hch]
          apply tr_any (m := 13) (ns := [[(4, none)], [(0, none)], [(3, none)], [(10, none)], [(45, some 2), (46, some 3)], [(44, some 1), (47, some 4)], [(48, some 5)], [(0, none)], [(3, none)], [(11, none)], [(51, some 8), (52, some 9)], [(50, some 7), (53, some 10)], [(54, some 11)]]) (by kernel_rfl) (by kernel_rfl) (Ts := [_, _, _, _, _, _, _, _, _, _, _, _, _]) rfl
          case hops =>
            refine ⟨?_, ⟨?_, ⟨?_, ⟨?_, ⟨?_, ⟨?_, ⟨?_, ⟨?_, ⟨?_, ⟨?_, ⟨?_, ⟨?_, ⟨?_, trivial⟩⟩⟩⟩⟩⟩⟩⟩⟩⟩⟩⟩⟩
            · exact rop_pure rfl (pu_move (OT.tmp rfl))
            · exact rop_pure rfl (pu_move (OT.tmp rfl))
            · exact rop_pure rfl (pu_move (OT.tmp rfl))
            · exact rop_pure rfl (pu_move (OT.tmp rfl))
            · exact rop_pure rfl (pu_add' (OT.tmp rfl) (OT.tmp rfl) (by omega))
            · exact rop_pure rfl (pu_index_own (OT.tmp rfl) (by exact mem_at 0 rfl) (OT.tmp rfl) Try.underlying35 (show tyOk Try.prog 45 false 1 = true from by decide +kernel) (by omega) (by omega))
            · exact rop_pure rfl (pu_load_own0 (OT.tmp rfl) (by exact mem_at 0 rfl) (by omega) (by omega) (show tyOk Try.prog 45 false 1 = true from by decide +kernel))
            · exact rop_pure rfl (pu_move (OT.tmp rfl))
            · exact rop_pure rfl (pu_move (OT.tmp rfl))
            · exact rop_pure rfl (pu_move (OT.tmp rfl))
            · exact rop_pure rfl (pu_add' (OT.tmp rfl) (OT.tmp rfl) (by omega))
            · exact rop_pure rfl (pu_index_own (OT.tmp rfl) (by exact mem_at 0 rfl) (OT.tmp rfl) Try.underlying35 (show tyOk Try.prog 45 false 1 = true from by decide +kernel) (by omega) (by omega))
            · exact rop_pure rfl (pu_load_own0 (OT.tmp rfl) (by exact mem_at 0 rfl) (by omega) (by omega) (show tyOk Try.prog 45 false 1 = true from by decide +kernel))
          case h =>
            refine op_acts (acts_callv (OT.tmp rfl) (hfv _ _) (OTs.cons (OT.tmp rfl) (OTs.cons (OT.tmp rfl) OTs.nil)) (List.Perm.refl _)) (List.Perm.refl _) rfl rfl (fun _ _ => ?_)
            refine op_pure (pu_lss (OT.tmp rfl) OT.const) rfl rfl ?_
            refine op_pure (pu_not (OT.tmp rfl)) rfl rfl ?_
            refine tr_nil ?_
            refine then_normal ?_
            refine tr_cond (OT.tmp rfl) (fun c58 => ?_) (fun c58 => ?_)
            · try simp only [decide_eq_true_eq, decide_eq_false_iff_not, Bool.or_eq_true, Bool.and_eq_true, Bool.or_eq_false_iff, Bool.and_eq_false_iff, Bool.not_eq_true', Bool.not_eq_false', ne_eq, Classical.not_not] at c58
              have hfin : d1 = Sort.siftDown (ltc c) hi first lo d := by
                rw [if_pos (by rw [ltc_at (by omega) (by omega), show ((first + root : Nat) : Int) = (first : Int) + root from by omega, show ((first + ch : Nat) : Int) = (first : Int) + ch from by omega]; simpa using c58)] at hstep
                exact hstep.symm.trans hr
              refine tr_ret ?_
              refine then_ret ?_
              refine block_ret ?_
              refine then_ret ?_
              refine block_ret ?_
              exact ret_none .ret (.inl rfl) rfl () (fun _ => trivial) trivial (by rw [← hfin]; exact picks_cons 0 rfl picks_nil)
            · try simp only [decide_eq_true_eq, decide_eq_false_iff_not, Bool.or_eq_true, Bool.and_eq_true, Bool.or_eq_false_iff, Bool.and_eq_false_iff, Bool.not_eq_true', Bool.not_eq_false', ne_eq, Classical.not_not] at c58
              have hnx : Sort.siftDown (ltc c) hi first ch (Sort.swp d1 (first + root) (first + ch)) = Sort.siftDown (ltc c) hi first lo d := by
                rw [if_neg (by rw [ltc_at (by omega) (by omega), show ((first + root : Nat) : Int) = (first : Int) + root from by omega, show ((first + ch : Nat) : Int) = (first : Int) + ch from by omega]; simpa using c58)] at hstep
                exact hstep.symm.trans hr
              have hsw : (Sort.swp d1 (first + root) (first + ch)).toList = (d1.toList.set ((first : Int) + root).toNat (at' d1.toList ((first : Int) + ch))).set ((first : Int) + ch).toNat (at' d1.toList ((first : Int) + root)) := by
                rw [swp_items (by omega) (by omega) (by omega) (by omega)]; congr 2
              refine tr_skip ?_
              refine then_normal ?_
              refine tr_seq ?_
              -- region 6
              refine tr_env (es_cons (t := 0) (OT.tmp rfl) (es_cons (t := 2) (OT.tmp rfl) (es_cons (t := 3) (OT.tmp rfl) (es_cons (t := 4) (OT.tmp rfl) (es_cons (t := 10) (OT.tmp rfl) (es_cons (t := 11) (OT.tmp rfl) es_nil)))))) ?_
              apply tr_anyW (p := 21) (Lf := fun c => cond c ([OwnI 45 (kG Z) v (d1.toList.set ((first : Int) + root).toNat (at' d1.toList ((first : Int) + ch)))]) ([OwnI 45 (kG Z) v d1.toList])) (by kernel_rfl) (m := 22) (ns := [[(0, none)], [(3, none)], [(10, none)], [(60, some 1), (61, some 2)], [(0, none)], [(3, none)], [(11, none)], [(64, some 5), (65, some 6)], [(0, none)], [(3, none)], [(11, none)], [(68, some 9), (69, some 10)], [(67, some 8), (70, some 11)], [(71, some 12)], [(0, none)], [(3, none)], [(10, none)], [(74, some 15), (75, some 16)], [(73, some 14), (76, some 17)], [(77, some 18)], [(59, some 0), (62, some 3)], [(72, some 13), (79, some 20)]]) (by kernel_rfl) (by kernel_rfl) (Ts := [_, _, _, _, _, _, _, _, _, _, _, _, _, _, _, _, _, _, _, _, _, _]) rfl
              case hops =>
                refine ⟨?_, ⟨?_, ⟨?_, ⟨?_, ⟨?_, ⟨?_, ⟨?_, ⟨?_, ⟨?_, ⟨?_, ⟨?_, ⟨?_, ⟨?_, ⟨?_, ⟨?_, ⟨?_, ⟨?_, ⟨?_, ⟨?_, ⟨?_, ⟨?_, ⟨?_, trivial⟩⟩⟩⟩⟩⟩⟩⟩⟩⟩⟩⟩⟩⟩⟩⟩⟩⟩⟩⟩⟩⟩
                · intro c hc; cases c
                  · exact ropw_of (rop_pure rfl (pu_move (OT.tmp rfl)))
                  · exact Bool.noConfusion (hc.symm.trans (by kernel_rfl : okFlag _ _ _ _ = false))
                · intro c hc; cases c
                  · exact ropw_of (rop_pure rfl (pu_move (OT.tmp rfl)))
                  · exact Bool.noConfusion (hc.symm.trans (by kernel_rfl : okFlag _ _ _ _ = false))
                · intro c hc; cases c
                  · exact ropw_of (rop_pure rfl (pu_move (OT.tmp rfl)))
                  · exact Bool.noConfusion (hc.symm.trans (by kernel_rfl : okFlag _ _ _ _ = false))
                · intro c hc; cases c
                  · exact ropw_of (rop_pure rfl (pu_add' (OT.tmp rfl) (OT.tmp rfl) (by omega)))
                  · exact Bool.noConfusion (hc.symm.trans (by kernel_rfl : okFlag _ _ _ _ = false))
                · intro c hc; cases c
                  · exact ropw_of (rop_pure rfl (pu_move (OT.tmp rfl)))
                  · exact ropw_of (rop_pure rfl (pu_move (OT.tmp rfl)))
                · intro c hc; cases c
                  · exact ropw_of (rop_pure rfl (pu_move (OT.tmp rfl)))
                  · exact ropw_of (rop_pure rfl (pu_move (OT.tmp rfl)))
                · intro c hc; cases c
                  · exact ropw_of (rop_pure rfl (pu_move (OT.tmp rfl)))
                  · exact ropw_of (rop_pure rfl (pu_move (OT.tmp rfl)))
                · intro c hc; cases c
                  · exact ropw_of (rop_pure rfl (pu_add' (OT.tmp rfl) (OT.tmp rfl) (by omega)))
                  · exact ropw_of (rop_pure rfl (pu_add' (OT.tmp rfl) (OT.tmp rfl) (by omega)))
                · intro c hc; cases c
                  · exact ropw_of (rop_pure rfl (pu_move (OT.tmp rfl)))
                  · exact Bool.noConfusion (hc.symm.trans (by kernel_rfl : okFlag _ _ _ _ = false))
                · intro c hc; cases c
                  · exact ropw_of (rop_pure rfl (pu_move (OT.tmp rfl)))
                  · exact Bool.noConfusion (hc.symm.trans (by kernel_rfl : okFlag _ _ _ _ = false))
                · intro c hc; cases c
                  · exact ropw_of (rop_pure rfl (pu_move (OT.tmp rfl)))
                  · exact Bool.noConfusion (hc.symm.trans (by kernel_rfl : okFlag _ _ _ _ = false))
                · intro c hc; cases c
                  · exact ropw_of (rop_pure rfl (pu_add' (OT.tmp rfl) (OT.tmp rfl) (by omega)))
                  · exact Bool.noConfusion (hc.symm.trans (by kernel_rfl : okFlag _ _ _ _ = false))
                · intro c hc; cases c
                  · exact ropw_of (rop_pure rfl (pu_index_own (OT.tmp rfl) (by exact mem_at 0 rfl) (OT.tmp rfl) Try.underlying35 (show tyOk Try.prog 45 false 1 = true from by decide +kernel) (by omega) (by omega)))
                  · exact Bool.noConfusion (hc.symm.trans (by kernel_rfl : okFlag _ _ _ _ = false))
                · intro c hc; cases c
                  · exact ropw_of (rop_pure rfl (pu_load_own0 (OT.tmp rfl) (by exact mem_at 0 rfl) (by omega) (by omega) (show tyOk Try.prog 45 false 1 = true from by decide +kernel)))
                  · exact Bool.noConfusion (hc.symm.trans (by kernel_rfl : okFlag _ _ _ _ = false))
                · intro c hc; cases c
                  · exact ropw_of (rop_pure rfl (pu_move (OT.tmp rfl)))
                  · exact Bool.noConfusion (hc.symm.trans (by kernel_rfl : okFlag _ _ _ _ = false))
                · intro c hc; cases c
                  · exact ropw_of (rop_pure rfl (pu_move (OT.tmp rfl)))
                  · exact Bool.noConfusion (hc.symm.trans (by kernel_rfl : okFlag _ _ _ _ = false))
                · intro c hc; cases c
                  · exact ropw_of (rop_pure rfl (pu_move (OT.tmp rfl)))
                  · exact Bool.noConfusion (hc.symm.trans (by kernel_rfl : okFlag _ _ _ _ = false))
                · intro c hc; cases c
                  · exact ropw_of (rop_pure rfl (pu_add' (OT.tmp rfl) (OT.tmp rfl) (by omega)))
                  · exact Bool.noConfusion (hc.symm.trans (by kernel_rfl : okFlag _ _ _ _ = false))
                · intro c hc; cases c
                  · exact ropw_of (rop_pure rfl (pu_index_own (OT.tmp rfl) (by exact mem_at 0 rfl) (OT.tmp rfl) Try.underlying35 (show tyOk Try.prog 45 false 1 = true from by decide +kernel) (by omega) (by omega)))
                  · exact Bool.noConfusion (hc.symm.trans (by kernel_rfl : okFlag _ _ _ _ = false))
                · intro c hc; cases c
                  · exact ropw_of (rop_pure rfl (pu_load_own0 (OT.tmp rfl) (by exact mem_at 0 rfl) (by omega) (by omega) (show tyOk Try.prog 45 false 1 = true from by decide +kernel)))
                  · exact Bool.noConfusion (hc.symm.trans (by kernel_rfl : okFlag _ _ _ _ = false))
                · intro c hc; cases c
                  · exact ropw_of (rop_pure rfl (pu_index_own (OT.tmp rfl) (by exact mem_at 0 rfl) (OT.tmp rfl) Try.underlying35 (show tyOk Try.prog 45 false 1 = true from by decide +kernel) (by omega) (by omega)))
                  · exact Bool.noConfusion (hc.symm.trans (by kernel_rfl : okFlag _ _ _ _ = false))
                · intro c hc; cases c
                  · exact ropw_acts rfl (acts_store_own0 (OT.tmp rfl) (OT.tmp rfl) (by exact perm_at 0 rfl) (by omega) (by omega) (show tyOk Try.prog 45 false 1 = true from by decide +kernel)) (by exact perm_at 0 rfl) (fun _ => (by exact perm_at 0 rfl)) (fun _ _ _ _ h => h)
                  · exact Bool.noConfusion (hc.symm.trans (by kernel_rfl : okFlag _ _ _ _ = false))
              case h =>
                refine op_pure (pu_index_own (OT.tmp rfl) (by exact mem_at 0 rfl) (OT.tmp rfl) Try.underlying35 (show tyOk Try.prog 45 false 1 = true from by decide +kernel) (by omega) (by (simp; omega))) rfl rfl ?_
                refine op_acts (acts_store_own0 (OT.tmp rfl) (OT.tmp rfl) (by exact perm_at 0 rfl) (by omega) (by (simp; omega)) (show tyOk Try.prog 45 false 1 = true from by decide +kernel)) (by exact perm_at 0 rfl) rfl rfl (fun _ _ => ?_)
                refine tr_nil ?_
                refine then_normal ?_
                -- region 7
                refine tr_env (es_cons (t := 0) (OT.tmp rfl) (es_cons (t := 2) (OT.tmp rfl) (es_cons (t := 3) (OT.tmp rfl) (es_cons (t := 4) (OT.tmp rfl) (es_cons (t := 11) (OT.tmp rfl) es_nil))))) ?_
                refine tr_region ?_
                refine op_pure (pu_move (OT.tmp rfl)) rfl rfl ?_
                refine op_pure (pu_assign (OT.tmp rfl)) rfl rfl ?_
                refine tr_nil ?_
                refine block_normal ?_
                refine then_normal ?_
                exact tr_again (ch, Sort.swp d1 (first + root) (first + ch)) ⟨by show ch ≤ hi; omega, swp_size.trans hs1, hnx⟩ (by show hi - ch < hi - root; omega) (es_append (es_cons (t := 10) (by exact OT.tmp rfl) es_nil) (es_cons (t := 0) (OT.tmp rfl) (es_cons (t := 2) (OT.tmp rfl) (es_cons (t := 3) (OT.tmp rfl) (es_cons (t := 4) (OT.tmp rfl) es_nil))))) (own_picks (by rw [hsw]; exact (by repeat (first | exact picks_nil | refine picks_cons 0 rfl ?_ | refine picks_cons 1 rfl ?_ | refine picks_cons 2 rfl ?_ | refine picks_cons 3 rfl ?_ | refine picks_cons 4 rfl ?_ | refine picks_cons 5 rfl ?_ | refine picks_cons 6 rfl ?_))))
set_option maxHeartbeats 1000000 in
set_option maxRecDepth 20000 in
/-- slices.heapSortCmpFunc[rhizome/api.Tuple] -/
theorem heap_fn (v fv : Value) (d : DA) (a b : Nat) (c : List Int → List Int → Int) (hm : d.size < 4611686018427387904) (hab : a < b) (hb : b ≤ d.size) (hfv : ∀ x y, CtV Try.prog fv [(kG Z).T x, (kG Z).T y] [] Unit (fun _ => I64 (c x y)) (fun _ => []) (fun _ => True)) : Ct Try.prog 41 [IsV v, I64 (a : Int), I64 (b : Int), IsV fv] ([OwnI 45 (kG Z) v d.toList]) Unit (fun _ => AnyT) (fun _ => [OwnI 45 (kG Z) v (Sort.heapSort (ltc c) d a b).toList]) (fun _ => True) := by
  refine fn_intro Try.func41 rfl rfl ?_
  intro H w
  refine tr_seq ?_
  -- region 0
  refine tr_env (es_cons (t := 0) (OT.tmp rfl) (es_cons (t := 1) (OT.tmp rfl) (es_cons (t := 2) (OT.tmp rfl) (es_cons (t := 3) (OT.tmp rfl) es_nil)))) ?_
  refine tr_region ?_
  refine op_pure (pu_move (OT.tmp rfl)) rfl rfl ?_
  refine op_pure (pu_assign (OT.tmp rfl)) rfl rfl ?_
  refine tr_nil ?_
  refine then_normal ?_
  refine tr_seq ?_
  -- region 1
  refine tr_env (es_cons (t := 0) (OT.tmp rfl) (es_cons (t := 1) (OT.tmp rfl) (es_cons (t := 2) (OT.tmp rfl) (es_cons (t := 3) (OT.tmp rfl) (es_cons (t := 8) (OT.tmp rfl) es_nil))))) ?_
  refine tr_region ?_
  refine op_pure (pu_assign OT.const) rfl rfl ?_
  refine tr_nil ?_
  refine then_normal ?_
  refine tr_seq ?_
  -- region 2
  refine tr_env (es_cons (t := 0) (OT.tmp rfl) (es_cons (t := 1) (OT.tmp rfl) (es_cons (t := 2) (OT.tmp rfl) (es_cons (t := 3) (OT.tmp rfl) (es_cons (t := 8) (OT.tmp rfl) (es_cons (t := 9) (OT.tmp rfl) es_nil)))))) ?_
  refine tr_region ?_
  refine op_pure (pu_move (OT.tmp rfl)) rfl rfl ?_
  refine op_pure (pu_move (OT.tmp rfl)) rfl rfl ?_
  refine op_pure (pu_sub' (OT.tmp rfl) (OT.tmp rfl) (by omega)) rfl rfl ?_
  refine op_pure (pu_assign (OT.tmp rfl)) rfl rfl ?_
  refine tr_nil ?_
  refine then_normal ?_
  refine tr_seq ?_
  refine tr_seq ?_
  -- region 3
  refine tr_env (es_cons (t := 0) (OT.tmp rfl) (es_cons (t := 3) (OT.tmp rfl) (es_cons (t := 8) (OT.tmp rfl) (es_cons (t := 9) (OT.tmp rfl) (es_cons (t := 10) (OT.tmp rfl) es_nil))))) ?_
  rw [show (b : Int) - a = ((b - a : Nat) : Int) from by omega]
  obtain ⟨n, hn⟩ : ∃ n : Nat, b - a = n := ⟨_, rfl⟩
  rw [hn]
  refine tr_region ?_
  refine op_pure (pu_move (OT.tmp rfl)) rfl rfl ?_
  refine op_pure (pu_sub' (OT.tmp rfl) OT.const (by omega)) rfl rfl ?_
  refine op_pure (pu_quo' (OT.tmp rfl) OT.const (by omega) (by omega)) rfl rfl ?_
  refine op_pure (pu_assign (OT.tmp rfl)) rfl rfl ?_
  refine tr_nil ?_
  refine then_normal ?_
  refine tr_block ?_
  refine tr_loopK (σ := Nat × DA) (es_cons (t := 0) (OT.tmp rfl) (es_cons (t := 3) (OT.tmp rfl) (es_cons (t := 8) (OT.tmp rfl) (es_cons (t := 9) (OT.tmp rfl) (es_cons (t := 10) (OT.tmp rfl) es_nil))))) (fun s => [(11, I64 ((s.1 : Int) - 1))]) (fun s => [OwnI 45 (kG Z) v s.2.toList]) (fun s => s.1 ≤ n ∧ s.2.size = d.size ∧ Sort.heapBuild (ltc c) n a s.1 s.2 = Sort.heapBuild (ltc c) n a ((n - 1) / 2 + 1) d) (fun s => s.1) ((n - 1) / 2 + 1, d) ⟨by show (n - 1) / 2 + 1 ≤ n; omega, rfl, rfl⟩ ?_ (own_picks (by repeat (first | exact picks_nil | refine picks_cons 0 rfl ?_ | refine picks_cons 1 rfl ?_ | refine picks_cons 2 rfl ?_ | refine picks_cons 3 rfl ?_ | refine picks_cons 4 rfl ?_ | refine picks_cons 5 rfl ?_ | refine picks_cons 6 rfl ?_))) ?_
  · exact (es_cons (t := 11) (by exact OT.val (OT.tmp rfl) (congrArg (Value.int _) (by omega))) es_nil)
  · rintro ⟨k, d1⟩ ⟨hk, hs1, hr⟩
    dsimp only at hk hs1 hr ⊢
    have hl1 : d1.toList.length = d1.size := Array.length_toList
    refine tr_seq ?_
    refine tr_seq ?_
    -- region 4
    refine tr_env (es_cons (t := 0) (OT.tmp rfl) (es_cons (t := 3) (OT.tmp rfl) (es_cons (t := 8) (OT.tmp rfl) (es_cons (t := 9) (OT.tmp rfl) (es_cons (t := 10) (OT.tmp rfl) (es_cons (t := 11) (OT.tmp rfl) es_nil)))))) ?_
    refine tr_region ?_
    refine op_pure (pu_move (OT.tmp rfl)) rfl rfl ?_
    refine op_pure (pu_geq (OT.tmp rfl) OT.const) rfl rfl ?_
    refine tr_nil ?_
    refine then_normal ?_
    refine tr_cond (OT.tmp rfl) (fun c21 => ?_) (fun c21 => ?_)
    · try simp only [decide_eq_true_eq, decide_eq_false_iff_not, Bool.or_eq_true, Bool.and_eq_true, Bool.or_eq_false_iff, Bool.and_eq_false_iff, Bool.not_eq_true', Bool.not_eq_false', ne_eq, Classical.not_not] at c21
      obtain ⟨k, rfl⟩ : ∃ k', k = k' + 1 := ⟨k - 1, by omega⟩
      rw [show ((k + 1 : Nat) : Int) - 1 = (k : Int) from by omega]
      refine tr_skip ?_
      refine then_normal ?_
      refine tr_seq ?_
      refine tr_block ?_
      -- region 6
      refine tr_env (es_cons (t := 0) (OT.tmp rfl) (es_cons (t := 3) (OT.tmp rfl) (es_cons (t := 8) (OT.tmp rfl) (es_cons (t := 9) (OT.tmp rfl) (es_cons (t := 10) (OT.tmp rfl) (es_cons (t := 11) (OT.tmp rfl) es_nil)))))) ?_
      refine tr_region ?_
      refine op_pure (pu_move (OT.tmp rfl)) rfl rfl ?_
      refine op_pure (pu_move (OT.tmp rfl)) rfl rfl ?_
      refine op_pure (pu_move (OT.tmp rfl)) rfl rfl ?_
      refine op_pure (pu_move (OT.tmp rfl)) rfl rfl ?_
      refine op_pure (pu_move (OT.tmp rfl)) rfl rfl ?_
      refine op_acts (acts_call (sift_fn v fv d1 k n a c (by omega) (by omega) (by omega) hfv) (show enters Try.prog 53 = true from by decide +kernel) (OTs.cons (OT.tmp rfl) (OTs.cons (OT.tmp rfl) (OTs.cons (OT.tmp rfl) (OTs.cons (OT.tmp rfl) (OTs.cons (OT.tmp rfl) OTs.nil))))) (by exact perm_at 0 rfl)) (by exact perm_at 0 rfl) rfl rfl (fun _ _ => ?_)
      refine tr_nil ?_
      refine block_normal ?_
      refine then_normal ?_
      -- region 5
      refine tr_env (es_cons (t := 0) (OT.tmp rfl) (es_cons (t := 3) (OT.tmp rfl) (es_cons (t := 8) (OT.tmp rfl) (es_cons (t := 9) (OT.tmp rfl) (es_cons (t := 10) (OT.tmp rfl) (es_cons (t := 11) (OT.tmp rfl) es_nil)))))) ?_
      refine tr_region ?_
      refine op_pure (pu_move (OT.tmp rfl)) rfl rfl ?_
      refine op_pure (pu_sub' (OT.tmp rfl) OT.const (by omega)) rfl rfl ?_
      refine op_pure (pu_assign (OT.tmp rfl)) rfl rfl ?_
      refine tr_nil ?_
      refine then_normal ?_
      exact tr_again (k, Sort.siftDown (ltc c) n a k d1) ⟨by show k ≤ n; omega, (sift_size _ _ _ _).trans hs1, hr⟩ (by omega) (es_append (es_cons (t := 11) (by exact OT.tmp rfl) es_nil) (es_cons (t := 0) (OT.tmp rfl) (es_cons (t := 3) (OT.tmp rfl) (es_cons (t := 8) (OT.tmp rfl) (es_cons (t := 9) (OT.tmp rfl) (es_cons (t := 10) (OT.tmp rfl) es_nil)))))) (own_picks (by repeat (first | exact picks_nil | refine picks_cons 0 rfl ?_ | refine picks_cons 1 rfl ?_ | refine picks_cons 2 rfl ?_ | refine picks_cons 3 rfl ?_ | refine picks_cons 4 rfl ?_ | refine picks_cons 5 rfl ?_ | refine picks_cons 6 rfl ?_)))
    · try simp only [decide_eq_true_eq, decide_eq_false_iff_not, Bool.or_eq_true, Bool.and_eq_true, Bool.or_eq_false_iff, Bool.and_eq_false_iff, Bool.not_eq_true', Bool.not_eq_false', ne_eq, Classical.not_not] at c21
      obtain rfl : k = 0 := by omega
      refine tr_exit ?_
      refine then_exit ?_
      refine then_exit ?_
      refine block_hit ?_
      refine then_normal ?_
      refine tr_seq ?_
      -- region 7
      refine tr_env (es_cons (t := 0) (OT.tmp rfl) (es_cons (t := 3) (OT.tmp rfl) (es_cons (t := 8) (OT.tmp rfl) (es_cons (t := 9) (OT.tmp rfl) (es_cons (t := 10) (OT.tmp rfl) es_nil))))) ?_
      refine tr_region ?_
      refine op_pure (pu_move (OT.tmp rfl)) rfl rfl ?_
      refine op_pure (pu_sub' (OT.tmp rfl) OT.const (by omega)) rfl rfl ?_
      refine op_pure (pu_assign (OT.tmp rfl)) rfl rfl ?_
      refine tr_nil ?_
      refine then_normal ?_
      refine tr_block ?_
      refine tr_loopK (σ := Nat × DA) (es_cons (t := 0) (OT.tmp rfl) (es_cons (t := 3) (OT.tmp rfl) (es_cons (t := 8) (OT.tmp rfl) (es_cons (t := 9) (OT.tmp rfl) es_nil)))) (fun s => [(12, I64 ((s.1 : Int) - 1))]) (fun s => [OwnI 45 (kG Z) v s.2.toList]) (fun s => s.1 ≤ n ∧ s.2.size = d.size ∧ Sort.heapPop (ltc c) a s.1 s.2 = Sort.heapSort (ltc c) d a b) (fun s => s.1) (n, d1) ⟨Nat.le_refl _, hs1, by show Sort.heapPop (ltc c) a n d1 = _; rw [heap_eq hab, hn, ← hr]; rfl⟩ ?_ (own_picks (by repeat (first | exact picks_nil | refine picks_cons 0 rfl ?_ | refine picks_cons 1 rfl ?_ | refine picks_cons 2 rfl ?_ | refine picks_cons 3 rfl ?_ | refine picks_cons 4 rfl ?_ | refine picks_cons 5 rfl ?_ | refine picks_cons 6 rfl ?_))) ?_
      · exact (es_cons (t := 12) (by exact OT.tmp rfl) es_nil)
      · rintro ⟨k2, d2⟩ ⟨hk2, hs2, hr2⟩
        dsimp only at hk2 hs2 hr2 ⊢
        have hl2 : d2.toList.length = d2.size := Array.length_toList
        refine tr_seq ?_
        refine tr_seq ?_
        -- region 8
        refine tr_env (es_cons (t := 0) (OT.tmp rfl) (es_cons (t := 3) (OT.tmp rfl) (es_cons (t := 8) (OT.tmp rfl) (es_cons (t := 9) (OT.tmp rfl) (es_cons (t := 12) (OT.tmp rfl) es_nil))))) ?_
        refine tr_region ?_
        refine op_pure (pu_move (OT.tmp rfl)) rfl rfl ?_
        refine op_pure (pu_geq (OT.tmp rfl) OT.const) rfl rfl ?_
        refine tr_nil ?_
        refine then_normal ?_
        refine tr_cond (OT.tmp rfl) (fun c33 => ?_) (fun c33 => ?_)
        · try simp only [decide_eq_true_eq, decide_eq_false_iff_not, Bool.or_eq_true, Bool.and_eq_true, Bool.or_eq_false_iff, Bool.and_eq_false_iff, Bool.not_eq_true', Bool.not_eq_false', ne_eq, Classical.not_not] at c33
          obtain ⟨k2, rfl⟩ : ∃ k', k2 = k' + 1 := ⟨k2 - 1, by omega⟩
          rw [show ((k2 + 1 : Nat) : Int) - 1 = (k2 : Int) from by omega]
          have hsw : (Sort.swp d2 a (a + k2)).toList = (d2.toList.set (a : Int).toNat (at' d2.toList ((a : Int) + k2))).set ((a : Int) + k2).toNat (at' d2.toList (a : Int)) := by
            rw [swp_items (by omega) (by omega) (by omega) (by omega)]; congr 2
          refine tr_skip ?_
          refine then_normal ?_
          refine tr_seq ?_
          refine tr_block ?_
          refine tr_seq ?_
          -- region 10
          refine tr_env (es_cons (t := 0) (OT.tmp rfl) (es_cons (t := 3) (OT.tmp rfl) (es_cons (t := 8) (OT.tmp rfl) (es_cons (t := 9) (OT.tmp rfl) (es_cons (t := 12) (OT.tmp rfl) es_nil))))) ?_
          apply tr_anyW (p := 17) (Lf := fun c => cond c ([OwnI 45 (kG Z) v (d2.toList.set (a : Int).toNat (at' d2.toList ((a : Int) + k2)))]) ([OwnI 45 (kG Z) v d2.toList])) (by kernel_rfl) (m := 18) (ns := [[(0, none)], [(8, none)], [(0, none)], [(8, none)], [(12, none)], [(39, some 3), (40, some 4)], [(0, none)], [(8, none)], [(12, none)], [(43, some 7), (44, some 8)], [(42, some 6), (45, some 9)], [(46, some 10)], [(0, none)], [(8, none)], [(48, some 12), (49, some 13)], [(50, some 14)], [(36, some 0), (37, some 1)], [(47, some 11), (52, some 16)]]) (by kernel_rfl) (by kernel_rfl) (Ts := [_, _, _, _, _, _, _, _, _, _, _, _, _, _, _, _, _, _]) rfl
          case hops =>
            refine ⟨?_, ⟨?_, ⟨?_, ⟨?_, ⟨?_, ⟨?_, ⟨?_, ⟨?_, ⟨?_, ⟨?_, ⟨?_, ⟨?_, ⟨?_, ⟨?_, ⟨?_, ⟨?_, ⟨?_, ⟨?_, trivial⟩⟩⟩⟩⟩⟩⟩⟩⟩⟩⟩⟩⟩⟩⟩⟩⟩⟩
            · intro c hc; cases c
              · exact ropw_of (rop_pure rfl (pu_move (OT.tmp rfl)))
              · exact Bool.noConfusion (hc.symm.trans (by kernel_rfl : okFlag _ _ _ _ = false))
            · intro c hc; cases c
              · exact ropw_of (rop_pure rfl (pu_move (OT.tmp rfl)))
              · exact Bool.noConfusion (hc.symm.trans (by kernel_rfl : okFlag _ _ _ _ = false))
            · intro c hc; cases c
              · exact ropw_of (rop_pure rfl (pu_move (OT.tmp rfl)))
              · exact ropw_of (rop_pure rfl (pu_move (OT.tmp rfl)))
            · intro c hc; cases c
              · exact ropw_of (rop_pure rfl (pu_move (OT.tmp rfl)))
              · exact ropw_of (rop_pure rfl (pu_move (OT.tmp rfl)))
            · intro c hc; cases c
              · exact ropw_of (rop_pure rfl (pu_move (OT.tmp rfl)))
              · exact ropw_of (rop_pure rfl (pu_move (OT.tmp rfl)))
            · intro c hc; cases c
              · exact ropw_of (rop_pure rfl (pu_add' (OT.tmp rfl) (OT.tmp rfl) (by omega)))
              · exact ropw_of (rop_pure rfl (pu_add' (OT.tmp rfl) (OT.tmp rfl) (by omega)))
            · intro c hc; cases c
              · exact ropw_of (rop_pure rfl (pu_move (OT.tmp rfl)))
              · exact Bool.noConfusion (hc.symm.trans (by kernel_rfl : okFlag _ _ _ _ = false))
            · intro c hc; cases c
              · exact ropw_of (rop_pure rfl (pu_move (OT.tmp rfl)))
              · exact Bool.noConfusion (hc.symm.trans (by kernel_rfl : okFlag _ _ _ _ = false))
            · intro c hc; cases c
              · exact ropw_of (rop_pure rfl (pu_move (OT.tmp rfl)))
              · exact Bool.noConfusion (hc.symm.trans (by kernel_rfl : okFlag _ _ _ _ = false))
            · intro c hc; cases c
              · exact ropw_of (rop_pure rfl (pu_add' (OT.tmp rfl) (OT.tmp rfl) (by omega)))
              · exact Bool.noConfusion (hc.symm.trans (by kernel_rfl : okFlag _ _ _ _ = false))
            · intro c hc; cases c
              · exact ropw_of (rop_pure rfl (pu_index_own (OT.tmp rfl) (by exact mem_at 0 rfl) (OT.tmp rfl) Try.underlying35 (show tyOk Try.prog 45 false 1 = true from by decide +kernel) (by omega) (by omega)))
              · exact Bool.noConfusion (hc.symm.trans (by kernel_rfl : okFlag _ _ _ _ = false))
            · intro c hc; cases c
              · exact ropw_of (rop_pure rfl (pu_load_own0 (OT.tmp rfl) (by exact mem_at 0 rfl) (by omega) (by omega) (show tyOk Try.prog 45 false 1 = true from by decide +kernel)))
              · exact Bool.noConfusion (hc.symm.trans (by kernel_rfl : okFlag _ _ _ _ = false))
            · intro c hc; cases c
              · exact ropw_of (rop_pure rfl (pu_move (OT.tmp rfl)))
              · exact Bool.noConfusion (hc.symm.trans (by kernel_rfl : okFlag _ _ _ _ = false))
            · intro c hc; cases c
              · exact ropw_of (rop_pure rfl (pu_move (OT.tmp rfl)))
              · exact Bool.noConfusion (hc.symm.trans (by kernel_rfl : okFlag _ _ _ _ = false))
            · intro c hc; cases c
              · exact ropw_of (rop_pure rfl (pu_index_own (OT.tmp rfl) (by exact mem_at 0 rfl) (OT.tmp rfl) Try.underlying35 (show tyOk Try.prog 45 false 1 = true from by decide +kernel) (by omega) (by omega)))
              · exact Bool.noConfusion (hc.symm.trans (by kernel_rfl : okFlag _ _ _ _ = false))
            · intro c hc; cases c
              · exact ropw_of (rop_pure rfl (pu_load_own0 (OT.tmp rfl) (by exact mem_at 0 rfl) (by omega) (by omega) (show tyOk Try.prog 45 false 1 = true from by decide +kernel)))
              · exact Bool.noConfusion (hc.symm.trans (by kernel_rfl : okFlag _ _ _ _ = false))
            · intro c hc; cases c
              · exact ropw_of (rop_pure rfl (pu_index_own (OT.tmp rfl) (by exact mem_at 0 rfl) (OT.tmp rfl) Try.underlying35 (show tyOk Try.prog 45 false 1 = true from by decide +kernel) (by omega) (by omega)))
              · exact Bool.noConfusion (hc.symm.trans (by kernel_rfl : okFlag _ _ _ _ = false))
            · intro c hc; cases c
              · exact ropw_acts rfl (acts_store_own0 (OT.tmp rfl) (OT.tmp rfl) (by exact perm_at 0 rfl) (by omega) (by omega) (show tyOk Try.prog 45 false 1 = true from by decide +kernel)) (by exact perm_at 0 rfl) (fun _ => (by exact perm_at 0 rfl)) (fun _ _ _ _ h => h)
              · exact Bool.noConfusion (hc.symm.trans (by kernel_rfl : okFlag _ _ _ _ = false))
          case h =>
            refine op_pure (pu_index_own (OT.tmp rfl) (by exact mem_at 0 rfl) (OT.tmp rfl) Try.underlying35 (show tyOk Try.prog 45 false 1 = true from by decide +kernel) (by omega) (by (simp; omega))) rfl rfl ?_
            refine op_acts (acts_store_own0 (OT.tmp rfl) (OT.tmp rfl) (by exact perm_at 0 rfl) (by omega) (by (simp; omega)) (show tyOk Try.prog 45 false 1 = true from by decide +kernel)) (by exact perm_at 0 rfl) rfl rfl (fun _ _ => ?_)
            refine tr_nil ?_
            refine then_normal ?_
            -- region 11
            refine tr_env (es_cons (t := 0) (OT.tmp rfl) (es_cons (t := 3) (OT.tmp rfl) (es_cons (t := 8) (OT.tmp rfl) (es_cons (t := 9) (OT.tmp rfl) (es_cons (t := 12) (OT.tmp rfl) es_nil))))) ?_
            rw [← hsw]
            refine tr_region ?_
            refine op_pure (pu_move (OT.tmp rfl)) rfl rfl ?_
            refine op_pure (pu_move (OT.tmp rfl)) rfl rfl ?_
            refine op_pure (pu_move (OT.tmp rfl)) rfl rfl ?_
            refine op_pure (pu_move (OT.tmp rfl)) rfl rfl ?_
            refine op_pure (pu_move (OT.tmp rfl)) rfl rfl ?_
            refine op_acts (acts_call (sift_fn v fv (Sort.swp d2 a (a + k2)) 0 k2 a c (by rw [swp_size]; omega) (by rw [swp_size]; omega) (by omega) hfv) (show enters Try.prog 53 = true from by decide +kernel) (OTs.cons (OT.tmp rfl) (OTs.cons (OT.tmp rfl) (OTs.cons (OT.tmp rfl) (OTs.cons (OT.tmp rfl) (OTs.cons (OT.tmp rfl) OTs.nil))))) (by exact perm_at 0 rfl)) (by exact perm_at 0 rfl) rfl rfl (fun _ _ => ?_)
            refine tr_nil ?_
            refine block_normal ?_
            refine then_normal ?_
            -- region 9
            refine tr_env (es_cons (t := 0) (OT.tmp rfl) (es_cons (t := 3) (OT.tmp rfl) (es_cons (t := 8) (OT.tmp rfl) (es_cons (t := 9) (OT.tmp rfl) (es_cons (t := 12) (OT.tmp rfl) es_nil))))) ?_
            refine tr_region ?_
            refine op_pure (pu_move (OT.tmp rfl)) rfl rfl ?_
            refine op_pure (pu_sub' (OT.tmp rfl) OT.const (by omega)) rfl rfl ?_
            refine op_pure (pu_assign (OT.tmp rfl)) rfl rfl ?_
            refine tr_nil ?_
            refine then_normal ?_
            exact tr_again (k2, Sort.siftDown (ltc c) k2 a 0 (Sort.swp d2 a (a + k2))) ⟨by show k2 ≤ n; omega, (sift_size _ _ _ _).trans (swp_size.trans hs2), hr2⟩ (by omega) (es_append (es_cons (t := 12) (by exact OT.tmp rfl) es_nil) (es_cons (t := 0) (OT.tmp rfl) (es_cons (t := 3) (OT.tmp rfl) (es_cons (t := 8) (OT.tmp rfl) (es_cons (t := 9) (OT.tmp rfl) es_nil))))) (own_picks (by repeat (first | exact picks_nil | refine picks_cons 0 rfl ?_ | refine picks_cons 1 rfl ?_ | refine picks_cons 2 rfl ?_ | refine picks_cons 3 rfl ?_ | refine picks_cons 4 rfl ?_ | refine picks_cons 5 rfl ?_ | refine picks_cons 6 rfl ?_)))
        · try simp only [decide_eq_true_eq, decide_eq_false_iff_not, Bool.or_eq_true, Bool.and_eq_true, Bool.or_eq_false_iff, Bool.and_eq_false_iff, Bool.not_eq_true', Bool.not_eq_false', ne_eq, Classical.not_not] at c33
          obtain rfl : k2 = 0 := by omega
          have hfin : d2 = Sort.heapSort (ltc c) d a b := hr2
          refine tr_exit ?_
          refine then_exit ?_
          refine then_exit ?_
          refine block_hit ?_
          exact ret_none .normal (.inr rfl) rfl () (fun _ => trivial) trivial (by rw [← hfin]; exact picks_cons 0 rfl picks_nil)
end Go.Proofs.Ytakkjljhjfkkbaa
/- Walks through the Go functions api.Tuple], api.Tuple], api.Tuple], api.Tuple], as typed contracts. -/
namespace Go.Proofs.Ytakkjljhjfkkbaa
open Go Go.Gw Go.So
set_option linter.unusedVariables false
set_option linter.unusedSimpArgs false
variable {Z : SlTy}
abbrev kJ : Kd Int := kint .i64
theorem zz3 : ZeroOf Try.prog 3 kJ 0 := ⟨.int .i64 0, by kernel_rfl, fun H => rfl⟩

set_option maxHeartbeats 1000000 in
set_option maxRecDepth 20000 in
/-- slices.order2CmpFunc[rhizome/api.Tuple] -/
theorem order2_fn (v fv : Value) (d : DA) (a b g : Nat) (n : Int) (c : List Int → List Int → Int) (ha : a < d.size) (hb : b < d.size) (hfv : ∀ x y, CtV Try.prog fv [(kG Z).T x, (kG Z).T y] [] Unit (fun _ => I64 (c x y)) (fun _ => []) (fun _ => True)) : Ct Try.prog 61 [IsV v, I64 (a : Int), I64 (b : Int), IsV (pt g 0), IsV fv] ([OwnI 45 (kG Z) v d.toList, BlkI g 3 kJ n]) (Nat × Nat × Int) (fun r => TupT [I64 (r.1 : Int), I64 (r.2.1 : Int)]) (fun r => [OwnI 45 (kG Z) v d.toList, BlkI g 3 kJ r.2.2]) (fun r => (r.1 = a ∧ r.2.1 = b) ∨ (r.1 = b ∧ r.2.1 = a)) := by
  refine fn_intro Try.func61 rfl rfl ?_
  intro H w
  have hl1 : d.toList.length = d.size := Array.length_toList
  refine tr_seq ?_
  -- region 0
  refine tr_env (es_cons (t := 0) (OT.tmp rfl) (es_cons (t := 1) (OT.tmp rfl) (es_cons (t := 2) (OT.tmp rfl) (es_cons (t := 3) (OT.tmp rfl) (es_cons (t := 4) (OT.tmp rfl) es_nil))))) ?_
  refine tr_region ?_
  refine op_pure (pu_assign OT.const) rfl rfl ?_
  refine op_pure (pu_assign OT.const) rfl rfl ?_
  refine tr_nil ?_
  refine then_normal ?_
  refine tr_seq ?_
  refine tr_seq ?_
  -- region 1
  refine tr_env (es_cons (t := 0) (OT.tmp rfl) (es_cons (t := 1) (OT.tmp rfl) (es_cons (t := 2) (OT.tmp rfl) (es_cons (t := 3) (OT.tmp rfl) (es_cons (t := 4) (OT.tmp rfl) es_nil))))) ?_
  apply tr_any (m := 9) (ns := [[(4, none)], [(0, none)], [(2, none)], [(13, some 1), (14, some 2)], [(15, some 3)], [(0, none)], [(1, none)], [(17, some 5), (18, some 6)], [(19, some 7)]]) (by kernel_rfl) (by kernel_rfl) (Ts := [_, _, _, _, _, _, _, _, _]) rfl
  case hops =>
    refine ⟨?_, ⟨?_, ⟨?_, ⟨?_, ⟨?_, ⟨?_, ⟨?_, ⟨?_, ⟨?_, trivial⟩⟩⟩⟩⟩⟩⟩⟩⟩
    · exact rop_pure rfl (pu_move (OT.tmp rfl))
    · exact rop_pure rfl (pu_move (OT.tmp rfl))
    · exact rop_pure rfl (pu_move (OT.tmp rfl))
    · exact rop_pure rfl (pu_index_own (OT.tmp rfl) (by exact mem_at 0 rfl) (OT.tmp rfl) Try.underlying35 (show tyOk Try.prog 45 false 1 = true from by decide +kernel) (by omega) (by omega))
    · exact rop_pure rfl (pu_load_own0 (OT.tmp rfl) (by exact mem_at 0 rfl) (by omega) (by omega) (show tyOk Try.prog 45 false 1 = true from by decide +kernel))
    · exact rop_pure rfl (pu_move (OT.tmp rfl))
    · exact rop_pure rfl (pu_move (OT.tmp rfl))
    · exact rop_pure rfl (pu_index_own (OT.tmp rfl) (by exact mem_at 0 rfl) (OT.tmp rfl) Try.underlying35 (show tyOk Try.prog 45 false 1 = true from by decide +kernel) (by omega) (by omega))
    · exact rop_pure rfl (pu_load_own0 (OT.tmp rfl) (by exact mem_at 0 rfl) (by omega) (by omega) (show tyOk Try.prog 45 false 1 = true from by decide +kernel))
  case h =>
    refine op_acts (acts_callv (OT.tmp rfl) (hfv _ _) (OTs.cons (OT.tmp rfl) (OTs.cons (OT.tmp rfl) OTs.nil)) (List.Perm.refl _)) (List.Perm.refl _) rfl rfl (fun _ _ => ?_)
    refine op_pure (pu_lss (OT.tmp rfl) OT.const) rfl rfl ?_
    refine tr_nil ?_
    refine then_normal ?_
    refine tr_cond (OT.tmp rfl) (fun c22 => ?_) (fun c22 => ?_)
    · try simp only [decide_eq_true_eq, decide_eq_false_iff_not, Bool.or_eq_true, Bool.and_eq_true, Bool.or_eq_false_iff, Bool.and_eq_false_iff, Bool.not_eq_true', Bool.not_eq_false', ne_eq, Classical.not_not] at c22
      refine tr_seq ?_
      -- region 2
      refine tr_env (es_cons (t := 1) (OT.tmp rfl) (es_cons (t := 2) (OT.tmp rfl) (es_cons (t := 3) (OT.tmp rfl) es_nil))) ?_
      refine tr_region ?_
      refine op_pure (pu_move (OT.tmp rfl)) rfl rfl ?_
      refine op_pure (pu_nilCheck (OT.tmp rfl)) rfl rfl ?_
      refine op_pure (pu_load_var (OT.tmp rfl) (by exact mem_at 1 rfl) (show tyOk Try.prog 3 false 1 = true from by decide +kernel)) rfl rfl ?_
      refine op_pure (pu_add (OT.tmp rfl) OT.const) rfl rfl ?_
      refine op_pure (pu_nilCheck (OT.tmp rfl)) rfl rfl ?_
      refine op_acts (acts_store_var (OT.tmp rfl) (OT.tmp rfl) (by exact perm_at 1 rfl) (show tyOk Try.prog 3 false 1 = true from by decide +kernel)) (by exact perm_at 1 rfl) rfl rfl (fun _ _ => ?_)
      refine tr_nil ?_
      refine then_normal ?_
      refine tr_seq ?_
      -- region 3
      refine tr_env (es_cons (t := 1) (OT.tmp rfl) (es_cons (t := 2) (OT.tmp rfl) es_nil)) ?_
      refine tr_region ?_
      refine op_pure (pu_move (OT.tmp rfl)) rfl rfl ?_
      refine op_pure (pu_move (OT.tmp rfl)) rfl rfl ?_
      refine op_pure (pu_assign (OT.tmp rfl)) rfl rfl ?_
      refine op_pure (pu_assign (OT.tmp rfl)) rfl rfl ?_
      refine tr_nil ?_
      refine then_normal ?_
      refine tr_ret ?_
      refine then_ret ?_
      exact ret_two .ret (.inl rfl) rfl (b, a, IntKind.i64.wrap (n + 1)) (OT.tmp rfl) (OT.tmp rfl) (fun _ _ h => h) (.inr ⟨rfl, rfl⟩) (by repeat (first | exact picks_nil | refine picks_cons 0 rfl ?_ | refine picks_cons 1 rfl ?_ | refine picks_cons 2 rfl ?_ | refine picks_cons 3 rfl ?_ | refine picks_cons 4 rfl ?_ | refine picks_cons 5 rfl ?_ | refine picks_cons 6 rfl ?_))
    · try simp only [decide_eq_true_eq, decide_eq_false_iff_not, Bool.or_eq_true, Bool.and_eq_true, Bool.or_eq_false_iff, Bool.and_eq_false_iff, Bool.not_eq_true', Bool.not_eq_false', ne_eq, Classical.not_not] at c22
      refine tr_skip ?_
      refine then_normal ?_
      refine tr_seq ?_
      -- region 4
      refine tr_env (es_cons (t := 1) (OT.tmp rfl) (es_cons (t := 2) (OT.tmp rfl) es_nil)) ?_
      refine tr_region ?_
      refine op_pure (pu_move (OT.tmp rfl)) rfl rfl ?_
      refine op_pure (pu_move (OT.tmp rfl)) rfl rfl ?_
      refine op_pure (pu_assign (OT.tmp rfl)) rfl rfl ?_
      refine op_pure (pu_assign (OT.tmp rfl)) rfl rfl ?_
      refine tr_nil ?_
      refine then_normal ?_
      refine tr_ret ?_
      exact ret_two .ret (.inl rfl) rfl (a, b, n) (OT.tmp rfl) (OT.tmp rfl) (fun _ _ h => h) (.inl ⟨rfl, rfl⟩) (by repeat (first | exact picks_nil | refine picks_cons 0 rfl ?_ | refine picks_cons 1 rfl ?_ | refine picks_cons 2 rfl ?_ | refine picks_cons 3 rfl ?_ | refine picks_cons 4 rfl ?_ | refine picks_cons 5 rfl ?_ | refine picks_cons 6 rfl ?_))
set_option maxHeartbeats 1000000 in
set_option maxRecDepth 20000 in
/-- slices.medianCmpFunc[rhizome/api.Tuple] -/
theorem median_fn (v fv : Value) (d : DA) (a b e g : Nat) (n : Int) (c : List Int → List Int → Int) (ha : a < d.size) (hb : b < d.size) (he : e < d.size) (hfv : ∀ x y, CtV Try.prog fv [(kG Z).T x, (kG Z).T y] [] Unit (fun _ => I64 (c x y)) (fun _ => []) (fun _ => True)) : Ct Try.prog 57 [IsV v, I64 (a : Int), I64 (b : Int), I64 (e : Int), IsV (pt g 0), IsV fv] ([OwnI 45 (kG Z) v d.toList, BlkI g 3 kJ n]) (Nat × Int) (fun r => I64 (r.1 : Int)) (fun r => [OwnI 45 (kG Z) v d.toList, BlkI g 3 kJ r.2]) (fun r => r.1 = a ∨ r.1 = b ∨ r.1 = e) := by
  refine fn_intro Try.func57 rfl rfl ?_
  intro H w
  refine tr_seq ?_
  -- region 0
  refine tr_env (es_cons (t := 0) (OT.tmp rfl) (es_cons (t := 1) (OT.tmp rfl) (es_cons (t := 2) (OT.tmp rfl) (es_cons (t := 3) (OT.tmp rfl) (es_cons (t := 4) (OT.tmp rfl) (es_cons (t := 5) (OT.tmp rfl) es_nil)))))) ?_
  refine tr_region ?_
  refine op_pure (pu_assign OT.const) rfl rfl ?_
  refine tr_nil ?_
  refine then_normal ?_
  refine tr_seq ?_
  -- region 1
  refine tr_env (es_cons (t := 0) (OT.tmp rfl) (es_cons (t := 1) (OT.tmp rfl) (es_cons (t := 2) (OT.tmp rfl) (es_cons (t := 3) (OT.tmp rfl) (es_cons (t := 4) (OT.tmp rfl) (es_cons (t := 5) (OT.tmp rfl) es_nil)))))) ?_
  refine tr_region ?_
  refine op_pure (pu_move (OT.tmp rfl)) rfl rfl ?_
  refine op_pure (pu_move (OT.tmp rfl)) rfl rfl ?_
  refine op_pure (pu_move (OT.tmp rfl)) rfl rfl ?_
  refine op_pure (pu_move (OT.tmp rfl)) rfl rfl ?_
  refine op_pure (pu_move (OT.tmp rfl)) rfl rfl ?_
  refine op_acts (acts_call (order2_fn v fv d a b g n c ha hb hfv) (show enters Try.prog 61 = true from by decide +kernel) (OTs.cons (OT.tmp rfl) (OTs.cons (OT.tmp rfl) (OTs.cons (OT.tmp rfl) (OTs.cons (OT.tmp rfl) (OTs.cons (OT.tmp rfl) OTs.nil))))) (List.Perm.trans (by exact perm_at 0 rfl) (List.Perm.cons _ (by exact perm_at 0 rfl)))) (List.Perm.trans (by exact perm_at 0 rfl) (List.Perm.cons _ (by exact perm_at 0 rfl))) rfl rfl (fun ⟨x1_5, y1_5, m1_5⟩ hp1_5 => ?_)
  refine op_pure (pu_move (OT.tmp rfl)) rfl rfl ?_
  refine op_pure (pu_extract (OT.tmp rfl) rfl) rfl rfl ?_
  refine op_pure (pu_extract (OT.tmp rfl) rfl) rfl rfl ?_
  refine op_pure (pu_assign (OT.tmp rfl)) rfl rfl ?_
  refine op_pure (pu_assign (OT.tmp rfl)) rfl rfl ?_
  refine tr_nil ?_
  refine then_normal ?_
  refine tr_seq ?_
  -- region 2
  refine tr_env (es_cons (t := 0) (OT.tmp rfl) (es_cons (t := 1) (OT.tmp rfl) (es_cons (t := 2) (OT.tmp rfl) (es_cons (t := 3) (OT.tmp rfl) (es_cons (t := 4) (OT.tmp rfl) (es_cons (t := 5) (OT.tmp rfl) es_nil)))))) ?_
  dsimp only at hp1_5 ⊢
  have hx1 : x1_5 < d.size := by omega
  have hy1 : y1_5 < d.size := by omega
  refine tr_region ?_
  refine op_pure (pu_move (OT.tmp rfl)) rfl rfl ?_
  refine op_pure (pu_move (OT.tmp rfl)) rfl rfl ?_
  refine op_pure (pu_move (OT.tmp rfl)) rfl rfl ?_
  refine op_pure (pu_move (OT.tmp rfl)) rfl rfl ?_
  refine op_pure (pu_move (OT.tmp rfl)) rfl rfl ?_
  refine op_acts (acts_call (order2_fn v fv d y1_5 e g m1_5 c hy1 he hfv) (show enters Try.prog 61 = true from by decide +kernel) (OTs.cons (OT.tmp rfl) (OTs.cons (OT.tmp rfl) (OTs.cons (OT.tmp rfl) (OTs.cons (OT.tmp rfl) (OTs.cons (OT.tmp rfl) OTs.nil))))) (List.Perm.trans (by exact perm_at 0 rfl) (List.Perm.cons _ (by exact perm_at 0 rfl)))) (List.Perm.trans (by exact perm_at 0 rfl) (List.Perm.cons _ (by exact perm_at 0 rfl))) rfl rfl (fun ⟨x2_5, y2_5, m2_5⟩ hp2_5 => ?_)
  refine op_pure (pu_move (OT.tmp rfl)) rfl rfl ?_
  refine op_pure (pu_extract (OT.tmp rfl) rfl) rfl rfl ?_
  refine op_pure (pu_extract (OT.tmp rfl) rfl) rfl rfl ?_
  refine op_pure (pu_assign (OT.tmp rfl)) rfl rfl ?_
  refine op_pure (pu_assign (OT.tmp rfl)) rfl rfl ?_
  refine tr_nil ?_
  refine then_normal ?_
  refine tr_seq ?_
  -- region 3
  refine tr_env (es_cons (t := 0) (OT.tmp rfl) (es_cons (t := 1) (OT.tmp rfl) (es_cons (t := 2) (OT.tmp rfl) (es_cons (t := 4) (OT.tmp rfl) (es_cons (t := 5) (OT.tmp rfl) es_nil))))) ?_
  dsimp only at hp2_5 ⊢
  have hx2 : x2_5 < d.size := by omega
  have hy2 : y2_5 < d.size := by omega
  refine tr_region ?_
  refine op_pure (pu_move (OT.tmp rfl)) rfl rfl ?_
  refine op_pure (pu_move (OT.tmp rfl)) rfl rfl ?_
  refine op_pure (pu_move (OT.tmp rfl)) rfl rfl ?_
  refine op_pure (pu_move (OT.tmp rfl)) rfl rfl ?_
  refine op_pure (pu_move (OT.tmp rfl)) rfl rfl ?_
  refine op_acts (acts_call (order2_fn v fv d x1_5 x2_5 g m2_5 c hx1 hx2 hfv) (show enters Try.prog 61 = true from by decide +kernel) (OTs.cons (OT.tmp rfl) (OTs.cons (OT.tmp rfl) (OTs.cons (OT.tmp rfl) (OTs.cons (OT.tmp rfl) (OTs.cons (OT.tmp rfl) OTs.nil))))) (List.Perm.trans (by exact perm_at 0 rfl) (List.Perm.cons _ (by exact perm_at 0 rfl)))) (List.Perm.trans (by exact perm_at 0 rfl) (List.Perm.cons _ (by exact perm_at 0 rfl))) rfl rfl (fun ⟨x3_5, y3_5, m3_5⟩ hp3_5 => ?_)
  refine op_pure (pu_move (OT.tmp rfl)) rfl rfl ?_
  refine op_pure (pu_extract (OT.tmp rfl) rfl) rfl rfl ?_
  refine op_pure (pu_extract (OT.tmp rfl) rfl) rfl rfl ?_
  refine op_pure (pu_assign (OT.tmp rfl)) rfl rfl ?_
  refine op_pure (pu_assign (OT.tmp rfl)) rfl rfl ?_
  refine tr_nil ?_
  refine then_normal ?_
  refine tr_seq ?_
  -- region 4
  refine tr_env (es_cons (t := 2) (OT.tmp rfl) es_nil) ?_
  refine tr_region ?_
  refine op_pure (pu_move (OT.tmp rfl)) rfl rfl ?_
  refine op_pure (pu_assign (OT.tmp rfl)) rfl rfl ?_
  refine tr_nil ?_
  refine then_normal ?_
  refine tr_ret ?_
  exact ret_one .ret (.inl rfl) rfl (y3_5, m3_5) (OT.tmp rfl) (by dsimp only at hp3_5 ⊢; omega) (by repeat (first | exact picks_nil | refine picks_cons 0 rfl ?_ | refine picks_cons 1 rfl ?_ | refine picks_cons 2 rfl ?_ | refine picks_cons 3 rfl ?_ | refine picks_cons 4 rfl ?_ | refine picks_cons 5 rfl ?_ | refine picks_cons 6 rfl ?_))
set_option maxHeartbeats 1000000 in
set_option maxRecDepth 20000 in
/-- slices.medianAdjacentCmpFunc[rhizome/api.Tuple] -/
theorem medadj_fn (v fv : Value) (d : DA) (a g : Nat) (n : Int) (c : List Int → List Int → Int) (ha : 0 < a) (hb : a + 1 < d.size) (hm : d.size < 4611686018427387904) (hfv : ∀ x y, CtV Try.prog fv [(kG Z).T x, (kG Z).T y] [] Unit (fun _ => I64 (c x y)) (fun _ => []) (fun _ => True)) : Ct Try.prog 56 [IsV v, I64 (a : Int), IsV (pt g 0), IsV fv] ([OwnI 45 (kG Z) v d.toList, BlkI g 3 kJ n]) (Nat × Int) (fun r => I64 (r.1 : Int)) (fun r => [OwnI 45 (kG Z) v d.toList, BlkI g 3 kJ r.2]) (fun r => a ≤ r.1 + 1 ∧ r.1 ≤ a + 1) := by
  refine fn_intro Try.func56 rfl rfl ?_
  intro H w
  refine tr_seq ?_
  -- region 0
  refine tr_env (es_cons (t := 0) (OT.tmp rfl) (es_cons (t := 1) (OT.tmp rfl) (es_cons (t := 2) (OT.tmp rfl) (es_cons (t := 3) (OT.tmp rfl) es_nil)))) ?_
  refine tr_region ?_
  refine op_pure (pu_assign OT.const) rfl rfl ?_
  refine tr_nil ?_
  refine then_normal ?_
  refine tr_seq ?_
  -- region 1
  refine tr_env (es_cons (t := 0) (OT.tmp rfl) (es_cons (t := 1) (OT.tmp rfl) (es_cons (t := 2) (OT.tmp rfl) (es_cons (t := 3) (OT.tmp rfl) es_nil)))) ?_
  refine tr_region ?_
  refine op_pure (pu_move (OT.tmp rfl)) rfl rfl ?_
  refine op_pure (pu_move (OT.tmp rfl)) rfl rfl ?_
  refine op_pure (pu_sub' (OT.tmp rfl) OT.const (by omega)) rfl rfl ?_
  refine op_pure (pu_move (OT.tmp rfl)) rfl rfl ?_
  refine op_pure (pu_move (OT.tmp rfl)) rfl rfl ?_
  refine op_pure (pu_add' (OT.tmp rfl) OT.const (by omega)) rfl rfl ?_
  refine op_pure (pu_move (OT.tmp rfl)) rfl rfl ?_
  refine op_pure (pu_move (OT.tmp rfl)) rfl rfl ?_
  rw [show (a : Int) - 1 = ((a - 1 : Nat) : Int) from by omega, show (a : Int) + 1 = ((a + 1 : Nat) : Int) from by omega]
  refine op_acts (acts_call (median_fn v fv d (a - 1) a (a + 1) g n c (by omega) (by omega) (by omega) hfv) (show enters Try.prog 57 = true from by decide +kernel) (OTs.cons (OT.tmp rfl) (OTs.cons (OT.tmp rfl) (OTs.cons (OT.tmp rfl) (OTs.cons (OT.tmp rfl) (OTs.cons (OT.tmp rfl) (OTs.cons (OT.tmp rfl) OTs.nil)))))) (List.Perm.trans (by exact perm_at 0 rfl) (List.Perm.cons _ (by exact perm_at 0 rfl)))) (List.Perm.trans (by exact perm_at 0 rfl) (List.Perm.cons _ (by exact perm_at 0 rfl))) rfl rfl (fun ⟨x1_8, m1_8⟩ hp1_8 => ?_)
  refine op_pure (pu_assign (OT.tmp rfl)) rfl rfl ?_
  refine tr_nil ?_
  refine then_normal ?_
  refine tr_ret ?_
  exact ret_one .ret (.inl rfl) rfl (x1_8, m1_8) (OT.tmp rfl) (by dsimp only at hp1_8 ⊢; omega) (by repeat (first | exact picks_nil | refine picks_cons 0 rfl ?_ | refine picks_cons 1 rfl ?_ | refine picks_cons 2 rfl ?_ | refine picks_cons 3 rfl ?_ | refine picks_cons 4 rfl ?_ | refine picks_cons 5 rfl ?_ | refine picks_cons 6 rfl ?_))
set_option maxHeartbeats 1000000 in
set_option maxRecDepth 20000 in
/-- slices.choosePivotCmpFunc[rhizome/api.Tuple] -/
theorem pivot_fn (v fv : Value) (d : DA) (a b : Nat) (c : List Int → List Int → Int) (hm : d.size < 4611686018427387904) (hab : a < b) (hb : b ≤ d.size) (hfv : ∀ x y, CtV Try.prog fv [(kG Z).T x, (kG Z).T y] [] Unit (fun _ => I64 (c x y)) (fun _ => []) (fun _ => True)) : Ct Try.prog 43 [IsV v, I64 (a : Int), I64 (b : Int), IsV fv] ([OwnI 45 (kG Z) v d.toList]) (Nat × Int) (fun r => TupT [I64 (r.1 : Int), I64 r.2]) (fun r => [OwnI 45 (kG Z) v d.toList]) (fun r => (a ≤ r.1 ∧ r.1 < b) ∧ (r.2 = 0 ∨ r.2 = 1 ∨ r.2 = 2)) := by
  refine fn_intro Try.func43 rfl rfl ?_
  intro H w
  refine tr_seq ?_
  -- region 0
  refine tr_env (es_cons (t := 0) (OT.tmp rfl) (es_cons (t := 1) (OT.tmp rfl) (es_cons (t := 2) (OT.tmp rfl) (es_cons (t := 3) (OT.tmp rfl) es_nil)))) ?_
  refine tr_region ?_
  refine op_pure (pu_assign OT.const) rfl rfl ?_
  refine op_pure (pu_assign OT.const) rfl rfl ?_
  refine tr_nil ?_
  refine then_normal ?_
  refine tr_seq ?_
  -- region 1
  refine tr_env (es_cons (t := 0) (OT.tmp rfl) (es_cons (t := 1) (OT.tmp rfl) (es_cons (t := 2) (OT.tmp rfl) (es_cons (t := 3) (OT.tmp rfl) es_nil)))) ?_
  refine tr_region ?_
  refine op_pure (pu_move (OT.tmp rfl)) rfl rfl ?_
  refine op_pure (pu_move (OT.tmp rfl)) rfl rfl ?_
  refine op_pure (pu_sub' (OT.tmp rfl) (OT.tmp rfl) (by omega)) rfl rfl ?_
  refine op_pure (pu_assign (OT.tmp rfl)) rfl rfl ?_
  refine tr_nil ?_
  refine then_normal ?_
  refine tr_seq ?_
  -- region 2
  refine tr_env (es_cons (t := 0) (OT.tmp rfl) (es_cons (t := 1) (OT.tmp rfl) (es_cons (t := 3) (OT.tmp rfl) (es_cons (t := 10) (OT.tmp rfl) es_nil)))) ?_
  refine tr_region ?_
  refine op_acts (acts_alloc (zz3)) (List.Perm.refl _) rfl rfl (fun g2_0 _ => ?_)
  refine tr_nil ?_
  refine then_normal ?_
  refine tr_seq ?_
  -- region 3
  refine tr_env (es_cons (t := 0) (OT.tmp rfl) (es_cons (t := 1) (OT.tmp rfl) (es_cons (t := 3) (OT.tmp rfl) (es_cons (t := 10) (OT.tmp rfl) (es_cons (t := 11) (OT.tmp rfl) es_nil))))) ?_
  rw [show (b : Int) - a = ((b - a : Nat) : Int) from by omega]
  obtain ⟨l, hl⟩ : ∃ l : Nat, b - a = l := ⟨_, rfl⟩
  rw [hl]
  refine tr_region ?_
  refine op_pure (pu_move (OT.tmp rfl)) rfl rfl ?_
  refine op_pure (pu_move (OT.tmp rfl)) rfl rfl ?_
  refine op_pure (pu_quo' (OT.tmp rfl) OT.const (by omega) (by omega)) rfl rfl ?_
  refine op_pure (pu_mul' (OT.tmp rfl) OT.const (by omega)) rfl rfl ?_
  refine op_pure (pu_add' (OT.tmp rfl) (OT.tmp rfl) (by omega)) rfl rfl ?_
  refine op_pure (pu_assign (OT.tmp rfl)) rfl rfl ?_
  refine tr_nil ?_
  refine then_normal ?_
  refine tr_seq ?_
  -- region 4
  refine tr_env (es_cons (t := 0) (OT.tmp rfl) (es_cons (t := 1) (OT.tmp rfl) (es_cons (t := 3) (OT.tmp rfl) (es_cons (t := 10) (OT.tmp rfl) (es_cons (t := 11) (OT.tmp rfl) (es_cons (t := 12) (OT.tmp rfl) es_nil)))))) ?_
  refine tr_region ?_
  refine op_pure (pu_move (OT.tmp rfl)) rfl rfl ?_
  refine op_pure (pu_move (OT.tmp rfl)) rfl rfl ?_
  refine op_pure (pu_quo' (OT.tmp rfl) OT.const (by omega) (by omega)) rfl rfl ?_
  refine op_pure (pu_mul' (OT.tmp rfl) OT.const (by omega)) rfl rfl ?_
  refine op_pure (pu_add' (OT.tmp rfl) (OT.tmp rfl) (by omega)) rfl rfl ?_
  refine op_pure (pu_assign (OT.tmp rfl)) rfl rfl ?_
  refine tr_nil ?_
  refine then_normal ?_
  refine tr_seq ?_
  -- region 5
  refine tr_env (es_cons (t := 0) (OT.tmp rfl) (es_cons (t := 1) (OT.tmp rfl) (es_cons (t := 3) (OT.tmp rfl) (es_cons (t := 10) (OT.tmp rfl) (es_cons (t := 11) (OT.tmp rfl) (es_cons (t := 12) (OT.tmp rfl) (es_cons (t := 13) (OT.tmp rfl) es_nil))))))) ?_
  refine tr_region ?_
  refine op_pure (pu_move (OT.tmp rfl)) rfl rfl ?_
  refine op_pure (pu_move (OT.tmp rfl)) rfl rfl ?_
  refine op_pure (pu_quo' (OT.tmp rfl) OT.const (by omega) (by omega)) rfl rfl ?_
  refine op_pure (pu_mul' (OT.tmp rfl) OT.const (by omega)) rfl rfl ?_
  refine op_pure (pu_add' (OT.tmp rfl) (OT.tmp rfl) (by omega)) rfl rfl ?_
  refine op_pure (pu_assign (OT.tmp rfl)) rfl rfl ?_
  refine tr_nil ?_
  refine then_normal ?_
  refine tr_seq ?_
  refine tr_seq ?_
  -- region 6
  refine tr_env (es_cons (t := 0) (OT.tmp rfl) (es_cons (t := 3) (OT.tmp rfl) (es_cons (t := 10) (OT.tmp rfl) (es_cons (t := 11) (OT.tmp rfl) (es_cons (t := 12) (OT.tmp rfl) (es_cons (t := 13) (OT.tmp rfl) (es_cons (t := 14) (OT.tmp rfl) es_nil))))))) ?_
  obtain ⟨i, hi, hi2⟩ : ∃ i : Nat, (a : Int) + (l : Int) / 4 * 1 = i ∧ a + l / 4 = i := ⟨a + l / 4, by omega, rfl⟩
  obtain ⟨j, hj, hj2⟩ : ∃ j : Nat, (a : Int) + (l : Int) / 4 * 2 = j ∧ a + l / 4 * 2 = j := ⟨a + l / 4 * 2, by omega, rfl⟩
  obtain ⟨k, hk, hk2⟩ : ∃ k : Nat, (a : Int) + (l : Int) / 4 * 3 = k ∧ a + l / 4 * 3 = k := ⟨a + l / 4 * 3, by omega, rfl⟩
  rw [hi, hj, hk]
  refine tr_region ?_
  refine op_pure (pu_move (OT.tmp rfl)) rfl rfl ?_
  refine op_pure (pu_geq (OT.tmp rfl) OT.const) rfl rfl ?_
  refine tr_nil ?_
  refine then_normal ?_
  refine tr_cond (OT.tmp rfl) (fun c34 => ?_) (fun c34 => ?_)
  · try simp only [decide_eq_true_eq, decide_eq_false_iff_not, Bool.or_eq_true, Bool.and_eq_true, Bool.or_eq_false_iff, Bool.and_eq_false_iff, Bool.not_eq_true', Bool.not_eq_false', ne_eq, Classical.not_not] at c34
    refine tr_seq ?_
    refine tr_seq ?_
    -- region 7
    refine tr_env (es_cons (t := 0) (OT.tmp rfl) (es_cons (t := 3) (OT.tmp rfl) (es_cons (t := 10) (OT.tmp rfl) (es_cons (t := 11) (OT.tmp rfl) (es_cons (t := 12) (OT.tmp rfl) (es_cons (t := 13) (OT.tmp rfl) (es_cons (t := 14) (OT.tmp rfl) es_nil))))))) ?_
    refine tr_region ?_
    refine op_pure (pu_move (OT.tmp rfl)) rfl rfl ?_
    refine op_pure (pu_geq (OT.tmp rfl) OT.const) rfl rfl ?_
    refine tr_nil ?_
    refine then_normal ?_
    refine tr_cond (OT.tmp rfl) (fun c36 => ?_) (fun c36 => ?_)
    · try simp only [decide_eq_true_eq, decide_eq_false_iff_not, Bool.or_eq_true, Bool.and_eq_true, Bool.or_eq_false_iff, Bool.and_eq_false_iff, Bool.not_eq_true', Bool.not_eq_false', ne_eq, Classical.not_not] at c36
      refine tr_seq ?_
      -- region 8
      refine tr_env (es_cons (t := 0) (OT.tmp rfl) (es_cons (t := 3) (OT.tmp rfl) (es_cons (t := 11) (OT.tmp rfl) (es_cons (t := 12) (OT.tmp rfl) (es_cons (t := 13) (OT.tmp rfl) (es_cons (t := 14) (OT.tmp rfl) es_nil)))))) ?_
      refine tr_region ?_
      refine op_pure (pu_move (OT.tmp rfl)) rfl rfl ?_
      refine op_pure (pu_move (OT.tmp rfl)) rfl rfl ?_
      refine op_pure (pu_move (OT.tmp rfl)) rfl rfl ?_
      refine op_acts (acts_call (medadj_fn v fv d _ _ _ c (by omega) (by omega) (by omega) hfv) (show enters Try.prog 56 = true from by decide +kernel) (OTs.cons (OT.tmp rfl) (OTs.cons (OT.tmp rfl) (OTs.cons (OT.tmp rfl) (OTs.cons (OT.tmp rfl) OTs.nil)))) (List.Perm.trans (by exact perm_at 1 rfl) (List.Perm.cons _ (by exact perm_at 0 rfl)))) (List.Perm.trans (by exact perm_at 1 rfl) (List.Perm.cons _ (by exact perm_at 0 rfl))) rfl rfl (fun ⟨x8_3, m8_3⟩ hp8_3 => ?_)
      refine op_pure (pu_assign (OT.tmp rfl)) rfl rfl ?_
      refine tr_nil ?_
      refine then_normal ?_
      refine tr_seq ?_
      -- region 9
      refine tr_env (es_cons (t := 0) (OT.tmp rfl) (es_cons (t := 3) (OT.tmp rfl) (es_cons (t := 11) (OT.tmp rfl) (es_cons (t := 12) (OT.tmp rfl) (es_cons (t := 13) (OT.tmp rfl) (es_cons (t := 14) (OT.tmp rfl) es_nil)))))) ?_
      refine tr_region ?_
      refine op_pure (pu_move (OT.tmp rfl)) rfl rfl ?_
      refine op_pure (pu_move (OT.tmp rfl)) rfl rfl ?_
      refine op_pure (pu_move (OT.tmp rfl)) rfl rfl ?_
      refine op_acts (acts_call (medadj_fn v fv d _ _ _ c (by omega) (by omega) (by omega) hfv) (show enters Try.prog 56 = true from by decide +kernel) (OTs.cons (OT.tmp rfl) (OTs.cons (OT.tmp rfl) (OTs.cons (OT.tmp rfl) (OTs.cons (OT.tmp rfl) OTs.nil)))) (List.Perm.trans (by exact perm_at 0 rfl) (List.Perm.cons _ (by exact perm_at 0 rfl)))) (List.Perm.trans (by exact perm_at 0 rfl) (List.Perm.cons _ (by exact perm_at 0 rfl))) rfl rfl (fun ⟨x9_3, m9_3⟩ hp9_3 => ?_)
      refine op_pure (pu_assign (OT.tmp rfl)) rfl rfl ?_
      refine tr_nil ?_
      refine then_normal ?_
      -- region 10
      refine tr_env (es_cons (t := 0) (OT.tmp rfl) (es_cons (t := 3) (OT.tmp rfl) (es_cons (t := 11) (OT.tmp rfl) (es_cons (t := 12) (OT.tmp rfl) (es_cons (t := 13) (OT.tmp rfl) (es_cons (t := 14) (OT.tmp rfl) es_nil)))))) ?_
      refine tr_region ?_
      refine op_pure (pu_move (OT.tmp rfl)) rfl rfl ?_
      refine op_pure (pu_move (OT.tmp rfl)) rfl rfl ?_
      refine op_pure (pu_move (OT.tmp rfl)) rfl rfl ?_
      refine op_acts (acts_call (medadj_fn v fv d _ _ _ c (by omega) (by omega) (by omega) hfv) (show enters Try.prog 56 = true from by decide +kernel) (OTs.cons (OT.tmp rfl) (OTs.cons (OT.tmp rfl) (OTs.cons (OT.tmp rfl) (OTs.cons (OT.tmp rfl) OTs.nil)))) (List.Perm.trans (by exact perm_at 0 rfl) (List.Perm.cons _ (by exact perm_at 0 rfl)))) (List.Perm.trans (by exact perm_at 0 rfl) (List.Perm.cons _ (by exact perm_at 0 rfl))) rfl rfl (fun ⟨x10_3, m10_3⟩ hp10_3 => ?_)
      refine op_pure (pu_assign (OT.tmp rfl)) rfl rfl ?_
      refine tr_nil ?_
      refine then_normal ?_
      -- region 11
      refine tr_env (es_cons (t := 0) (OT.tmp rfl) (es_cons (t := 3) (OT.tmp rfl) (es_cons (t := 11) (OT.tmp rfl) (es_cons (t := 12) (OT.tmp rfl) (es_cons (t := 13) (OT.tmp rfl) (es_cons (t := 14) (OT.tmp rfl) es_nil)))))) ?_
      first | dsimp only at hp8_3 hp9_3 hp10_3 ⊢ | skip
      refine tr_region ?_
      refine op_pure (pu_move (OT.tmp rfl)) rfl rfl ?_
      refine op_pure (pu_move (OT.tmp rfl)) rfl rfl ?_
      refine op_pure (pu_move (OT.tmp rfl)) rfl rfl ?_
      refine op_pure (pu_move (OT.tmp rfl)) rfl rfl ?_
      refine op_pure (pu_move (OT.tmp rfl)) rfl rfl ?_
      refine op_acts (acts_call (median_fn v fv d _ _ _ _ _ c (by omega) (by omega) (by omega) hfv) (show enters Try.prog 57 = true from by decide +kernel) (OTs.cons (OT.tmp rfl) (OTs.cons (OT.tmp rfl) (OTs.cons (OT.tmp rfl) (OTs.cons (OT.tmp rfl) (OTs.cons (OT.tmp rfl) (OTs.cons (OT.tmp rfl) OTs.nil)))))) (List.Perm.trans (by exact perm_at 0 rfl) (List.Perm.cons _ (by exact perm_at 0 rfl)))) (List.Perm.trans (by exact perm_at 0 rfl) (List.Perm.cons _ (by exact perm_at 0 rfl))) rfl rfl (fun ⟨x11_5, m11_5⟩ hp11_5 => ?_)
      refine op_pure (pu_assign (OT.tmp rfl)) rfl rfl ?_
      refine tr_nil ?_
      refine then_normal ?_
      refine tr_seq ?_
      -- region 12
      refine tr_env (es_cons (t := 11) (OT.tmp rfl) (es_cons (t := 13) (OT.tmp rfl) es_nil)) ?_
      first | dsimp only at hp11_5 ⊢ | skip
      refine tr_region ?_
      refine op_pure (pu_load_var (OT.tmp rfl) (by exact mem_at 1 rfl) (show tyOk Try.prog 3 false 1 = true from by decide +kernel)) rfl rfl ?_
      refine tr_nil ?_
      refine then_normal ?_
      refine tr_block ?_
      refine tr_seq ?_
      -- region 14
      refine tr_env (es_cons (t := 13) (OT.tmp rfl) (es_cons (t := 55) (OT.tmp rfl) es_nil)) ?_
      refine tr_region ?_
      refine op_pure (pu_eql (OT.tmp rfl) OT.const) rfl rfl ?_
      refine op_pure (pu_assign (OT.tmp rfl)) rfl rfl ?_
      refine tr_nil ?_
      refine then_normal ?_
      refine tr_cond (OT.tmp rfl) (fun c57 => ?_) (fun c57 => ?_)
      · try simp only [decide_eq_true_eq, decide_eq_false_iff_not, Bool.or_eq_true, Bool.and_eq_true, Bool.or_eq_false_iff, Bool.and_eq_false_iff, Bool.not_eq_true', Bool.not_eq_false', ne_eq, Classical.not_not] at c57
        refine tr_seq ?_
        -- region 15
        refine tr_env (es_cons (t := 13) (OT.tmp rfl) es_nil) ?_
        refine tr_region ?_
        refine op_pure (pu_move (OT.tmp rfl)) rfl rfl ?_
        refine op_pure (pu_assign (OT.tmp rfl)) rfl rfl ?_
        refine op_pure (pu_assign OT.const) rfl rfl ?_
        refine tr_nil ?_
        refine then_normal ?_
        refine tr_ret ?_
        refine block_ret ?_
        exact ret_two .ret (.inl rfl) rfl (x11_5, 1) (OT.tmp rfl) (OT.tmp rfl) (fun _ _ h => h) (by show (a ≤ x11_5 ∧ x11_5 < b) ∧ _; exact ⟨by omega, by simp⟩) (by repeat (first | exact picks_nil | refine picks_cons 0 rfl ?_ | refine picks_cons 1 rfl ?_ | refine picks_cons 2 rfl ?_ | refine picks_cons 3 rfl ?_ | refine picks_cons 4 rfl ?_ | refine picks_cons 5 rfl ?_ | refine picks_cons 6 rfl ?_))
      · try simp only [decide_eq_true_eq, decide_eq_false_iff_not, Bool.or_eq_true, Bool.and_eq_true, Bool.or_eq_false_iff, Bool.and_eq_false_iff, Bool.not_eq_true', Bool.not_eq_false', ne_eq, Classical.not_not] at c57
        refine tr_seq ?_
        -- region 16
        refine tr_env (es_cons (t := 13) (OT.tmp rfl) (es_cons (t := 55) (OT.tmp rfl) es_nil)) ?_
        refine tr_region ?_
        refine op_pure (pu_eql (OT.tmp rfl) OT.const) rfl rfl ?_
        refine op_pure (pu_assign (OT.tmp rfl)) rfl rfl ?_
        refine tr_nil ?_
        refine then_normal ?_
        refine tr_cond (OT.tmp rfl) (fun c60 => ?_) (fun c60 => ?_)
        · try simp only [decide_eq_true_eq, decide_eq_false_iff_not, Bool.or_eq_true, Bool.and_eq_true, Bool.or_eq_false_iff, Bool.and_eq_false_iff, Bool.not_eq_true', Bool.not_eq_false', ne_eq, Classical.not_not] at c60
          refine tr_seq ?_
          -- region 17
          refine tr_env (es_cons (t := 13) (OT.tmp rfl) es_nil) ?_
          refine tr_region ?_
          refine op_pure (pu_move (OT.tmp rfl)) rfl rfl ?_
          refine op_pure (pu_assign (OT.tmp rfl)) rfl rfl ?_
          refine op_pure (pu_assign OT.const) rfl rfl ?_
          refine tr_nil ?_
          refine then_normal ?_
          refine tr_ret ?_
          refine block_ret ?_
          exact ret_two .ret (.inl rfl) rfl (x11_5, 2) (OT.tmp rfl) (OT.tmp rfl) (fun _ _ h => h) (by show (a ≤ x11_5 ∧ x11_5 < b) ∧ _; exact ⟨by omega, by simp⟩) (by repeat (first | exact picks_nil | refine picks_cons 0 rfl ?_ | refine picks_cons 1 rfl ?_ | refine picks_cons 2 rfl ?_ | refine picks_cons 3 rfl ?_ | refine picks_cons 4 rfl ?_ | refine picks_cons 5 rfl ?_ | refine picks_cons 6 rfl ?_))
        · try simp only [decide_eq_true_eq, decide_eq_false_iff_not, Bool.or_eq_true, Bool.and_eq_true, Bool.or_eq_false_iff, Bool.and_eq_false_iff, Bool.not_eq_true', Bool.not_eq_false', ne_eq, Classical.not_not] at c60
          refine tr_seq ?_
          -- region 13
          refine tr_env (es_cons (t := 13) (OT.tmp rfl) es_nil) ?_
          refine tr_region ?_
          refine op_pure (pu_move (OT.tmp rfl)) rfl rfl ?_
          refine op_pure (pu_assign (OT.tmp rfl)) rfl rfl ?_
          refine op_pure (pu_assign OT.const) rfl rfl ?_
          refine tr_nil ?_
          refine then_normal ?_
          refine tr_ret ?_
          refine block_ret ?_
          exact ret_two .ret (.inl rfl) rfl (x11_5, 0) (OT.tmp rfl) (OT.tmp rfl) (fun _ _ h => h) (by show (a ≤ x11_5 ∧ x11_5 < b) ∧ _; exact ⟨by omega, by simp⟩) (by repeat (first | exact picks_nil | refine picks_cons 0 rfl ?_ | refine picks_cons 1 rfl ?_ | refine picks_cons 2 rfl ?_ | refine picks_cons 3 rfl ?_ | refine picks_cons 4 rfl ?_ | refine picks_cons 5 rfl ?_ | refine picks_cons 6 rfl ?_))
    · try simp only [decide_eq_true_eq, decide_eq_false_iff_not, Bool.or_eq_true, Bool.and_eq_true, Bool.or_eq_false_iff, Bool.and_eq_false_iff, Bool.not_eq_true', Bool.not_eq_false', ne_eq, Classical.not_not] at c36
      refine tr_skip ?_
      refine then_normal ?_
      -- region 11
      refine tr_env (es_cons (t := 0) (OT.tmp rfl) (es_cons (t := 3) (OT.tmp rfl) (es_cons (t := 11) (OT.tmp rfl) (es_cons (t := 12) (OT.tmp rfl) (es_cons (t := 13) (OT.tmp rfl) (es_cons (t := 14) (OT.tmp rfl) es_nil)))))) ?_
      first | dsimp only at hp8_3 hp9_3 hp10_3 ⊢ | skip
      refine tr_region ?_
      refine op_pure (pu_move (OT.tmp rfl)) rfl rfl ?_
      refine op_pure (pu_move (OT.tmp rfl)) rfl rfl ?_
      refine op_pure (pu_move (OT.tmp rfl)) rfl rfl ?_
      refine op_pure (pu_move (OT.tmp rfl)) rfl rfl ?_
      refine op_pure (pu_move (OT.tmp rfl)) rfl rfl ?_
      refine op_acts (acts_call (median_fn v fv d _ _ _ _ _ c (by omega) (by omega) (by omega) hfv) (show enters Try.prog 57 = true from by decide +kernel) (OTs.cons (OT.tmp rfl) (OTs.cons (OT.tmp rfl) (OTs.cons (OT.tmp rfl) (OTs.cons (OT.tmp rfl) (OTs.cons (OT.tmp rfl) (OTs.cons (OT.tmp rfl) OTs.nil)))))) (List.Perm.trans (by exact perm_at 1 rfl) (List.Perm.cons _ (by exact perm_at 0 rfl)))) (List.Perm.trans (by exact perm_at 1 rfl) (List.Perm.cons _ (by exact perm_at 0 rfl))) rfl rfl (fun ⟨x11_5, m11_5⟩ hp11_5 => ?_)
      refine op_pure (pu_assign (OT.tmp rfl)) rfl rfl ?_
      refine tr_nil ?_
      refine then_normal ?_
      refine tr_seq ?_
      -- region 12
      refine tr_env (es_cons (t := 11) (OT.tmp rfl) (es_cons (t := 13) (OT.tmp rfl) es_nil)) ?_
      first | dsimp only at hp11_5 ⊢ | skip
      refine tr_region ?_
      refine op_pure (pu_load_var (OT.tmp rfl) (by exact mem_at 1 rfl) (show tyOk Try.prog 3 false 1 = true from by decide +kernel)) rfl rfl ?_
      refine tr_nil ?_
      refine then_normal ?_
      refine tr_block ?_
      refine tr_seq ?_
      -- region 14
      refine tr_env (es_cons (t := 13) (OT.tmp rfl) (es_cons (t := 55) (OT.tmp rfl) es_nil)) ?_
      refine tr_region ?_
      refine op_pure (pu_eql (OT.tmp rfl) OT.const) rfl rfl ?_
      refine op_pure (pu_assign (OT.tmp rfl)) rfl rfl ?_
      refine tr_nil ?_
      refine then_normal ?_
      refine tr_cond (OT.tmp rfl) (fun c57 => ?_) (fun c57 => ?_)
      · try simp only [decide_eq_true_eq, decide_eq_false_iff_not, Bool.or_eq_true, Bool.and_eq_true, Bool.or_eq_false_iff, Bool.and_eq_false_iff, Bool.not_eq_true', Bool.not_eq_false', ne_eq, Classical.not_not] at c57
        refine tr_seq ?_
        -- region 15
        refine tr_env (es_cons (t := 13) (OT.tmp rfl) es_nil) ?_
        refine tr_region ?_
        refine op_pure (pu_move (OT.tmp rfl)) rfl rfl ?_
        refine op_pure (pu_assign (OT.tmp rfl)) rfl rfl ?_
        refine op_pure (pu_assign OT.const) rfl rfl ?_
        refine tr_nil ?_
        refine then_normal ?_
        refine tr_ret ?_
        refine block_ret ?_
        exact ret_two .ret (.inl rfl) rfl (x11_5, 1) (OT.tmp rfl) (OT.tmp rfl) (fun _ _ h => h) (by show (a ≤ x11_5 ∧ x11_5 < b) ∧ _; exact ⟨by omega, by simp⟩) (by repeat (first | exact picks_nil | refine picks_cons 0 rfl ?_ | refine picks_cons 1 rfl ?_ | refine picks_cons 2 rfl ?_ | refine picks_cons 3 rfl ?_ | refine picks_cons 4 rfl ?_ | refine picks_cons 5 rfl ?_ | refine picks_cons 6 rfl ?_))
      · try simp only [decide_eq_true_eq, decide_eq_false_iff_not, Bool.or_eq_true, Bool.and_eq_true, Bool.or_eq_false_iff, Bool.and_eq_false_iff, Bool.not_eq_true', Bool.not_eq_false', ne_eq, Classical.not_not] at c57
        refine tr_seq ?_
        -- region 16
        refine tr_env (es_cons (t := 13) (OT.tmp rfl) (es_cons (t := 55) (OT.tmp rfl) es_nil)) ?_
        refine tr_region ?_
        refine op_pure (pu_eql (OT.tmp rfl) OT.const) rfl rfl ?_
        refine op_pure (pu_assign (OT.tmp rfl)) rfl rfl ?_
        refine tr_nil ?_
        refine then_normal ?_
        refine tr_cond (OT.tmp rfl) (fun c60 => ?_) (fun c60 => ?_)
        · try simp only [decide_eq_true_eq, decide_eq_false_iff_not, Bool.or_eq_true, Bool.and_eq_true, Bool.or_eq_false_iff, Bool.and_eq_false_iff, Bool.not_eq_true', Bool.not_eq_false', ne_eq, Classical.not_not] at c60
          refine tr_seq ?_
          -- region 17
          refine tr_env (es_cons (t := 13) (OT.tmp rfl) es_nil) ?_
          refine tr_region ?_
          refine op_pure (pu_move (OT.tmp rfl)) rfl rfl ?_
          refine op_pure (pu_assign (OT.tmp rfl)) rfl rfl ?_
          refine op_pure (pu_assign OT.const) rfl rfl ?_
          refine tr_nil ?_
          refine then_normal ?_
          refine tr_ret ?_
          refine block_ret ?_
          exact ret_two .ret (.inl rfl) rfl (x11_5, 2) (OT.tmp rfl) (OT.tmp rfl) (fun _ _ h => h) (by show (a ≤ x11_5 ∧ x11_5 < b) ∧ _; exact ⟨by omega, by simp⟩) (by repeat (first | exact picks_nil | refine picks_cons 0 rfl ?_ | refine picks_cons 1 rfl ?_ | refine picks_cons 2 rfl ?_ | refine picks_cons 3 rfl ?_ | refine picks_cons 4 rfl ?_ | refine picks_cons 5 rfl ?_ | refine picks_cons 6 rfl ?_))
        · try simp only [decide_eq_true_eq, decide_eq_false_iff_not, Bool.or_eq_true, Bool.and_eq_true, Bool.or_eq_false_iff, Bool.and_eq_false_iff, Bool.not_eq_true', Bool.not_eq_false', ne_eq, Classical.not_not] at c60
          refine tr_seq ?_
          -- region 13
          refine tr_env (es_cons (t := 13) (OT.tmp rfl) es_nil) ?_
          refine tr_region ?_
          refine op_pure (pu_move (OT.tmp rfl)) rfl rfl ?_
          refine op_pure (pu_assign (OT.tmp rfl)) rfl rfl ?_
          refine op_pure (pu_assign OT.const) rfl rfl ?_
          refine tr_nil ?_
          refine then_normal ?_
          refine tr_ret ?_
          refine block_ret ?_
          exact ret_two .ret (.inl rfl) rfl (x11_5, 0) (OT.tmp rfl) (OT.tmp rfl) (fun _ _ h => h) (by show (a ≤ x11_5 ∧ x11_5 < b) ∧ _; exact ⟨by omega, by simp⟩) (by repeat (first | exact picks_nil | refine picks_cons 0 rfl ?_ | refine picks_cons 1 rfl ?_ | refine picks_cons 2 rfl ?_ | refine picks_cons 3 rfl ?_ | refine picks_cons 4 rfl ?_ | refine picks_cons 5 rfl ?_ | refine picks_cons 6 rfl ?_))
  · try simp only [decide_eq_true_eq, decide_eq_false_iff_not, Bool.or_eq_true, Bool.and_eq_true, Bool.or_eq_false_iff, Bool.and_eq_false_iff, Bool.not_eq_true', Bool.not_eq_false', ne_eq, Classical.not_not] at c34
    refine tr_skip ?_
    refine then_normal ?_
    refine tr_seq ?_
    -- region 12
    refine tr_env (es_cons (t := 11) (OT.tmp rfl) (es_cons (t := 13) (OT.tmp rfl) es_nil)) ?_
    first | dsimp only at hp11_5 ⊢ | skip
    refine tr_region ?_
    refine op_pure (pu_load_var (OT.tmp rfl) (by exact mem_at 0 rfl) (show tyOk Try.prog 3 false 1 = true from by decide +kernel)) rfl rfl ?_
    refine tr_nil ?_
    refine then_normal ?_
    refine tr_block ?_
    refine tr_seq ?_
    -- region 14
    refine tr_env (es_cons (t := 13) (OT.tmp rfl) (es_cons (t := 55) (OT.tmp rfl) es_nil)) ?_
    refine tr_region ?_
    refine op_pure (pu_eql (OT.tmp rfl) OT.const) rfl rfl ?_
    refine op_pure (pu_assign (OT.tmp rfl)) rfl rfl ?_
    refine tr_nil ?_
    refine then_normal ?_
    refine tr_cond (OT.tmp rfl) (fun c57 => ?_) (fun c57 => ?_)
    · try simp only [decide_eq_true_eq, decide_eq_false_iff_not, Bool.or_eq_true, Bool.and_eq_true, Bool.or_eq_false_iff, Bool.and_eq_false_iff, Bool.not_eq_true', Bool.not_eq_false', ne_eq, Classical.not_not] at c57
      refine tr_seq ?_
      -- region 15
      refine tr_env (es_cons (t := 13) (OT.tmp rfl) es_nil) ?_
      refine tr_region ?_
      refine op_pure (pu_move (OT.tmp rfl)) rfl rfl ?_
      refine op_pure (pu_assign (OT.tmp rfl)) rfl rfl ?_
      refine op_pure (pu_assign OT.const) rfl rfl ?_
      refine tr_nil ?_
      refine then_normal ?_
      refine tr_ret ?_
      refine block_ret ?_
      exact ret_two .ret (.inl rfl) rfl (j, 1) (OT.tmp rfl) (OT.tmp rfl) (fun _ _ h => h) (by show (a ≤ j ∧ j < b) ∧ _; exact ⟨by omega, by simp⟩) (by repeat (first | exact picks_nil | refine picks_cons 0 rfl ?_ | refine picks_cons 1 rfl ?_ | refine picks_cons 2 rfl ?_ | refine picks_cons 3 rfl ?_ | refine picks_cons 4 rfl ?_ | refine picks_cons 5 rfl ?_ | refine picks_cons 6 rfl ?_))
    · try simp only [decide_eq_true_eq, decide_eq_false_iff_not, Bool.or_eq_true, Bool.and_eq_true, Bool.or_eq_false_iff, Bool.and_eq_false_iff, Bool.not_eq_true', Bool.not_eq_false', ne_eq, Classical.not_not] at c57
      refine tr_seq ?_
      -- region 16
      refine tr_env (es_cons (t := 13) (OT.tmp rfl) (es_cons (t := 55) (OT.tmp rfl) es_nil)) ?_
      refine tr_region ?_
      refine op_pure (pu_eql (OT.tmp rfl) OT.const) rfl rfl ?_
      refine op_pure (pu_assign (OT.tmp rfl)) rfl rfl ?_
      refine tr_nil ?_
      refine then_normal ?_
      refine tr_cond (OT.tmp rfl) (fun c60 => ?_) (fun c60 => ?_)
      · try simp only [decide_eq_true_eq, decide_eq_false_iff_not, Bool.or_eq_true, Bool.and_eq_true, Bool.or_eq_false_iff, Bool.and_eq_false_iff, Bool.not_eq_true', Bool.not_eq_false', ne_eq, Classical.not_not] at c60
        refine tr_seq ?_
        -- region 17
        refine tr_env (es_cons (t := 13) (OT.tmp rfl) es_nil) ?_
        refine tr_region ?_
        refine op_pure (pu_move (OT.tmp rfl)) rfl rfl ?_
        refine op_pure (pu_assign (OT.tmp rfl)) rfl rfl ?_
        refine op_pure (pu_assign OT.const) rfl rfl ?_
        refine tr_nil ?_
        refine then_normal ?_
        refine tr_ret ?_
        refine block_ret ?_
        exact ret_two .ret (.inl rfl) rfl (j, 2) (OT.tmp rfl) (OT.tmp rfl) (fun _ _ h => h) (by show (a ≤ j ∧ j < b) ∧ _; exact ⟨by omega, by simp⟩) (by repeat (first | exact picks_nil | refine picks_cons 0 rfl ?_ | refine picks_cons 1 rfl ?_ | refine picks_cons 2 rfl ?_ | refine picks_cons 3 rfl ?_ | refine picks_cons 4 rfl ?_ | refine picks_cons 5 rfl ?_ | refine picks_cons 6 rfl ?_))
      · try simp only [decide_eq_true_eq, decide_eq_false_iff_not, Bool.or_eq_true, Bool.and_eq_true, Bool.or_eq_false_iff, Bool.and_eq_false_iff, Bool.not_eq_true', Bool.not_eq_false', ne_eq, Classical.not_not] at c60
        refine tr_seq ?_
        -- region 13
        refine tr_env (es_cons (t := 13) (OT.tmp rfl) es_nil) ?_
        refine tr_region ?_
        refine op_pure (pu_move (OT.tmp rfl)) rfl rfl ?_
        refine op_pure (pu_assign (OT.tmp rfl)) rfl rfl ?_
        refine op_pure (pu_assign OT.const) rfl rfl ?_
        refine tr_nil ?_
        refine then_normal ?_
        refine tr_ret ?_
        refine block_ret ?_
        exact ret_two .ret (.inl rfl) rfl (j, 0) (OT.tmp rfl) (OT.tmp rfl) (fun _ _ h => h) (by show (a ≤ j ∧ j < b) ∧ _; exact ⟨by omega, by simp⟩) (by repeat (first | exact picks_nil | refine picks_cons 0 rfl ?_ | refine picks_cons 1 rfl ?_ | refine picks_cons 2 rfl ?_ | refine picks_cons 3 rfl ?_ | refine picks_cons 4 rfl ?_ | refine picks_cons 5 rfl ?_ | refine picks_cons 6 rfl ?_))
end Go.Proofs.Ytakkjljhjfkkbaa
/- Sorts of tuples: the partitions' loops, step by step. -/
namespace Go.So
open Go Go.Gw
set_option linter.unusedVariables false
set_option linter.unusedSimpArgs false
section
variable {c : List Int → List Int → Int} {d : DA} {a b i j i2 j2 : Nat} {p : List Int → Bool}
theorem up_step (h : i ≤ j) (hp : p d[i]! = true) : Sort.scanUp p d j i = Sort.scanUp p d j (i + 1) := by
  rw [Sort.scanUp, if_pos (by simp [h, hp])]
theorem up_end (h : i ≤ j → p d[i]! = false) : Sort.scanUp p d j i = i := by
  rw [Sort.scanUp, if_neg (by rw [Bool.and_eq_true, decide_eq_true_eq]; rintro ⟨h1, h2⟩; rw [h h1] at h2; cases h2)]
theorem down_step (h0 : 0 < j) (h : i ≤ j) (hp : p d[j]! = true) : Sort.scanDown p d i j = Sort.scanDown p d i (j - 1) := by
  obtain ⟨k, rfl⟩ : ∃ k, j = k + 1 := ⟨j - 1, by omega⟩
  rw [Sort.scanDown, if_pos (by simp [h, hp]), Nat.add_sub_cancel]
theorem down_end (h : i ≤ j → p d[j]! = false) : Sort.scanDown p d i j = j := by
  cases j with
  | zero => rfl
  | succ k => rw [Sort.scanDown, if_neg (by rw [Bool.and_eq_true, decide_eq_true_eq]; rintro ⟨h1, h2⟩; rw [h h1] at h2; cases h2)]
theorem part_end (hi : Sort.scanUp (fun x => ltc c x d[a]!) d j i = i2) (hj : Sort.scanDown (fun x => !ltc c x d[a]!) d i2 j = j2) (h : i2 > j2) : Sort.partLoop (ltc c) a i j d = (j2, d) := by
  rw [Sort.partLoop]
  simp only [hi, hj]
  rw [if_pos h]
theorem part_step (hi : Sort.scanUp (fun x => ltc c x d[a]!) d j i = i2) (hj : Sort.scanDown (fun x => !ltc c x d[a]!) d i2 j = j2) (h : ¬ i2 > j2) (hg : j2 - 1 + 1 - (i2 + 1) < j + 1 - i) : Sort.partLoop (ltc c) a i j d = Sort.partLoop (ltc c) a (i2 + 1) (j2 - 1) (Sort.swp d i2 j2) := by
  rw [Sort.partLoop]
  simp only [hi, hj]
  rw [if_neg h, dif_pos hg]
theorem partE_end (hi : Sort.scanUp (fun x => !ltc c d[a]! x) d j i = i2) (hj : Sort.scanDown (fun x => ltc c d[a]! x) d i2 j = j2) (h : i2 > j2) : Sort.partEqLoop (ltc c) a i j d = (i2, d) := by
  rw [Sort.partEqLoop]
  simp only [hi, hj]
  rw [if_pos h]
theorem partE_step (hi : Sort.scanUp (fun x => !ltc c d[a]! x) d j i = i2) (hj : Sort.scanDown (fun x => ltc c d[a]! x) d i2 j = j2) (h : ¬ i2 > j2) (hg : j2 - 1 + 1 - (i2 + 1) < j + 1 - i) : Sort.partEqLoop (ltc c) a i j d = Sort.partEqLoop (ltc c) a (i2 + 1) (j2 - 1) (Sort.swp d i2 j2) := by
  rw [Sort.partEqLoop]
  simp only [hi, hj]
  rw [if_neg h, dif_pos hg]
theorem partition_one (hi : Sort.scanUp (fun x => ltc c x (Sort.swp d a b)[a]!) (Sort.swp d a b) (j - 1) (a + 1) = i2) (hj : Sort.scanDown (fun x => !ltc c x (Sort.swp d a b)[a]!) (Sort.swp d a b) i2 (j - 1) = j2) (h : i2 > j2) : Sort.partition (ltc c) d a j b = (j2, true, Sort.swp (Sort.swp d a b) j2 a) := by
  rw [Sort.partition]
  simp only [hi, hj]
  rw [if_pos h]
theorem partition_two (hi : Sort.scanUp (fun x => ltc c x (Sort.swp d a b)[a]!) (Sort.swp d a b) (j - 1) (a + 1) = i2) (hj : Sort.scanDown (fun x => !ltc c x (Sort.swp d a b)[a]!) (Sort.swp d a b) i2 (j - 1) = j2) (h : ¬ i2 > j2) :
    Sort.partition (ltc c) d a j b = ((Sort.partLoop (ltc c) a (i2 + 1) (j2 - 1) (Sort.swp (Sort.swp d a b) i2 j2)).1, false, Sort.swp (Sort.partLoop (ltc c) a (i2 + 1) (j2 - 1) (Sort.swp (Sort.swp d a b) i2 j2)).2 (Sort.partLoop (ltc c) a (i2 + 1) (j2 - 1) (Sort.swp (Sort.swp d a b) i2 j2)).1 a) := by
  rw [Sort.partition]
  simp only [hi, hj]
  rw [if_neg h]
/-- 'data[i], data[j] = data[j], data[i]', as the row reads behind it. -/
theorem sw (hi : i < d.size) (hj : j < d.size) : (d.toList.set (i : Int).toNat (at' d.toList (j : Int))).set (j : Int).toNat (at' d.toList (i : Int)) = (Sort.swp d i j).toList := by
  rw [swp_items (by omega) (by omega) (by omega) (by omega)]; simp
theorem lt_arr (hi : i < d.size) (hj : j < d.size) : decide (c (at' d.toList (i : Int)) (at' d.toList (j : Int)) < 0) = ltc c d[i]! d[j]! := (ltc_at hi hj).symm
end
end Go.So
