/- The texts G34, JnA of this claim, put together in their order. No condition of their own. -/
import Derived.Test.YtakkjljhjfkkbaaQ1
import Derived.Test.YtakkjljhjfkkbaaQ5
import Derived.Test.YtakkjljhjfkkbaaQ2
/- Typed walks: regions that draw the order of their operations, with several operations in the open part that make something not known ahead. Over any program. -/
namespace Go.Gw
open Go
set_option linter.unusedVariables false
set_option linter.unusedSimpArgs false
/-- May operation i come while of the marked ones ps just those are done that c tells? -/
def flagsOk (l : List Oper) (ps : List Nat) (i : Nat) (c : List Bool) : Bool := (ps.zip c).all fun x => cond x.2 (!((masks l []).getD x.1 0).testBit i && !(Nat.beq i x.1) && (ps.zip c).all fun y => y.2 || !((masks l []).getD x.1 0).testBit y.1) (!((masks l []).getD i 0).testBit x.1)
def allFlags : Nat → List (List Bool)
  | 0 => [[]]
  | n + 1 => (allFlags n).flatMap fun c => [false :: c, true :: c]
def flagsFor (l : List Oper) (ps : List Nat) (i : Nat) : List (List Bool) := (allFlags ps.length).filter (flagsOk l ps i)
def setF (ps : List Nat) (i : Nat) (c : List Bool) : List Bool := List.zipWith (fun p x => x || Nat.beq i p) ps c
def AllC (P : List Bool → Prop) : List (List Bool) → Prop
  | [] => True
  | c :: cs => P c ∧ AllC P cs
def AllN (P : Nat → Prop) : List Nat → Prop
  | [] => True
  | c :: cs => P c ∧ AllN P cs
theorem allN_mem {P : Nat → Prop} : ∀ {cs : List Nat}, AllN P cs → ∀ c ∈ cs, P c
  | _ :: _, h, _, .head _ => h.1
  | _ :: _, h, c, .tail _ hc => allN_mem h.2 c hc
theorem allC_mem {P : List Bool → Prop} : ∀ {cs : List (List Bool)}, AllC P cs → ∀ c ∈ cs, P c
  | _ :: _, h, _, .head _ => h.1
  | _ :: _, h, c, .tail _ hc => allC_mem h.2 c hc
theorem mem_allFlags : ∀ c : List Bool, c ∈ allFlags c.length
  | [] => .head _
  | x :: c => List.mem_flatMap.2 ⟨c, mem_allFlags c, by cases x <;> simp⟩
theorem zip_mapb (ps : List Nat) (b : Nat → Bool) : ps.zip (ps.map b) = ps.map fun p => (p, b p) := by
  induction ps with
  | nil => rfl
  | cons p ps ih => simp only [List.map_cons, List.zip_cons_cons, ih]
theorem setF_mapb (ps : List Nat) (i : Nat) (b : Nat → Bool) : setF ps i (ps.map b) = ps.map fun p => b p || Nat.beq i p := by
  unfold setF
  induction ps with
  | nil => rfl
  | cons p ps ih => simp only [List.map_cons, List.zipWith_cons_cons, ih]
/-- Of operation i of the open part. -/
def OpS (C : Cx) (Γ : Env) {ρ : Type} (Lf : List Bool → ρ → List It) (ps : List Nat) (all : List Oper) (ops : Array Oper) (Ts : ρ → List Ty) (ψ : List Bool → ρ → Prop) (ups : Nat → ρ → ρ → Prop) (i : Nat) (o : Oper) (n : Need) : Prop :=
  (∃ cs, flagsFor all ps i = cs ∧ AllC (fun c => ∀ r, ψ c r → ROpG C (envOf Γ (Ts r) n) (Lf c r) (fun r' => Lf (setF ps i c) r') (fun r' => ψ (setF ps i c) r' ∧ cond (ps.elem i) (ups i r r') (r' = r)) ops o (fun r' => (Ts r').getD i AnyT)) cs) ∧
  (AllN (fun p => (((masks all []).getD i 0).testBit p || Nat.beq i p) = false → ∀ r r', ups p r r' → (Ts r).getD i AnyT = (Ts r').getD i AnyT) ps)
def AllOpsS (C : Cx) (Γ : Env) {ρ : Type} (Lf : List Bool → ρ → List It) (ps : List Nat) (all : List Oper) (ops : Array Oper) (Ts : ρ → List Ty) (ψ : List Bool → ρ → Prop) (ups : Nat → ρ → ρ → Prop) : Nat → List Oper → List Need → Prop
  | i, o :: l, n :: ns => OpS C Γ Lf ps all ops Ts ψ ups i o n ∧ AllOpsS C Γ Lf ps all ops Ts ψ ups (i + 1) l ns
  | _, _, [] => True
  | _, [], _ :: _ => False
theorem allOpsS_from {C : Cx} {Γ : Env} {ρ : Type} {Lf : List Bool → ρ → List It} {ps : List Nat} {all : List Oper} {ops : Array Oper} {Ts : ρ → List Ty} {ψ : List Bool → ρ → Prop} {ups : Nat → ρ → ρ → Prop} : ∀ {n : Nat} {l : List Oper} {ns : List Need}, AllOpsS C Γ Lf ps all ops Ts ψ ups n l ns → ∀ i, i < ns.length → ∃ o, l[i]? = some o ∧ OpS C Γ Lf ps all ops Ts ψ ups (n + i) o (ns.getD i [])
  | n, o :: l, m :: ns, h, 0, _ => ⟨o, rfl, h.1⟩
  | n, o :: l, m :: ns, h, i + 1, hi => by
    obtain ⟨o', h1, h2⟩ := allOpsS_from h.2 i (by simpa using hi)
    exact ⟨o', by simpa using h1, by rw [Nat.add_right_comm, Nat.add_assoc] at h2; simpa using h2⟩
  | _, [], [], _, i, hi => by simp at hi
  | _, _ :: _, [], _, i, hi => by simp at hi
theorem allOpsS_at {C : Cx} {Γ : Env} {ρ : Type} {Lf : List Bool → ρ → List It} {ps : List Nat} {all : List Oper} {ops : Array Oper} {Ts : ρ → List Ty} {ψ : List Bool → ρ → Prop} {ups : Nat → ρ → ρ → Prop} {l : List Oper} {ns : List Need} (h : AllOpsS C Γ Lf ps all ops Ts ψ ups 0 l ns) (i : Nat) (hi : i < ns.length) : ∃ o, l[i]? = some o ∧ OpS C Γ Lf ps all ops Ts ψ ups i o (ns.getD i []) := by
  have := allOpsS_from h i hi
  simpa using this
/-- A marked operation, out of its rule: the ghost g r0 holds what it gives. -/
theorem rops_acts {C : Cx} {Γ : Env} {L R : List It} {ops : Array Oper} {J : List It} {o : Oper} {ρ ρ0 : Type} {T : ρ0 → Ty} {I : ρ0 → List It} {φ : ρ0 → Prop} {ψ : ρ → Prop} {T' : ρ → Ty} {L' : ρ → List It} (g : ρ0 → ρ) (hg : o.guard = none) (hp : Acts C Γ L o J ρ0 T I φ) (hL : List.Perm L (J ++ R)) (hL' : ∀ r, List.Perm (I r ++ R) (L' (g r))) (hψ : ∀ r, φ r → ψ (g r)) (hT : ∀ r, φ r → ∀ H v, (T r).p H v → (T' (g r)).p H v) : ROpG C Γ L L' ψ ops o T' := fun a w H f s ow Q K hK =>
  ropg_acts (L' := fun r => L' (g r)) (ψ := fun r => ψ (g r)) (T' := fun r => T' (g r)) hg hp hL hL' hψ hT a w H f s ow Q K fun r v w' H' hφ => hK (g r) v w' H' hφ
section
variable {C : Cx} {Γ : Env} {L : List It} {Q : Exit → Act → World → Prop} {l : List Oper} {ns : List Need} {ρ : Type} {Ts : ρ → List Ty} {ψ : List Bool → ρ → Prop} {ups : Nat → ρ → ρ → Prop} {m : Nat}
structure InvS {ρ : Type} (C : Cx) (Γ : Env) (Lf : List Bool → ρ → List It) (ps : List Nat) (l : List Oper) (Ts : ρ → List Ty) (ψ : List Bool → ρ → Prop) (m : Nat) (r : ρ) (b : Nat → Bool) (a : Act) (w : World) (H : FH) : Prop where
  defers : a.defers = []
  size : a.tmps.size = C.N
  st : St C.M C.H0 C.w0 H w
  ow : Owns C.ok w H (Lf (ps.map b) r)
  phi : ψ (ps.map b) r
  old : ∀ t T, find Γ t = some T → (∀ k, k < l.length → dstOf l k = some t → b k = false) → T.p H (a.tmps.getD t undef)
  got : ∀ k t, k < m → b k = true → dstOf l k = some t → ((Ts r).getD k AnyT).p H (a.tmps.getD t undef)
theorem needOk_fitsS {Lf : List Bool → ρ → List It} {r : ρ} {ps : List Nat} {i : Nat} {b : Nat → Bool} {a : Act} {w : World} {H : FH} (hI : InvS C Γ Lf ps l Ts ψ m r b a w H) (him : i < m) (hlen : m ≤ l.length) (hi : b i = false) (hm : ∀ j, ((masks l []).getD i 0).testBit j = true → b j = true) (hcl : ∀ k, k < l.length → b k = true → ∀ j, ((masks l []).getD k 0).testBit j = true → b j = true) (hlt : ∀ j, ((masks l []).getD i 0).testBit j = true → j < i) :
    ∀ {n : Need}, needOk l (masks l []) i n = true → Fits C.N (envOf Γ (Ts r) n) H a
  | [], _ => ⟨hI.defers, hI.size, fun t T h => by cases h⟩
  | (t, none) :: nr, h => by
    simp only [needOk, Bool.and_eq_true] at h
    refine fits_cons ?_ (needOk_fitsS hI him hlen hi hm hcl hlt h.2)
    cases hf : find Γ t with
    | none => exact trivial
    | some T =>
      refine hI.old t T hf fun k hk hd => ?_
      have h1 := List.all_eq_true.1 h.1 k (List.mem_range.2 hk)
      simp only [hd, beq_self_eq_true, Bool.not_true, Bool.false_or, Bool.or_eq_true] at h1
      rcases h1 with h1 | h1
      · rw [Nat.eq_of_beq_eq_true h1]; exact hi
      · cases hb : b k with
        | false => rfl
        | true => have := hcl k hk hb i h1; rw [hi] at this; cases this
  | (t, some j) :: nr, h => by
    simp only [needOk, Bool.and_eq_true, beq_iff_eq] at h
    refine fits_cons ?_ (needOk_fitsS hI him hlen hi hm hcl hlt h.2)
    exact hI.got j t (by have := hlt j h.1.2; omega) (hm j h.1.2) h.1.1

theorem tr_anyS {id : Nat} {ps : List Nat} {Lf : List Bool → ρ → List It} (r0 : ρ) (hψ0 : ψ (ps.map fun _ => false) r0) (hp : ps.all (fun p => Nat.ble (p + 1) m) = true) (hm : C.P.follows .mixedOrders = true) (hok : regOk C.N l m ns = true) (hT : ∀ r, (Ts r).length = m) (hops : AllOpsS C Γ Lf ps l l.toArray Ts ψ ups 0 l ns) (h : ∀ r, ψ (ps.map fun _ => true) r → Tr C (updAll (l.take m) (Ts r) Γ) (Lf (ps.map fun _ => true) r) (wpList C.P l.toArray Q (l.drop m))) : Tr C Γ (Lf (ps.map fun _ => false) r0) ((Code.region id l.toArray true).wp C.P Q) := by
  simp only [regOk, Bool.and_eq_true, decide_eq_true_eq] at hok
  obtain ⟨⟨⟨hok1, hnd⟩, hnl⟩, hml⟩ := hok
  have hml : m ≤ l.length := Nat.le_of_ble_eq_true hml
  have hpm : ∀ p ∈ ps, p < m := fun p hp' => Nat.le_of_ble_eq_true (List.all_eq_true.1 hp p hp')
  have hrow : ∀ k o, l[k]? = some o → (∀ e ∈ needs o, e < k) ∧ (o.dst.all fun d => decide (d < C.N)) = true ∧ (k < m → needOk l (masks l []) k (ns.getD k []) = true) ∧ (m ≤ k → ∀ j, j < k → ((masks l []).getD k 0).testBit j = true) := by
    intro k o ho
    have hk := (List.getElem?_eq_some_iff.1 ho).1
    have h1 := List.all_eq_true.1 hok1 k (List.mem_range.2 hk)
    rw [ho] at h1
    simp only [Bool.and_eq_true, List.all_eq_true, decide_eq_true_eq] at h1
    refine ⟨h1.1.1, h1.1.2, fun hkm => ?_, fun hkm j hj => ?_⟩
    · have h2 := h1.2; rw [if_pos hkm] at h2; exact h2
    · have h2 := h1.2; rw [if_neg (by omega)] at h2; exact List.all_eq_true.1 h2 j (List.mem_range.2 hj)
  have hpos : ∀ k o, l[k]? = some o → ∀ e ∈ needs o, e < k := fun k o ho => (hrow k o ho).1
  have hlt : ∀ i, i < l.length → ∀ j, ((masks l []).getD i 0).testBit j = true → j < i := by
    intro i
    induction i using Nat.strongRecOn with
    | _ i ih =>
      intro hi j hj
      have ho : l[i]? = some l[i] := List.getElem?_eq_getElem hi
      have hm' := masks_at l [] i _ ho
      simp only [List.length_nil, Nat.zero_add] at hm'
      rw [List.getD_eq_getElem?_getD, hm', Option.getD_some] at hj
      obtain ⟨e, he, h⟩ := mask_bit hj
      have hei := hpos i _ ho e he
      rcases h with rfl | h
      · exact hei
      · rw [List.getD_eq_getElem?_getD, List.getElem?_take, if_pos hei, ← List.getD_eq_getElem?_getD] at h
        have := ih e hei (by omega) j h
        omega
  intro a w H f s ow
  refine wp_region_any hm ?_
  -- the open part
  have main : ∀ (fuel : Nat) (listed : Array Bool) (a : Act) (w : World) (H : FH) (r : ρ), listed.size = l.length → ((List.range l.length).filter fun i => !listed.getD i true).length ≤ fuel →
      (∀ i, m ≤ i → i < l.length → listed.getD i true = false) → ClosedB l (fun j => listed.getD j false) → InvS C Γ Lf ps l Ts ψ m r (fun j => listed.getD j false) a w H → wpAny C.P .any l.toArray Q fuel listed a w := by
    intro fuel
    induction fuel with
    | zero =>
      intro listed a w H r hs hf hsuf hc hI
      have hall : ∀ i, i < l.length → listed.getD i true = true := by
        intro i hi
        cases hb : listed.getD i true with
        | true => rfl
        | false =>
          have : i ∈ (List.range l.length).filter fun i => !listed.getD i true := List.mem_filter.2 ⟨List.mem_range.2 hi, by rw [hb]; rfl⟩
          have h0 : (List.range l.length).filter (fun i => !listed.getD i true) = [] := List.eq_nil_of_length_eq_zero (by omega)
          rw [h0] at this; cases this
      have hmn : m = l.length := by
        rcases Nat.lt_or_ge m l.length with h1 | h1
        · have h2 := hsuf m (Nat.le_refl _) h1; rw [hall m h1] at h2; cases h2
        · omega
      have hpd : (ps.map fun j => listed.getD j false) = ps.map fun _ => true := List.map_congr_left fun p hp' => by
        have := hall p (by have := hpm p hp'; omega); have h8 : p < listed.size := by have := hpm p hp'; omega
        simp [Array.getD_eq_getD_getElem?, Array.getElem?_eq_getElem h8] at this ⊢; exact this
      refine any_rest (m := m) (b := listed) hpos (fun k h1 h2 => (hrow k _ (List.getElem?_eq_getElem h2)).2.2.2 h1) 0 l.length listed a w (by omega) (Nat.le_refl _) hs (by omega) hall (fun i h1 h2 => by omega) ?_
      refine (by have h5 := h r (hpd ▸ hI.phi); rw [hmn] at h5; exact h5 : Tr C (updAll (l.take l.length) (Ts r) Γ) (Lf (ps.map fun _ => true) r) (wpList C.P l.toArray Q (l.drop l.length))) a w H ⟨hI.defers, hI.size, fun t T e => ?_⟩ hI.st (by have := hI.ow; rw [hpd] at this; exact this)
      rw [List.take_length] at e
      rcases updAll_find l (Ts r) Γ t T (by rw [hT, hmn]) e with ⟨k, hk, hd, rfl⟩ | ⟨h1, h2⟩
      · exact hI.got k t (by omega) (by have := hall k hk; have h8 : k < listed.size := by omega
                                        simp [Array.getD_eq_getD_getElem?, Array.getElem?_eq_getElem h8] at this ⊢; exact this) hd
      · exact hI.old t T h1 fun k hk hd => absurd hd (h2 k hk)
    | succ fuel ih =>
      intro listed a w H r hs hf hsuf hc hI
      by_cases hpre : ∀ i, i < m → listed.getD i true = true
      · -- the open part is done
        have hpd : (ps.map fun j => listed.getD j false) = ps.map fun _ => true := List.map_congr_left fun p hp' => by
          have := hpre p (hpm p hp'); have h8 : p < listed.size := by have := hpm p hp'; omega
          simp [Array.getD_eq_getD_getElem?, Array.getElem?_eq_getElem h8] at this ⊢; exact this
        refine any_rest (m := m) (b := listed) hpos (fun k h1 h2 => (hrow k _ (List.getElem?_eq_getElem h2)).2.2.2 h1) (fuel + 1) m listed a w (Nat.le_refl _) hml hs ?_ hpre hsuf ?_
        · have : (List.range' m (l.length - m)).length ≤ ((List.range l.length).filter fun i => !listed.getD i true).length := by
            refine List.Sublist.length_le (l₁ := List.range' m (l.length - m)) ?_
            have e1 : (List.range l.length).filter (fun i => !listed.getD i true) = List.range' m (l.length - m) := by
              have e2 : List.range l.length = List.range' 0 m ++ List.range' m (l.length - m) := by
                rw [List.range_eq_range', show l.length = m + (l.length - m) from by omega, ← List.range'_append]
                simp
              rw [e2, List.filter_append]
              have e3 : (List.range' 0 m).filter (fun i => !listed.getD i true) = [] := by
                rw [List.filter_eq_nil_iff]
                intro i hi
                have := (List.mem_range'_1.1 hi).2
                rw [hpre i (by omega)]; simp
              have e4 : (List.range' m (l.length - m)).filter (fun i => !listed.getD i true) = List.range' m (l.length - m) := by
                rw [List.filter_eq_self]
                intro i hi
                have := List.mem_range'_1.1 hi
                rw [hsuf i (by omega) (by omega)]; rfl
              rw [e3, e4, List.nil_append]
            rw [e1]
            exact List.Sublist.refl _
          rw [List.length_range'] at this
          omega
        · refine h r (hpd ▸ hI.phi) a w H ⟨hI.defers, hI.size, fun t T e => ?_⟩ hI.st (by have := hI.ow; rw [hpd] at this; exact this)
          rcases updAll_find (l.take m) (Ts r) Γ t T (by rw [hT, List.length_take]; omega) e with ⟨k, hk, hd, rfl⟩ | ⟨h1, h2⟩
          · rw [List.length_take] at hk
            refine hI.got k t (by omega) ?_ (by unfold dstOf at hd ⊢; rw [List.getElem?_take, if_pos (by omega)] at hd; exact hd)
            have := hpre k (by omega)
            have h8 : k < listed.size := by omega
            simp [Array.getD_eq_getD_getElem?, Array.getElem?_eq_getElem h8] at this ⊢; exact this
          · refine hI.old t T h1 fun k hk hd => ?_
            rcases Nat.lt_or_ge k m with h3 | h3
            · exact absurd (by unfold dstOf at hd ⊢; rw [List.getElem?_take, if_pos h3]; exact hd) (h2 k (by rw [List.length_take]; omega))
            · have := hsuf k h3 hk
              have h8 : k < listed.size := by omega
              simp [Array.getD_eq_getD_getElem?, Array.getElem?_eq_getElem h8] at this ⊢; exact this
      · refine ⟨fun hr => ?_, fun i hi => ?_⟩
        · -- something is always ready
          exfalso
          have hex : ∃ i, i < l.length ∧ listed.getD i true = false := by
            apply Classical.byContradiction
            intro hno
            refine hpre fun i hi => ?_
            cases hb : listed.getD i true with
            | true => rfl
            | false => exact absurd ⟨i, by omega, hb⟩ hno
          have hmin : ∀ n i, i < n → i < l.length → listed.getD i true = false → ∃ j, j < l.length ∧ listed.getD j true = false ∧ ∀ k, k < j → listed.getD k true = true := by
            intro n
            induction n with
            | zero => intro i h; omega
            | succ n ihn =>
              intro i hi hl hb
              by_cases hk : ∀ k, k < i → listed.getD k true = true
              · exact ⟨i, hl, hb, hk⟩
              · have : ∃ k, k < i ∧ listed.getD k true = false := by
                  apply Classical.byContradiction
                  intro hno
                  refine hk fun k hki => ?_
                  cases hbk : listed.getD k true with
                  | true => rfl
                  | false => exact absurd ⟨k, hki, hbk⟩ hno
                obtain ⟨k, hk1, hk2⟩ := this
                exact ihn k (by omega) (by omega) hk2
          obtain ⟨i, hi, hb⟩ := hex
          obtain ⟨j, hj1, hj2, hj3⟩ := hmin (i + 1) i (by omega) hi hb
          have : j ∈ Region.ready .any l.toArray listed := by
            unfold Region.ready
            rw [List.mem_filter]
            refine ⟨by simpa using hj1, ?_⟩
            rw [hj2]
            have ho : l[j]? = some l[j] := List.getElem?_eq_getElem hj1
            simp only [List.getElem?_toArray, ho, Option.map_some, Option.getD_some, Bool.not_false, Bool.true_and]
            rw [← Array.all_toList, List.all_eq_true]
            intro e he
            by_cases hbe : Region.binds .any e = true
            · have hmem : e.on ∈ needs l[j] := List.mem_map.2 ⟨e, List.mem_filter.2 ⟨he, hbe⟩, rfl⟩
              have h3 := hj3 e.on (hpos j _ ho _ hmem)
              have h4 : e.on < listed.size := by have := hpos j _ ho _ hmem; omega
              simp [Array.getD_eq_getD_getElem?, Array.getElem?_eq_getElem h4] at h3 ⊢
              simp [h3]
            · simp [hbe]
          rw [hr] at this; cases this
        · unfold Region.ready at hi
          rw [List.mem_filter] at hi
          obtain ⟨hi1, hi2⟩ := hi
          have hil : i < l.length := by simpa using hi1
          simp only [Bool.and_eq_true, Bool.not_eq_true'] at hi2
          have ho : l[i]? = some l[i] := List.getElem?_eq_getElem hil
          have hr : ∀ e ∈ needs l[i], (fun j => listed.getD j false) e = true := by
            intro e he
            obtain ⟨ed, hed, rfl⟩ := List.mem_map.1 he
            rw [List.mem_filter] at hed
            have h4 := hi2.2
            simp only [List.getElem?_toArray, ho, Option.map_some, Option.getD_some, ← Array.all_toList, List.all_eq_true] at h4
            have h5 := h4 ed hed.1
            simpa [hed.2] using h5
          have hbi : (fun j => listed.getD j false) i = false := by
            have h8 : i < listed.size := by omega
            have := hi2.1
            simp [Array.getD_eq_getD_getElem?, Array.getElem?_eq_getElem h8] at this ⊢; exact this
          have hmk := ready_mask hc ho hr
          have him : i < m := by
            rcases Nat.lt_or_ge i m with h1 | h1
            · exact h1
            · exfalso
              refine hpre fun j hj => ?_
              have := hmk j ((hrow i _ ho).2.2.2 h1 j (by omega))
              have h8 : j < listed.size := by omega
              simp [Array.getD_eq_getD_getElem?, Array.getElem?_eq_getElem h8] at this ⊢; exact this
          obtain ⟨o, ho2, hop⟩ := allOpsS_at hops i (by omega)
          have hoo : o = l[i] := by rw [ho] at ho2; exact (Option.some.inj ho2).symm
          subst hoo
          have hcl : ∀ k, k < l.length → listed.getD k false = true → ∀ j, ((masks l []).getD k 0).testBit j = true → listed.getD j false = true := fun k hk hb j hj => closed_mask hc (k + 1) k (by omega) hk hb j hj
          have hfit := needOk_fitsS hI him hml hbi hmk hcl (hlt i hil) ((hrow i _ ho).2.2.1 him)
          have hfl : flagsOk l ps i (ps.map fun j => listed.getD j false) = true := by
            unfold flagsOk
            rw [zip_mapb, List.all_map, List.all_eq_true]
            intro p hp'
            show cond (listed.getD p false) _ _ = true
            cases hbp : listed.getD p false with
            | false =>
              simp only [cond_false, Bool.not_eq_true']
              cases hq : ((masks l []).getD i 0).testBit p with
              | false => rfl
              | true => have h8 := hmk p hq; exact absurd (h8.symm.trans hbp) (by simp)
            | true =>
              simp only [cond_true, Bool.and_eq_true, Bool.not_eq_true']
              refine ⟨⟨?_, ?_⟩, ?_⟩
              · cases hq : ((masks l []).getD p 0).testBit i with
                | false => rfl
                | true => have h8 := hcl p (by have := hpm p hp'; omega) hbp i hq; exact absurd (h8.symm.trans hbi) (by simp)
              · cases hq : Nat.beq i p with
                | false => rfl
                | true => have h8 := Nat.eq_of_beq_eq_true hq; subst h8; exact absurd (hbp.symm.trans hbi) (by simp)
              · rw [List.all_map, List.all_eq_true]
                intro q hq'
                show (listed.getD q false || !((masks l []).getD p 0).testBit q) = true
                cases hq : ((masks l []).getD p 0).testBit q with
                | false => simp
                | true => rw [show listed.getD q false = true from hcl p (by have := hpm p hp'; omega) hbp q hq]; rfl
          obtain ⟨⟨cs, hcs, hall⟩, hcoh⟩ := hop
          have hcm : (ps.map fun j => listed.getD j false) ∈ cs := by
            rw [← hcs]
            refine List.mem_filter.2 ⟨?_, hfl⟩
            have := mem_allFlags (ps.map fun j => listed.getD j false)
            rwa [List.length_map] at this
          have hnew : (ps.map fun p => (listed.setIfInBounds i true).getD p false) = setF ps i (ps.map fun j => listed.getD j false) := by
            rw [setF_mapb]
            refine List.map_congr_left fun p _ => ?_
            simp only [Array.getD_eq_getD_getElem?, Array.getElem?_setIfInBounds]
            by_cases hip : i = p
            · subst hip; simp [show i < listed.size from by omega]
            · have : Nat.beq i p = false := by
                cases hb : Nat.beq i p with
                | false => rfl
                | true => exact absurd (Nat.eq_of_beq_eq_true hb) hip
              simp [hip, this]
          have hop2 := (allC_mem hall _ hcm r hI.phi) a w H hfit hI.st hI.ow Q (wpAny C.P .any l.toArray Q fuel (listed.setIfInBounds i true)) ?_
          · unfold wpOp
            have : l.toArray[i]? = some l[i] := by simp
            rw [this]
            simp only
            split
            · rename_i hw; rw [if_pos hw] at hop2; exact .inl hop2
            · rename_i hw; rw [if_neg hw] at hop2; exact hop2
          · intro r' v w' H' hφ' hsub hst' how' hv
            refine ih _ _ w' H' r' (by simpa using hs) ?_ ?_ ?_ ?_
            · have : ((List.range l.length).filter fun j => !(listed.setIfInBounds i true).getD j true).length < ((List.range l.length).filter fun j => !listed.getD j true).length := by
                have hsub : (List.range l.length).filter (fun j => !(listed.setIfInBounds i true).getD j true) = ((List.range l.length).filter fun j => !listed.getD j true).filter (fun j => !(Nat.beq i j)) := by
                  rw [List.filter_filter]
                  apply List.filter_congr
                  intro j hj
                  simp only [Array.getD_eq_getD_getElem?, Array.getElem?_setIfInBounds]
                  by_cases hij : i = j
                  · subst hij; simp [show i < listed.size from by omega]
                  · have : Nat.beq i j = false := by
                      cases hb : Nat.beq i j with
                      | false => rfl
                      | true => exact absurd (Nat.eq_of_beq_eq_true hb) hij
                    simp [hij, this]
                rw [hsub]
                have hmem : i ∈ (List.range l.length).filter fun j => !listed.getD j true := List.mem_filter.2 ⟨List.mem_range.2 hil, by rw [hi2.1]; rfl⟩
                exact List.length_filter_lt_length_iff_exists.2 ⟨i, hmem, by simp⟩
              omega
            · intro j hj hjl
              have := hsuf j hj hjl
              simp only [Array.getD_eq_getD_getElem?] at this
              simp only [Array.getD_eq_getD_getElem?, Array.getElem?_setIfInBounds]
              simp [show ¬ i = j from by omega, this]
            · intro k o' ho' hb' e he
              simp only [Array.getD_eq_getD_getElem?, Array.getElem?_setIfInBounds] at hb' ⊢
              by_cases hie : i = e
              · subst hie; simp [show i < listed.size from by omega]
              · simp only [if_neg hie]
                have h8 : ∀ e, (listed[e]?).getD false = listed.getD e false := fun e => by simp [Array.getD_eq_getD_getElem?]
                rw [h8]
                by_cases hik : i = k
                · subst hik
                  have : l[i] = o' := by rw [ho] at ho'; exact Option.some.inj ho'
                  subst this
                  exact hr e he
                · simp only [if_neg hik] at hb'
                  rw [h8] at hb'
                  exact hc k o' ho' hb' e he
            · have hdd : ∀ t, (a.put l[i].dst v).tmps.getD t undef = if l[i].dst = some t then v else a.tmps.getD t undef := by
                intro t
                cases hd : l[i].dst with
                | none => simp [Act.put]
                | some d =>
                  rw [getD_put]
                  have hdN : d < C.N := by
                    have := (hrow i _ ho).2.1
                    rw [hd] at this; simpa using this
                  by_cases hdt : d = t
                  · subst hdt; simp [hI.size, hdN]
                  · simp [hdt]
              refine ⟨?_, ?_, hst', ?_, ?_, ?_, ?_⟩
              · cases hd : l[i].dst <;> simp [Act.put, hI.defers]
              · cases hd : l[i].dst <;> simp [Act.put, hI.size]
              · rw [hnew]; exact how'
              · rw [hnew]; exact hφ'.1
              · intro t T hf hall
                have hbt : ∀ k, k < l.length → dstOf l k = some t → listed.getD k false = false ∧ k ≠ i := by
                  intro k hk hd
                  have := hall k hk hd
                  simp only [Array.getD_eq_getD_getElem?, Array.getElem?_setIfInBounds] at this ⊢
                  by_cases hik : i = k
                  · subst hik; simp [show i < listed.size from by omega] at this
                  · simp [hik] at this; exact ⟨this, fun e => hik e.symm⟩
                have hne : ¬ l[i].dst = some t := fun e => (hbt i hil (by simp [dstOf, ho, e])).2 rfl
                rw [hdd, if_neg hne]
                exact T.mono hsub (hI.old t T hf fun k hk hd => (hbt k hk hd).1)
              · intro k t hkm hb hd
                rw [hdd]
                simp only [Array.getD_eq_getD_getElem?, Array.getElem?_setIfInBounds] at hb
                by_cases hik : i = k
                · subst hik
                  have : l[i].dst = some t := by simpa [dstOf, ho] using hd
                  rw [if_pos this]
                  exact hv
                · simp only [if_neg hik] at hb
                  have hb' : listed.getD k false = true := by simpa [Array.getD_eq_getD_getElem?] using hb
                  have hne : ¬ l[i].dst = some t := by
                    intro e
                    -- two operations of the open part that write one slot
                    have h1 : (l.take m)[i]? = some l[i] := by rw [List.getElem?_take, if_pos him]; exact ho
                    have hkl : k < l.length := by omega
                    have h2 : (l.take m)[k]? = some l[k] := by rw [List.getElem?_take, if_pos hkm]; exact List.getElem?_eq_getElem hkl
                    have h3 : l[k].dst = some t := by simpa [dstOf, List.getElem?_eq_getElem hkl] using hd
                    exact hik (tr_anyG.nodup_filterMap hnd h1 h2 e h3)
                  rw [if_neg hne]
                  have hgot := hI.got k t hkm hb' hd
                  have hcohk : (Ts r).getD k AnyT = (Ts r').getD k AnyT := by
                    have hφ2 := hφ'.2
                    cases hip : ps.elem i with
                    | false => rw [hip] at hφ2; rw [show r' = r from hφ2]
                    | true =>
                      rw [hip] at hφ2
                      obtain ⟨o3, _, hop3⟩ := allOpsS_at hops k (by omega)
                      refine allN_mem hop3.2 i (List.elem_iff.1 hip) ?_ r r' hφ2
                      rw [Bool.or_eq_false_iff]
                      refine ⟨?_, ?_⟩
                      · cases hq : ((masks l []).getD k 0).testBit i with
                        | false => rfl
                        | true => have h8 := hcl k (by omega) hb' i hq; exact absurd (h8.symm.trans hbi) (by simp)
                      · cases hq : Nat.beq k i with
                        | false => rfl
                        | true => exact absurd (Nat.eq_of_beq_eq_true hq).symm hik
                  rw [← hcohk]
                  exact ((Ts r).getD k AnyT).mono hsub hgot
  refine main l.length (Array.replicate l.length false) a { w with drawn := w.drawn + 1 } H r0 (by simp) (by
    refine Nat.le_trans (List.length_filter_le _ _) (by simp)) (fun i _ hi => by simp [Array.getD_eq_getD_getElem?, hi]) ?_ ?_ |> fun h => by simpa using h
  · intro k o ho hb e he
    simp [Array.getD_eq_getD_getElem?, Array.getElem?_replicate] at hb
    split at hb <;> simp at hb
  · have e0 : (ps.map fun j => (Array.replicate l.length false).getD j false) = ps.map fun _ => false := List.map_congr_left fun p _ => by simp only [Array.getD_eq_getD_getElem?, Array.getElem?_replicate]; split <;> rfl
    refine ⟨f.defers, f.size, ⟨s.sub, fun k o e => s.on k o e, s.os, s.tape, s.output, s.size, s.keep, s.new⟩, ?_, by rw [e0]; exact hψ0, fun t T hf _ => f.get t T hf, fun k t _ hb => ?_⟩
    · rw [e0]
      exact ⟨fun i hi => i.st (w := w) (w' := { w with drawn := w.drawn + 1 }) (fun _ _ => rfl) (Sub.refl _) (ow.all i hi), ow.nodup, ow.own⟩
    simp [Array.getD_eq_getD_getElem?, Array.getElem?_replicate] at hb
    split at hb <;> simp at hb
end
/-- An operation whose items are given up at once: they are read from here on. -/
theorem Acts.frz {C : Cx} {Γ : Env} {L : List It} {o : Oper} {J : List It} {ρ : Type} {T T' : ρ → Ty} {J' R' : ρ → List It} {φ : ρ → Prop} {Q : ρ → FH → Prop} (h : Acts C Γ L o J ρ T (fun r => J' r ++ R' r) φ) (hf : ∀ r, Frz (J' r) (Q r)) (hT : ∀ r H v, (T r).p H v → Q r H → (T' r).p H v) : Acts C Γ L o J ρ T' R' φ := fun a w H f s ow P K hK =>
  h a w H f s ow P K fun r v w' H' hφ s' hv ho => by
    obtain ⟨H'', h1, h2, h3, h4, h5⟩ := hf r _ w' H' (R' r) s'.on ho
    refine hK r v w' H'' hφ ⟨s'.sub.trans h1, h2, s'.os, s'.tape, s'.output, s'.size, s'.keep, fun k o e => ?_⟩ (hT r H'' v ((T r).mono h1 hv) h5) h4
    rcases h3 k o e with e | e
    · exact s'.new k o e
    · rcases e with e | e
      · exact .inr (.inr e)
      · exact .inr (.inl e)
theorem Acts.freeze {C : Cx} {Γ : Env} {L : List It} {o : Oper} {J : List It} {α : Type} {d : Kd α} {el : TypeId} {ρ : Type} {f : ρ → Value} {xs : ρ → List α} {φ : ρ → Prop} (h : Acts C Γ L o J ρ (fun r => IsV (f r)) (fun r => [OwnI el d (f r) (xs r)]) φ) : Acts C Γ L o J ρ (fun r => SlT d (xs r)) (fun _ => []) φ :=
  Acts.frz (J' := fun r => [OwnI el d (f r) (xs r)]) (R' := fun _ => []) h (fun _ => Frz.own) fun r H v hv hq => by rw [show v = f r from hv]; exact hq
end Go.Gw
/- Edges, an index of them, patterns, variables, rows: what the join package computes, and what that is true of. Plain Lean. -/
namespace Go.Jn
open Go Go.Gw Go.Tu
set_option linter.unusedVariables false
set_option linter.unusedSimpArgs false
abbrev Lab := List UInt8
abbrev Ed := Int × Lab × Int
abbrev Atm := Lab × Lab × Lab
abbrev Vw := Lab × Int × List Lab × List Atm × Lab
abbrev Pr := Int × Int
abbrev Ix := List (Int × List Int) × List Pr × List (Pr × Int)
/-! ### 1. Variables -/
def addV (out : List Lab) (x : Lab) : List Lab := if out.contains x then out else out ++ [x]
def addA (out : List Lab) (a : Atm) : List Lab := addV (addV out a.1) a.2.2
def varsL (al : List Atm) : List Lab := al.foldl addA []
theorem addV_mem {out : List Lab} {x y : Lab} : y ∈ addV out x ↔ y ∈ out ∨ y = x := by
  unfold addV
  split
  · rename_i h
    have h1 : x ∈ out := by simpa using h
    exact ⟨.inl, fun h => h.elim id fun e => e ▸ h1⟩
  · simp
theorem addV_nodup {out : List Lab} {x : Lab} (h : out.Nodup) : (addV out x).Nodup := by
  unfold addV
  split
  · exact h
  · rename_i hc
    refine List.nodup_append.2 ⟨h, by simp, fun a ha b hb e => ?_⟩
    have : b = x := by simpa using hb
    subst this; subst e
    exact hc (by simpa using ha)
theorem addV_pre {out : List Lab} {x : Lab} : out <+: addV out x := by
  unfold addV
  split
  · exact List.prefix_refl _
  · exact ⟨[x], rfl⟩
theorem addV_len {out : List Lab} {x : Lab} : (addV out x).length = if out.contains x then out.length else out.length + 1 := by
  unfold addV; split <;> simp
theorem addA_pre {out : List Lab} {a : Atm} : out <+: addA out a := List.IsPrefix.trans addV_pre addV_pre
theorem varsL_snoc (al : List Atm) (a : Atm) : varsL (al ++ [a]) = addA (varsL al) a := by unfold varsL; rw [List.foldl_append]; rfl
theorem varsL_nodup (al : List Atm) : (varsL al).Nodup := by
  have : ∀ (al : List Atm) (out : List Lab), out.Nodup → (al.foldl addA out).Nodup := by
    intro al
    induction al with
    | nil => exact fun out h => h
    | cons a al ih => exact fun out h => ih _ (addV_nodup (addV_nodup h))
  exact this al [] List.nodup_nil
theorem fold_pre : ∀ (al : List Atm) (out : List Lab), out <+: al.foldl addA out
  | [], out => List.prefix_refl _
  | a :: al, out => List.IsPrefix.trans addA_pre (fold_pre al (addA out a))
theorem varsL_pre (al bs : List Atm) : varsL al <+: varsL (al ++ bs) := by unfold varsL; rw [List.foldl_append]; exact fold_pre _ _
theorem varsL_take (al : List Atm) (k : Nat) : varsL (al.take k) <+: varsL al := by
  have := varsL_pre (al.take k) (al.drop k)
  rwa [List.take_append_drop] at this
theorem varsL_mem {al : List Atm} {x : Lab} : x ∈ varsL al ↔ ∃ a ∈ al, x = a.1 ∨ x = a.2.2 := by
  have : ∀ (al : List Atm) (out : List Lab), x ∈ al.foldl addA out ↔ x ∈ out ∨ ∃ a ∈ al, x = a.1 ∨ x = a.2.2 := by
    intro al
    induction al with
    | nil => intro out; simp
    | cons a al ih =>
      intro out
      rw [List.foldl_cons, ih]
      unfold addA
      rw [addV_mem, addV_mem]
      simp only [List.mem_cons, exists_eq_or_imp]
      constructor
      · rintro (((h | h) | h) | h)
        · exact .inl h
        · exact .inr (.inl (.inl h))
        · exact .inr (.inl (.inr h))
        · exact .inr (.inr h)
      · rintro (h | (h | h) | h)
        · exact .inl (.inl (.inl h))
        · exact .inl (.inl (.inr h))
        · exact .inl (.inr h)
        · exact .inr h
  unfold varsL
  rw [this]; simp
theorem varsL_len (al : List Atm) : (varsL al).length ≤ 2 * al.length := by
  have : ∀ (al : List Atm) (out : List Lab), (al.foldl addA out).length ≤ out.length + 2 * al.length := by
    intro al
    induction al with
    | nil => intro out; simp
    | cons a al ih =>
      intro out
      have h1 := ih (addA out a)
      have h2 : (addA out a).length ≤ out.length + 2 := by
        unfold addA
        rw [addV_len]
        have h3 : (addV out a.1).length ≤ out.length + 1 := by rw [addV_len]; split <;> omega
        split <;> omega
      rw [List.foldl_cons, List.length_cons]; omega
  exact Nat.le_trans (this al []) (by simp)
theorem pre_idx {V W : List Lab} (h : V <+: W) {x : Lab} (hx : x ∈ V) : W.idxOf x = V.idxOf x := by
  obtain ⟨t, rfl⟩ := h
  rw [List.idxOf_append, if_pos hx]
/-- Where an atom's variables lie: behind the variables of the atoms ahead of it. -/
structure Lies (n m f t : Nat) : Prop where
  f1 : f ≤ n
  t1 : t ≤ n + 1
  t2 : f < n → t ≤ n
  m1 : f < n → t < n → m = n
  m2 : f < n → t = n → m = n + 1
  m3 : f = n → t ≤ n → m = n + 1
  m4 : f = n → t = n + 1 → m = n + 2
theorem lies {V W U : List Lab} {a : Atm} (hV : V.Nodup) (hW : W = addA V a) (hU : W <+: U) : Lies V.length W.length (U.idxOf a.1) (U.idxOf a.2.2) := by
  have h1 : a.1 ∈ W := by rw [hW]; unfold addA; rw [addV_mem, addV_mem]; exact .inl (.inr rfl)
  have h2 : a.2.2 ∈ W := by rw [hW]; unfold addA; rw [addV_mem]; exact .inr rfl
  rw [pre_idx hU h1, pre_idx hU h2]
  have hp1 : V <+: addV V a.1 := addV_pre
  have hp2 : addV V a.1 <+: W := by rw [hW]; exact addV_pre
  have i1 : W.idxOf a.1 = (addV V a.1).idxOf a.1 := pre_idx hp2 (addV_mem.2 (.inr rfl))
  have l1 := addV_len (out := V) (x := a.1)
  have l2 : W.length = if (addV V a.1).contains a.2.2 then (addV V a.1).length else (addV V a.1).length + 1 := by rw [hW]; exact addV_len
  by_cases c1 : a.1 ∈ V
  · have e1 : addV V a.1 = V := by unfold addV; rw [if_pos (by simpa using c1)]
    rw [e1] at i1 l2
    have b1 : V.idxOf a.1 < V.length := List.idxOf_lt_length_of_mem c1
    by_cases c2 : a.2.2 ∈ V
    · have i2 : W.idxOf a.2.2 = V.idxOf a.2.2 := pre_idx (hp1.trans hp2) c2
      have b2 : V.idxOf a.2.2 < V.length := List.idxOf_lt_length_of_mem c2
      rw [if_pos (by simpa using c2)] at l2
      constructor <;> omega
    · rw [if_neg (by simpa using c2)] at l2
      have i2 : W.idxOf a.2.2 = V.length := by
        rw [hW, addA, e1, addV, if_neg (by simpa using c2), List.idxOf_append, if_neg c2]; simp
      constructor <;> omega
  · have e1 : addV V a.1 = V ++ [a.1] := by unfold addV; rw [if_neg (by simpa using c1)]
    rw [if_neg (by simpa using c1)] at l1
    have i1' : W.idxOf a.1 = V.length := by rw [i1, e1, List.idxOf_append, if_neg c1]; simp
    by_cases c2 : a.2.2 ∈ V
    · have i2 : W.idxOf a.2.2 = V.idxOf a.2.2 := pre_idx (hp1.trans hp2) c2
      have b2 : V.idxOf a.2.2 < V.length := List.idxOf_lt_length_of_mem c2
      rw [if_pos (by rw [e1]; simp [c2])] at l2
      constructor <;> omega
    · by_cases c3 : a.2.2 = a.1
      · rw [if_pos (by rw [e1, c3]; simp)] at l2
        rw [c3]
        constructor <;> omega
      · rw [if_neg (by rw [e1]; simp [c2, c3])] at l2
        have i2 : W.idxOf a.2.2 = V.length + 1 := by
          rw [hW, addA, addV, if_neg (by rw [e1]; simp [c2, c3]), List.idxOf_append, if_neg (by rw [e1]; simp [c2, c3]), e1]; simp
        constructor <;> omega
/-! ### 2. An index of edges -/
def stepI (x : Ix) (p : Pr) : Ix :=
  let c := (lkp p x.2.2).getD 0 + 1
  if c = 1 then (ptk p.1 ((lkp p.1 x.1).getD [] ++ [p.2]) x.1, x.2.1 ++ [p], ptk p c x.2.2) else (x.1, x.2.1, ptk p c x.2.2)
def stepE (m : List (Lab × Ix)) (e : Ed) : List (Lab × Ix) := ptk e.2.1 (stepI ((lkp e.2.1 m).getD ([], [], [])) (e.1, e.2.2)) m
def byLab (l : List Ed) : List (Lab × Ix) := l.foldl stepE []
def prs (l : List Ed) (lab : Lab) : List Pr := (l.filter fun e => decide (e.2.1 = lab)).map fun e => (e.1, e.2.2)
theorem mem_prs {l : List Ed} {lab : Lab} {p : Pr} : p ∈ prs l lab ↔ (p.1, lab, p.2) ∈ l := by
  unfold prs
  simp only [List.mem_map, List.mem_filter, decide_eq_true_eq]
  constructor
  · rintro ⟨⟨a, b, c⟩, ⟨h1, rfl⟩, rfl⟩; exact h1
  · intro h; exact ⟨_, ⟨h, rfl⟩, rfl⟩
structure IxOk (x : Ix) (ps : List Pr) : Prop where
  all : ∀ p, p ∈ x.2.1 ↔ p ∈ ps
  nd : x.2.1.Nodup
  from_ : ∀ n b, b ∈ (lkp n x.1).getD [] ↔ (n, b) ∈ ps
  fnd : ∀ n, ((lkp n x.1).getD []).Nodup
  has : ∀ p, (lkp p x.2.2).getD 0 = 0 ↔ p ∉ ps
  h0 : ∀ p, 0 ≤ (lkp p x.2.2).getD 0
  hl : ∀ p, (lkp p x.2.2).getD 0 ≤ ps.length
  fl : ∀ n, ((lkp n x.1).getD []).length ≤ ps.length
  al : x.2.1.length ≤ ps.length
theorem IxOk.nil : IxOk ([], [], []) [] := by constructor <;> simp [lkp]
theorem IxOk.step {x : Ix} {ps : List Pr} (h : IxOk x ps) (p : Pr) : IxOk (stepI x p) (ps ++ [p]) := by
  have hh := h.has p
  have hl := h.hl p
  have h0 := h.h0 p
  unfold stepI
  by_cases hc : (lkp p x.2.2).getD 0 + 1 = 1
  · have hn : p ∉ ps := hh.1 (by omega)
    simp only [if_pos hc]
    refine ⟨?_, ?_, ?_, ?_, ?_, ?_, ?_, ?_, ?_⟩
    · intro q; simp [h.all]
    · refine List.nodup_append.2 ⟨h.nd, by simp, fun a ha b hb e => ?_⟩
      have : b = p := by simpa using hb
      subst this; subst e
      exact hn ((h.all _).1 ha)
    · intro n b
      rw [lkp_put]
      by_cases e : p.1 = n
      · rw [if_pos e]
        simp only [Option.getD_some, List.mem_append, h.from_, List.mem_singleton]
        rw [e]
        constructor
        · rintro (h1 | h1)
          · exact .inl h1
          · exact .inr (Prod.ext e.symm h1)
        · rintro (h1 | h1)
          · exact .inl h1
          · exact .inr (congrArg Prod.snd h1)
      · rw [if_neg e, h.from_, List.mem_append, List.mem_singleton]
        exact ⟨.inl, fun h1 => h1.elim id fun h2 => absurd (congrArg Prod.fst h2).symm e⟩
    · intro n
      rw [lkp_put]
      by_cases e : p.1 = n
      · rw [if_pos e]
        simp only [Option.getD_some]
        refine List.nodup_append.2 ⟨h.fnd _, by simp, fun a ha b hb e2 => ?_⟩
        have : b = p.2 := by simpa using hb
        subst this; subst e2
        exact hn ((h.from_ _ _).1 ha)
      · rw [if_neg e]; exact h.fnd n
    · intro q
      rw [lkp_put]
      by_cases e : p = q
      · subst e; simp; omega
      · rw [if_neg e, h.has]; simp [Ne.symm e]
    · intro q
      rw [lkp_put]
      by_cases e : p = q
      · rw [if_pos e]; simp only [Option.getD_some]; omega
      · rw [if_neg e]; exact h.h0 q
    · intro q
      rw [lkp_put, List.length_append, List.length_singleton]
      by_cases e : p = q
      · rw [if_pos e]; simp only [Option.getD_some]; omega
      · rw [if_neg e]; have := h.hl q; omega
    · intro n
      rw [lkp_put, List.length_append, List.length_singleton]
      by_cases e : p.1 = n
      · rw [if_pos e]; have := h.fl p.1; simp only [Option.getD_some, List.length_append, List.length_singleton]; omega
      · rw [if_neg e]; have := h.fl n; omega
    · have := h.al; simp only [List.length_append, List.length_singleton]; omega
  · have hin : p ∈ ps := Classical.byContradiction fun e => hc (by rw [hh.2 e]; rfl)
    simp only [if_neg hc]
    have hm : ∀ q, q ∈ ps ++ [p] ↔ q ∈ ps := fun q => by
      simp only [List.mem_append, List.mem_singleton]
      exact ⟨fun h => h.elim id fun e => e ▸ hin, .inl⟩
    refine ⟨?_, h.nd, ?_, h.fnd, ?_, ?_, ?_, ?_, ?_⟩
    · intro q; rw [hm, h.all]
    · intro n b; rw [hm, h.from_]
    · intro q
      rw [lkp_put, hm]
      by_cases e : p = q
      · subst e; simp [hin]; omega
      · rw [if_neg e, h.has]
    · intro q
      rw [lkp_put]
      by_cases e : p = q
      · rw [if_pos e]; simp only [Option.getD_some]; omega
      · rw [if_neg e]; exact h.h0 q
    · intro q
      rw [lkp_put, List.length_append, List.length_singleton]
      by_cases e : p = q
      · rw [if_pos e]; simp only [Option.getD_some]; omega
      · rw [if_neg e]; have := h.hl q; omega
    · intro n; show ((lkp n x.1).getD []).length ≤ _; rw [List.length_append]; have := h.fl n; omega
    · show x.2.1.length ≤ _; rw [List.length_append]; have := h.al; omega
theorem byLab_ok (l : List Ed) (lab : Lab) : IxOk ((lkp lab (byLab l)).getD ([], [], [])) (prs l lab) ∧ (lkp lab (byLab l) = none → prs l lab = []) := by
  have : ∀ (l : List Ed) (m : List (Lab × Ix)) (done : List Ed), (∀ lab, IxOk ((lkp lab m).getD ([], [], [])) (prs done lab) ∧ (lkp lab m = none → prs done lab = [])) → ∀ lab, IxOk ((lkp lab (l.foldl stepE m)).getD ([], [], [])) (prs (done ++ l) lab) ∧ (lkp lab (l.foldl stepE m) = none → prs (done ++ l) lab = []) := by
    intro l
    induction l with
    | nil => intro m done h; simpa using h
    | cons e l ih =>
      intro m done h lab
      have h2 := ih (stepE m e) (done ++ [e]) ?_ lab
      · rw [List.append_assoc] at h2; exact h2
      · intro lab2
        unfold stepE
        rw [lkp_put]
        by_cases hl : e.2.1 = lab2
        · subst hl
          have hp : prs (done ++ [e]) e.2.1 = prs done e.2.1 ++ [(e.1, e.2.2)] := by unfold prs; simp
          rw [if_pos rfl, hp]
          exact ⟨(h e.2.1).1.step _, fun h => by cases h⟩
        · have hp : prs (done ++ [e]) lab2 = prs done lab2 := by unfold prs; simp [hl]
          rw [if_neg hl, hp]; exact h lab2
  have h9 := this l [] [] (fun lab => ⟨IxOk.nil, fun _ => rfl⟩) lab
  rw [List.nil_append] at h9
  exact h9
theorem prs_len (l : List Ed) (lab : Lab) : (prs l lab).length ≤ l.length := by unfold prs; rw [List.length_map]; exact List.length_filter_le _ _
/-! ### 3. Rows with an atom more -/
def extC (r : Tp) (t : Nat) (p : Pr) : Option Tp := if t = r.length + 1 then some (r ++ [p.1] ++ [p.2]) else if (r ++ [p.1]).getD t 0 = p.2 then some (r ++ [p.1]) else none
def ext (o : Option Ix) (r : Tp) (f t : Nat) : List Tp := match o with
  | none => []
  | some x =>
    if f < r.length ∧ t < r.length then (if (lkp (r.getD f 0, r.getD t 0) x.2.2).getD 0 = 0 then [] else [r])
    else if f < r.length then ((lkp (r.getD f 0) x.1).getD []).map fun b => r ++ [b]
    else x.2.1.filterMap (extC r t)
theorem getD_app {r : Tp} {i : Nat} {b : Int} (h : i < r.length) : (r ++ [b]).getD i 0 = r.getD i 0 := by
  rw [List.getD_eq_getElem?_getD, List.getD_eq_getElem?_getD, List.getElem?_append_left h]
theorem getD_last {r : Tp} {b : Int} : (r ++ [b]).getD r.length 0 = b := by
  rw [List.getD_eq_getElem?_getD, List.getElem?_append_right (Nat.le_refl _)]; simp
theorem take_app {r s : Tp} : (r ++ s).take r.length = r := by simp
theorem ext_some {x : Ix} {r : Tp} {f t : Nat} : ext (some x) r f t = if f < r.length ∧ t < r.length then (if (lkp (r.getD f 0, r.getD t 0) x.2.2).getD 0 = 0 then [] else [r]) else if f < r.length then ((lkp (r.getD f 0) x.1).getD []).map (fun b => r ++ [b]) else x.2.1.filterMap (extC r t) := rfl
theorem snoc1 {s r : Tp} (h : s.take r.length = r) (hl : s.length = r.length + 1) : s = r ++ [s.getD r.length 0] := by
  have h4 : r.length < s.length := by omega
  have h5 := List.take_append_drop r.length s
  rw [h, List.drop_eq_getElem_cons h4, List.drop_of_length_le (by omega)] at h5
  rw [List.getD_eq_getElem?_getD, List.getElem?_eq_getElem h4]; exact h5.symm
theorem snoc2 {s r : Tp} (h : s.take r.length = r) (hl : s.length = r.length + 2) : s = r ++ [s.getD r.length 0] ++ [s.getD (r.length + 1) 0] := by
  have h4 : r.length < s.length := by omega
  have h6 : r.length + 1 < s.length := by omega
  have h5 := List.take_append_drop r.length s
  rw [h, List.drop_eq_getElem_cons h4, List.drop_eq_getElem_cons h6, List.drop_of_length_le (by omega)] at h5
  rw [List.getD_eq_getElem?_getD, List.getElem?_eq_getElem h4, List.getD_eq_getElem?_getD, List.getElem?_eq_getElem h6, List.append_assoc]; exact h5.symm
theorem mem_ext {o : Option Ix} {ps : List Pr} (hx : IxOk (o.getD ([], [], [])) ps) (h0 : o = none → ps = []) {r : Tp} {f t m : Nat} (hl : Lies r.length m f t) (s : Tp) :
    s ∈ ext o r f t ↔ s.length = m ∧ s.take r.length = r ∧ (s.getD f 0, s.getD t 0) ∈ ps := by
  cases o with
  | none => simp [ext, h0 rfl]
  | some x =>
    simp only [Option.getD_some] at hx
    rw [ext_some]
    by_cases c1 : f < r.length
    · by_cases c2 : t < r.length
      · have hm := hl.m1 c1 c2
        rw [if_pos ⟨c1, c2⟩]
        have hh := hx.has (r.getD f 0, r.getD t 0)
        split
        · rename_i h
          have hn := hh.1 h
          simp only [List.not_mem_nil, false_iff]
          rintro ⟨h1, h2, h3⟩
          rw [List.take_of_length_le (by omega)] at h2
          subst h2; exact hn h3
        · rename_i h
          have hin : (r.getD f 0, r.getD t 0) ∈ ps := Classical.byContradiction fun e => h (hh.2 e)
          rw [List.mem_singleton]
          constructor
          · rintro rfl; exact ⟨hm.symm, by simp, hin⟩
          · rintro ⟨h1, h2, h3⟩; rwa [List.take_of_length_le (by omega)] at h2
      · rw [if_neg (fun e => c2 e.2), if_pos c1]
        have ht : t = r.length := by have := hl.t2 c1; omega
        subst ht
        have hm := hl.m2 c1 rfl
        rw [List.mem_map]
        constructor
        · rintro ⟨b, hb, rfl⟩
          refine ⟨by simp [hm], take_app, ?_⟩
          rw [getD_app c1, getD_last]
          exact (hx.from_ _ _).1 hb
        · rintro ⟨h1, h2, h3⟩
          refine ⟨s.getD r.length 0, ?_, ?_⟩
          · have e : s.getD f 0 = r.getD f 0 := by
              have h9 : (s.take r.length)[f]? = s[f]? := List.getElem?_take_of_lt c1
              rw [h2] at h9
              rw [List.getD_eq_getElem?_getD, List.getD_eq_getElem?_getD, h9]
            rw [← e]; exact (hx.from_ _ _).2 h3
          · exact (snoc1 h2 (by omega)).symm
    · rw [if_neg (fun e => c1 e.1), if_neg c1]
      have hf : f = r.length := by have := hl.f1; omega
      subst hf
      rw [List.mem_filterMap]
      by_cases c3 : t = r.length + 1
      · have hm := hl.m4 rfl c3
        constructor
        · rintro ⟨p, hp, he⟩
          unfold extC at he
          rw [if_pos c3] at he
          cases he
          have e1 : (r ++ [p.1] ++ [p.2]).getD r.length 0 = p.1 := by rw [getD_app (by simp), getD_last]
          have e2 : (r ++ [p.1] ++ [p.2]).getD t 0 = p.2 := by
            have := getD_last (r := r ++ [p.1]) (b := p.2)
            rwa [List.length_append, List.length_singleton, ← c3] at this
          refine ⟨by simp [hm], by rw [List.append_assoc]; exact take_app, ?_⟩
          rw [e1, e2]
          exact (hx.all p).1 hp
        · rintro ⟨h1, h2, h3⟩
          refine ⟨(s.getD r.length 0, s.getD t 0), (hx.all _).2 h3, ?_⟩
          unfold extC
          rw [if_pos c3]
          rw [c3]; exact congrArg some (snoc2 h2 (by omega)).symm
      · have ht : t ≤ r.length := by have := hl.t1; omega
        have hm := hl.m3 rfl ht
        have key : ∀ q : Int, (r ++ [q]).getD r.length 0 = q := fun q => getD_last
        constructor
        · rintro ⟨p, hp, he⟩
          unfold extC at he
          rw [if_neg c3] at he
          split at he
          · rename_i hq
            cases he
            refine ⟨by simp [hm], take_app, ?_⟩
            rw [key, hq]; exact (hx.all p).1 hp
          · cases he
        · rintro ⟨h1, h2, h3⟩
          refine ⟨(s.getD r.length 0, s.getD t 0), (hx.all _).2 h3, ?_⟩
          have hs := snoc1 h2 (by omega)
          unfold extC
          rw [if_neg c3]
          simp only
          rw [← hs, if_pos rfl]
theorem nodup_ext {o : Option Ix} {ps : List Pr} (hx : IxOk (o.getD ([], [], [])) ps) {r : Tp} {f t : Nat} : (ext o r f t).Nodup := by
  cases o with
  | none => exact List.nodup_nil
  | some x =>
    simp only [Option.getD_some] at hx
    rw [ext_some]
    split
    · split <;> simp
    · split
      · refine List.Pairwise.map _ (fun a b h e => h ?_) (hx.fnd _)
        simpa using e
      · refine List.Pairwise.filterMap _ (fun a b h u hu v hv e => h ?_) hx.nd
        subst e
        unfold extC at hu hv
        have hinj : ∀ {c d : Int}, r ++ [c] = r ++ [d] → c = d := fun e => by simpa using e
        split at hu
        · rename_i ht
          rw [if_pos ht] at hv
          have e : r ++ [a.1] ++ [a.2] = r ++ [b.1] ++ [b.2] := (Option.some.inj hu).trans (Option.some.inj hv).symm
          simp only [List.append_assoc, List.append_cancel_left_eq] at e
          have e2 : a.1 = b.1 ∧ a.2 = b.2 := by simpa using e
          exact Prod.ext e2.1 e2.2
        · rename_i ht
          rw [if_neg ht] at hv
          split at hu
          · rename_i h1
            split at hv
            · rename_i h2
              have e := hinj ((Option.some.inj hu).trans (Option.some.inj hv).symm)
              rw [e, h2] at h1
              exact Prod.ext e h1.symm
            · cases hv
          · cases hu
/-! ### 4. Rows -/
def ix (V : List Lab) (x : Lab) : Nat := V.idxOf x
def stepR (m : List (Lab × Ix)) (V : List Lab) (rows : List Tp) (a : Atm) : List Tp := rows.flatMap fun r => ext (lkp a.2.1 m) r (ix V a.1) (ix V a.2.2)
def rowsK (m : List (Lab × Ix)) (V : List Lab) (al : List Atm) : List Tp := al.foldl (stepR m V) [[]]
theorem rowsK_snoc (m : List (Lab × Ix)) (V : List Lab) (al : List Atm) (a : Atm) : rowsK m V (al ++ [a]) = stepR m V (rowsK m V al) a := by unfold rowsK; rw [List.foldl_append]; rfl
/-- What a variable is in a row. -/
def env (V : List Lab) (r : Tp) (x : Lab) : Int := r.getD (ix V x) 0
/-- The row has each atom's edge. -/
def Sat (l : List Ed) (V : List Lab) (al : List Atm) (r : Tp) : Prop := ∀ a ∈ al, (env V r a.1, a.2.1, env V r a.2.2) ∈ l
theorem getD_take {r : Tp} {i n : Nat} (h : i < n) : (r.take n).getD i 0 = r.getD i 0 := by
  rw [List.getD_eq_getElem?_getD, List.getD_eq_getElem?_getD, List.getElem?_take_of_lt h]
theorem nodup_flat {α β : Type} {f : α → List β} : ∀ {l : List α}, (∀ r ∈ l, (f r).Nodup) → l.Pairwise (fun a b => ∀ x ∈ f a, x ∉ f b) → (l.flatMap f).Nodup
  | [], _, _ => List.nodup_nil
  | a :: l, h1, h2 => by
    obtain ⟨h3, h4⟩ := List.pairwise_cons.1 h2
    rw [List.flatMap_cons]
    refine List.nodup_append.2 ⟨h1 a List.mem_cons_self, nodup_flat (fun r hr => h1 r (List.mem_cons_of_mem _ hr)) h4, fun x hx y hy e => ?_⟩
    obtain ⟨b, hb, hyb⟩ := List.mem_flatMap.1 hy
    exact h3 b hb x hx (e ▸ hyb)
theorem snoc_ind {α : Type} {P : List α → Prop} (h0 : P []) (h1 : ∀ l a, P l → P (l ++ [a])) (l : List α) : P l := by
  have : ∀ l : List α, P l.reverse := by
    intro l
    induction l with
    | nil => exact h0
    | cons a l ih => rw [List.reverse_cons]; exact h1 _ _ ih
  have h := this l.reverse
  rwa [List.reverse_reverse] at h
theorem rows_spec (l : List Ed) {V : List Lab} : ∀ (al : List Atm), varsL al <+: V →
    (rowsK (byLab l) V al).Nodup ∧ ∀ r, r ∈ rowsK (byLab l) V al ↔ r.length = (varsL al).length ∧ Sat l V al r := by
  refine snoc_ind ?_ ?_
  · intro _; refine ⟨by simp [rowsK], fun r => ?_⟩; simp [rowsK, varsL, Sat]
  · intro al a ih hV
    have hpre : varsL al <+: varsL (al ++ [a]) := varsL_pre _ _
    obtain ⟨ih1, ih2⟩ := ih (hpre.trans hV)
    obtain ⟨hx, h0⟩ := byLab_ok l a.2.1
    have hW : varsL (al ++ [a]) = addA (varsL al) a := varsL_snoc al a
    have hlies := lies (varsL_nodup al) hW hV
    rw [rowsK_snoc]
    unfold stepR
    constructor
    · refine nodup_flat (fun r hr => nodup_ext hx) (ih1.imp_of_mem ?_)
      intro r r' hr hr' hne s hs hs'
      have l1 := ((ih2 r).1 hr).1
      have l2 := ((ih2 r').1 hr').1
      have e1 := ((mem_ext hx h0 (by rw [l1]; exact hlies) s).1 hs).2.1
      have e2 := ((mem_ext hx h0 (by rw [l2]; exact hlies) s).1 hs').2.1
      exact hne (by rw [← e1, ← e2, l1, l2])
    · intro s
      rw [List.mem_flatMap]
      constructor
      · rintro ⟨r, hr, hs⟩
        have hr2 := (ih2 r).1 hr
        obtain ⟨h1, h2, h3⟩ := (mem_ext hx h0 (by rw [hr2.1]; exact hlies) s).1 hs
        refine ⟨h1, fun b hb => ?_⟩
        rcases List.mem_append.1 hb with hb | hb
        · have := hr2.2 b hb
          have hm1 : b.1 ∈ varsL al := varsL_mem.2 ⟨b, hb, .inl rfl⟩
          have hm2 : b.2.2 ∈ varsL al := varsL_mem.2 ⟨b, hb, .inr rfl⟩
          have i1 : ix V b.1 < r.length := by unfold ix; rw [pre_idx (hpre.trans hV) hm1, hr2.1]; exact List.idxOf_lt_length_of_mem hm1
          have i2 : ix V b.2.2 < r.length := by unfold ix; rw [pre_idx (hpre.trans hV) hm2, hr2.1]; exact List.idxOf_lt_length_of_mem hm2
          unfold env at this ⊢
          rw [← h2, getD_take i1, getD_take i2] at this
          exact this
        · have : b = a := by simpa using hb
          subst this
          exact mem_prs.1 h3
      · rintro ⟨h1, h2⟩
        have hle : (varsL al).length ≤ s.length := by rw [h1]; exact hpre.length_le
        have hrl : (s.take (varsL al).length).length = (varsL al).length := by rw [List.length_take]; omega
        refine ⟨s.take (varsL al).length, (ih2 _).2 ⟨hrl, fun b hb => ?_⟩, (mem_ext hx h0 (by rw [hrl]; exact hlies) s).2 ⟨h1, by rw [hrl], mem_prs.2 (h2 a (by simp))⟩⟩
        have := h2 b (by simp [hb])
        have hm1 : b.1 ∈ varsL al := varsL_mem.2 ⟨b, hb, .inl rfl⟩
        have hm2 : b.2.2 ∈ varsL al := varsL_mem.2 ⟨b, hb, .inr rfl⟩
        have i1 : ix V b.1 < (varsL al).length := by unfold ix; rw [pre_idx (hpre.trans hV) hm1]; exact List.idxOf_lt_length_of_mem hm1
        have i2 : ix V b.2.2 < (varsL al).length := by unfold ix; rw [pre_idx (hpre.trans hV) hm2]; exact List.idxOf_lt_length_of_mem hm2
        unfold env at this ⊢
        rw [getD_take i1, getD_take i2]; exact this
/-! ### 5. Definitions of views -/
def isLow (b : UInt8) : Bool := decide (97 ≤ b.toNat) && decide (b.toNat ≤ 122)
def nameB (v : List UInt8) : Bool := decide (0 < v.length) && decide (v.length ≤ 16) && v.all isLow
/-- A pattern that is one. -/
def patB (v : Vw) : Bool := nameB v.1 && decide (v.2.2.2.2 = []) && decide (1 ≤ v.2.2.1.length) && decide (v.2.2.1.length ≤ 6) && decide (1 ≤ v.2.2.2.1.length) && decide (v.2.2.2.1.length ≤ 8)
  && v.2.2.2.1.all (fun a => nameB a.1 && nameB a.2.1 && nameB a.2.2)
def outB (V out : List Lab) : Bool := out.all (fun o => V.contains o) && decide out.Nodup
def okV (v : Vw) : Bool := decide (v.2.1 = 1) && patB v && outB (varsL v.2.2.2.1) v.2.2.1
def tooMany (l : List Ed) (al : List Atm) : Prop := ∃ k, k ≤ al.length ∧ 3000 < (rowsK (byLab l) (varsL al) (al.take k)).length
/-- What Rows tells. -/
def RowsSay (v : Vw) (l : List Ed) (r : List Tp × Int) : Prop :=
  (okV v = false ∧ r = ([], 1)) ∨ (okV v = true ∧ tooMany l v.2.2.2.1 ∧ r = ([], 5)) ∨ (okV v = true ∧ ¬ tooMany l v.2.2.2.1 ∧ r = (setR (rowsK (byLab l) (varsL v.2.2.2.1) v.2.2.2.1), 0))
def proj (V out : List Lab) (r : Tp) : Tp := out.map fun o => env V r o
def allOf (v : Vw) (l : List Ed) : List Tp := (setR (rowsK (byLab l) (varsL v.2.2.2.1) v.2.2.2.1)).map (proj (varsL v.2.2.2.1) v.2.2.1)
/-- How often each. -/
def countsOf (all : List Tp) : List Int := (setR all).map fun t => (all.count t : Int)
def ResSay (v : Vw) (l : List Ed) (r : List Tp × List Int × Int) : Prop :=
  (okV v = false ∧ r = ([], [], 1)) ∨ (okV v = true ∧ tooMany l v.2.2.2.1 ∧ r = ([], [], 5)) ∨ (okV v = true ∧ ¬ tooMany l v.2.2.2.1 ∧ r = (setR (allOf v l), countsOf (allOf v l), 0))
end Go.Jn
