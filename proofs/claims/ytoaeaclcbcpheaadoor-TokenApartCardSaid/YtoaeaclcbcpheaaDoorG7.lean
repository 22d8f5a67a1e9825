/- Typed walks: a region whose order is open: each operation of its first part is shown once, out of what it waits for; the rest comes in the text's order. Over any program. -/
import Derived.Test.YtoaeaclcbcpheaaDoorG6
namespace Go.Gw
open Go
set_option linter.unusedVariables false
set_option linter.unusedSimpArgs false

def needs (o : Oper) : List Nat := (o.after.toList.filter fun e => Region.binds .any e).map (·.on)
def mask (acc : List Nat) (o : Oper) : Nat := (needs o).foldr (fun e s => s ||| 2 ^ e ||| acc.getD e 0) 0
def masks : List Oper → List Nat → List Nat
  | [], acc => acc
  | o :: os, acc => masks os (acc ++ [mask acc o])
theorem masks_prefix : ∀ (os : List Oper) (acc : List Nat) (k : Nat), k < acc.length → (masks os acc)[k]? = acc[k]?
  | [], acc, k, h => rfl
  | o :: os, acc, k, h => by
    unfold masks
    rw [masks_prefix os _ k (by simp; omega), List.getElem?_append_left h]
theorem masks_nil (acc : List Nat) : masks [] acc = acc := rfl
theorem masks_cons (o : Oper) (os : List Oper) (acc : List Nat) : masks (o :: os) acc = masks os (acc ++ [mask acc o]) := rfl
theorem masks_at (os : List Oper) : ∀ (acc : List Nat) (k : Nat) (o : Oper), os[k]? = some o → (masks os acc)[acc.length + k]? = some (mask ((masks os acc).take (acc.length + k)) o) := by
  induction os with
  | nil => intro acc k o h; simp at h
  | cons o' os ih =>
    intro acc k o h
    rw [masks_cons]
    cases k with
    | zero =>
      have : o' = o := by simpa using h
      subst this
      rw [Nat.add_zero, masks_prefix os _ acc.length (by simp)]
      have ht : (masks os (acc ++ [mask acc o'])).take acc.length = acc := by
        apply List.ext_getElem?
        intro j
        rw [List.getElem?_take]
        by_cases hj : j < acc.length
        · rw [if_pos hj, masks_prefix os _ j (by simp; omega), List.getElem?_append_left hj]
        · rw [if_neg hj, List.getElem?_eq_none (by omega)]
      rw [ht]; simp
    | succ k =>
      have := ih (acc ++ [mask acc o']) k o (by simpa using h)
      simp only [List.length_append, List.length_singleton] at this
      rw [show acc.length + (k + 1) = acc.length + 1 + k from by omega]
      exact this
theorem mask_bit {acc : List Nat} {o : Oper} {j : Nat} (h : (mask acc o).testBit j = true) : ∃ e ∈ needs o, j = e ∨ (acc.getD e 0).testBit j = true := by
  unfold mask at h
  generalize needs o = ns at h ⊢
  induction ns with
  | nil => simp at h
  | cons e ns ih =>
    simp only [List.foldr_cons, Nat.testBit_or, Bool.or_eq_true] at h
    rcases h with (h | h) | h
    · obtain ⟨e', he', h'⟩ := ih h
      exact ⟨e', List.mem_cons_of_mem _ he', h'⟩
    · rw [Nat.testBit_two_pow] at h
      exact ⟨e, List.mem_cons_self, .inl (by simpa using (of_decide_eq_true h).symm)⟩
    · exact ⟨e, List.mem_cons_self, .inr h⟩
/-- What has been listed has all listed that it waits for. -/
def ClosedB (l : List Oper) (b : Nat → Bool) : Prop := ∀ k o, l[k]? = some o → b k = true → ∀ e ∈ needs o, b e = true
theorem closed_mask {l : List Oper} {b : Nat → Bool} (hc : ClosedB l b) : ∀ (n k : Nat), k < n → k < l.length → b k = true → ∀ j, ((masks l []).getD k 0).testBit j = true → b j = true := by
  intro n
  induction n with
  | zero => intro k h; omega
  | succ n ih =>
    intro k hk hl hb j hj
    have ho : l[k]? = some l[k] := List.getElem?_eq_getElem hl
    have hm := masks_at l [] k _ ho
    simp only [List.length_nil, Nat.zero_add] at hm
    rw [List.getD_eq_getElem?_getD, hm, Option.getD_some] at hj
    obtain ⟨e, he, h⟩ := mask_bit hj
    have hbe := hc k _ ho hb e he
    rcases h with rfl | h
    · exact hbe
    · have hek : e < k := by
        rcases Nat.lt_or_ge e k with h1 | h1
        · exact h1
        · rw [List.getD_eq_getElem?_getD, List.getElem?_take, if_neg (by omega)] at h; simp at h
      have h2 : ((masks l []).getD e 0).testBit j = true := by
        rw [List.getD_eq_getElem?_getD, List.getElem?_take, if_pos hek] at h
        rw [List.getD_eq_getElem?_getD]; exact h
      exact ih e (by omega) (by omega) hbe j h2
/-- The same, of an operation that is about to be listed. -/
theorem ready_mask {l : List Oper} {b : Nat → Bool} (hc : ClosedB l b) {k : Nat} {o : Oper} (ho : l[k]? = some o) (hr : ∀ e ∈ needs o, b e = true) : ∀ j, ((masks l []).getD k 0).testBit j = true → b j = true := by
  intro j hj
  have hm := masks_at l [] k _ ho
  simp only [List.length_nil, Nat.zero_add] at hm
  rw [List.getD_eq_getElem?_getD, hm, Option.getD_some] at hj
  obtain ⟨e, he, h⟩ := mask_bit hj
  rcases h with rfl | h
  · exact hr _ he
  · have hek : e < k := by
      rcases Nat.lt_or_ge e k with h1 | h1
      · exact h1
      · rw [List.getD_eq_getElem?_getD, List.getElem?_take, if_neg (by omega)] at h; simp at h
    have hkl := (List.getElem?_eq_some_iff.1 ho).1
    have h2 : ((masks l []).getD e 0).testBit j = true := by
      rw [List.getD_eq_getElem?_getD, List.getElem?_take, if_pos hek] at h
      rw [List.getD_eq_getElem?_getD]; exact h
    exact closed_mask hc (e + 1) e (by omega) (by omega) (hr e he) j h2

/-- What an operation asks: slots, each as it was ahead of the region (none), or as operation j leaves it. -/
abbrev Need := List (Nat × Option Nat)
def dstOf (l : List Oper) (k : Nat) : Option Nat := (l[k]?).bind (·.dst)
def needOk (l : List Oper) (M : List Nat) (i : Nat) : Need → Bool
  | [] => true
  | (t, none) :: r => ((List.range l.length).all fun k => !(dstOf l k == some t) || Nat.beq k i || (M.getD k 0).testBit i) && needOk l M i r
  | (t, some j) :: r => (dstOf l j == some t) && (M.getD i 0).testBit j && needOk l M i r
def regOk (N : Nat) (l : List Oper) (m : Nat) (ns : List Need) : Bool :=
  let M := masks l []
  ((List.range l.length).all fun k => match l[k]? with
    | some o => (needs o).all (fun e => decide (e < k)) && (o.dst.all fun d => decide (d < N)) &&
        (if k < m then needOk l M k (ns.getD k []) else (List.range k).all fun j => (M.getD k 0).testBit j)
    | none => true) &&
  decide (((l.take m).filterMap (·.dst)).Nodup) && decide (ns.length = m) && Nat.ble m l.length

def envOf (Γ : Env) (Ts : List Ty) : Need → Env
  | [] => []
  | (t, none) :: r => (t, (find Γ t).getD AnyT) :: envOf Γ Ts r
  | (t, some j) :: r => (t, Ts.getD j AnyT) :: envOf Γ Ts r
def updAll (l : List Oper) (Ts : List Ty) (Γ : Env) : Env := match l, Ts with
  | o :: l, T :: Ts => updAll l Ts (upd o.dst T Γ)
  | _, _ => Γ

/-- One operation of the open part. -/
def ROp (C : Cx) (Γ : Env) (L : List It) (ops : Array Oper) (o : Oper) (T : Ty) : Prop :=
  ∀ a w H, Fits C.N Γ H a → St C.M C.H0 C.w0 H w → Owns C.ok w H L → ∀ (Q : Exit → Act → World → Prop) (K : Act → World → Prop),
    (∀ (v : Value) (w' : World) (H' : FH), St noM H w H' w' → T.p H' v → K (a.put o.dst v) w') → if Region.wanted o (yielded ops a.tmps) = true then o.wp C.P a w K Q else K (a.put o.dst undef) w
section
variable {C : Cx} {Γ : Env} {L : List It} {ops : Array Oper}
theorem rop_pure {o : Oper} {T : Ty} (hg : o.guard = none) (h : Pure C Γ L o T) : ROp C Γ L ops o T := fun a w H f s ow Q K hK => by
  obtain ⟨v, hr, hv⟩ := h a w H f s ow
  rw [if_pos (by simp [Region.wanted, hg])]
  simp only [Oper.wp, hr, Oper.upon_value]
  exact hK v w H (St.refl s.on) hv
theorem noM_nil {g : Nat} : g ∈ blks [] ↔ noM g := by simp [blks, noM]
theorem rop_acts {o : Oper} {ρ : Type} {T : ρ → Ty} {I : ρ → List It} {φ : ρ → Prop} {T' : Ty} (hg : o.guard = none) (h : Acts C Γ L o [] ρ T I φ) (hT : ∀ r, φ r → ∀ H v, (T r).p H v → T'.p H v) : ROp C Γ L ops o T' := fun a w H f s ow Q K hK => by
  rw [if_pos (by simp [Region.wanted, hg])]
  exact h a w H f s ow Q K fun r v w' H' hφ s' hv _ => hK v w' H' (s'.weaken fun k hk => noM_nil.1 hk) (hT r hφ H' v hv)
theorem rop_gu {o : Oper} {T : Ty} {j d : Nat} {want b : Bool} {p : Prop} (hg : o.guard = some (j, want)) (hj : (ops[j]?).bind (·.dst) = some d) (hdN : decide (d < C.N) = true) (hb : OT C.N Γ (.tmp d) (GuT p (BoolT b)))
    (h : p ∧ b = want → ROp C Γ L ops { o with guard := none } T) : ROp C Γ L ops o (GuT (p ∧ b = want) T) := fun a w H f s ow Q K hK => by
  have hw := wanted_gu f hg hj hdN hb
  by_cases hc : p ∧ b = want
  · rw [if_pos (hw.2 hc)]
    have := h hc a w H f s ow Q K fun v w' H' s' hv => hK v w' H' s' ⟨fun _ => hv, fun hn => absurd hc hn⟩
    rw [if_pos (by simp [Region.wanted])] at this
    exact this
  · rw [if_neg (fun e => hc (hw.1 e))]
    exact hK undef w H (St.refl s.on) ⟨fun e => absurd e hc, fun _ => rfl⟩
end

def AllOps (C : Cx) (Γ : Env) (L : List It) (ops : Array Oper) (Ts : List Ty) : List Oper → List Need → List Ty → Prop
  | o :: l, n :: ns, T :: Us => ROp C (envOf Γ Ts n) L ops o T ∧ AllOps C Γ L ops Ts l ns Us
  | _, [], [] => True
  | _, _, _ => False
theorem allOps_at {C : Cx} {Γ : Env} {L : List It} {ops : Array Oper} {Ts : List Ty} : ∀ {l : List Oper} {ns : List Need} {Us : List Ty}, AllOps C Γ L ops Ts l ns Us → ∀ i, i < ns.length → ∃ o, l[i]? = some o ∧ ROp C (envOf Γ Ts (ns.getD i [])) L ops o (Us.getD i AnyT)
  | o :: l, n :: ns, T :: Us, h, 0, _ => ⟨o, rfl, h.1⟩
  | o :: l, n :: ns, T :: Us, h, i + 1, hi => by
    obtain ⟨o', h1, h2⟩ := allOps_at h.2 i (by simpa using hi)
    exact ⟨o', by simpa using h1, by simpa using h2⟩
  | [], [], [], _, i, hi => by simp at hi
  | _ :: _, [], [], _, i, hi => by simp at hi

section
variable {C : Cx} {Γ : Env} {L : List It} {Q : Exit → Act → World → Prop} {l : List Oper} {ns : List Need} {Ts : List Ty} {m : Nat}
/-- What stands while the open part is under way: b tells what has been listed. -/
structure Inv (C : Cx) (Γ : Env) (L : List It) (l : List Oper) (Ts : List Ty) (m : Nat) (b : Nat → Bool) (a : Act) (w : World) (H : FH) : Prop where
  defers : a.defers = []
  size : a.tmps.size = C.N
  st : St C.M C.H0 C.w0 H w
  ow : Owns C.ok w H L
  old : ∀ t T, find Γ t = some T → (∀ k, k < l.length → dstOf l k = some t → b k = false) → T.p H (a.tmps.getD t undef)
  got : ∀ k t, k < m → b k = true → dstOf l k = some t → (Ts.getD k AnyT).p H (a.tmps.getD t undef)
theorem needOk_fits {i : Nat} {b : Nat → Bool} {a : Act} {w : World} {H : FH} (hI : Inv C Γ L l Ts m b a w H) (him : i < m) (hlen : m ≤ l.length) (hi : b i = false) (hm : ∀ j, ((masks l []).getD i 0).testBit j = true → b j = true) (hcl : ∀ k, k < l.length → b k = true → ∀ j, ((masks l []).getD k 0).testBit j = true → b j = true) (hlt : ∀ j, ((masks l []).getD i 0).testBit j = true → j < i) :
    ∀ {n : Need}, needOk l (masks l []) i n = true → Fits C.N (envOf Γ Ts n) H a
  | [], _ => ⟨hI.defers, hI.size, fun t T h => by cases h⟩
  | (t, none) :: r, h => by
    simp only [needOk, Bool.and_eq_true] at h
    refine fits_cons ?_ (needOk_fits hI him hlen hi hm hcl hlt h.2)
    cases hf : find Γ t with
    | none => exact trivial
    | some T =>
      refine hI.old t T hf fun k hk hd => ?_
      have h1 := List.all_eq_true.1 h.1 k (List.mem_range.2 hk)
      simp only [hd, beq_self_eq_true, Bool.not_true, Bool.false_or, Bool.or_eq_true] at h1
      rcases h1 with h1 | h1
      · rw [Nat.eq_of_beq_eq_true h1]; exact hi
      · cases hb : b k with
        | false => rfl
        | true => have := hcl k hk hb i h1; rw [hi] at this; cases this
  | (t, some j) :: r, h => by
    simp only [needOk, Bool.and_eq_true, beq_iff_eq] at h
    refine fits_cons ?_ (needOk_fits hI him hlen hi hm hcl hlt h.2)
    exact hI.got j t (by have := hlt j h.1.2; omega) (hm j h.1.2) h.1.1

theorem updAll_find : ∀ (l : List Oper) (Ts : List Ty) (Γ : Env) (t : Nat) (T : Ty), l.length = Ts.length → find (updAll l Ts Γ) t = some T → (∃ k, k < l.length ∧ dstOf l k = some t ∧ T = Ts.getD k AnyT) ∨ (find Γ t = some T ∧ ∀ k, k < l.length → dstOf l k ≠ some t)
  | [], [], Γ, t, T, _, h => .inr ⟨h, fun k hk => by simp at hk⟩
  | o :: l, U :: Ts, Γ, t, T, hl, h => by
    rcases updAll_find l Ts (upd o.dst U Γ) t T (by simpa using hl) h with ⟨k, hk, hd, hT⟩ | ⟨h1, h2⟩
    · exact .inl ⟨k + 1, by simp; omega, by simpa [dstOf] using hd, by simpa using hT⟩
    · cases hd : o.dst with
      | none =>
        rw [hd] at h1
        refine .inr ⟨h1, fun k hk => ?_⟩
        cases k with
        | zero => simp [dstOf, hd]
        | succ k => simpa [dstOf] using h2 k (by simpa using hk)
      | some d =>
        rw [hd] at h1
        simp only [upd, find] at h1
        cases hb : Nat.beq d t with
        | true =>
          rw [hb] at h1
          cases h1
          exact .inl ⟨0, by simp, by simp [dstOf, hd, Nat.eq_of_beq_eq_true hb], by simp⟩
        | false =>
          rw [hb] at h1
          refine .inr ⟨h1, fun k hk => ?_⟩
          cases k with
          | zero =>
            simp only [dstOf, List.getElem?_cons_zero, Option.bind_some, hd]
            intro e
            rw [Option.some.inj e, Nat.beq_refl] at hb; cases hb
          | succ k => simpa [dstOf] using h2 k (by simpa using hk)

theorem wpList_eq {P : Program} {ops : Array Oper} {o : Oper} {rest : List Oper} {i : Nat} (ho : ops[i]? = some o) : wpList P ops Q (o :: rest) = wpOp P ops Q i (wpList P ops Q rest) := by
  funext a w
  simp [wpList, wpOp, ho]
/-- The rest, in the text's order. -/
theorem any_rest {b : Array Bool} (hpos : ∀ k o, l[k]? = some o → ∀ e ∈ needs o, e < k) (hch : ∀ k, m ≤ k → k < l.length → ∀ j, j < k → ((masks l []).getD k 0).testBit j = true) :
    ∀ (fuel k : Nat) (listed : Array Bool) (a : Act) (w : World), m ≤ k → k ≤ l.length → listed.size = l.length → l.length - k ≤ fuel → (∀ i, i < k → listed.getD i true = true) → (∀ i, k ≤ i → i < l.length → listed.getD i true = false) →
      wpList C.P l.toArray Q (l.drop k) a w → wpAny C.P .any l.toArray Q fuel listed a w := by
  intro fuel
  induction fuel with
  | zero =>
    intro k listed a w hm hk hs hf h1 h2 h
    have : k = l.length := by omega
    subst this
    rw [List.drop_length] at h
    refine ⟨?_, h⟩
    unfold Region.ready
    rw [List.filter_eq_nil_iff]
    intro i hi
    have hi' : i < l.length := by simpa using List.mem_range.1 hi
    rw [h1 i hi']; simp
  | succ fuel ih =>
    intro k listed a w hm hk hs hf h1 h2 h
    refine ⟨fun hr => ?_, fun i hi => ?_⟩
    · rcases Nat.lt_or_ge k l.length with hlt | hge
      · exfalso
        have : k ∈ Region.ready .any l.toArray listed := by
          unfold Region.ready
          rw [List.mem_filter]
          refine ⟨by simpa using hlt, ?_⟩
          rw [h2 k (Nat.le_refl _) hlt]
          have ho : l[k]? = some l[k] := List.getElem?_eq_getElem hlt
          simp only [List.getElem?_toArray, ho, Option.map_some, Option.getD_some, Bool.not_false, Bool.true_and]
          rw [← Array.all_toList, List.all_eq_true]
          intro e he
          by_cases hb : Region.binds .any e = true
          · have hmem : e.on ∈ needs l[k] := List.mem_map.2 ⟨e, List.mem_filter.2 ⟨he, hb⟩, rfl⟩
            have hek := hpos k _ ho _ hmem
            have h3 := h1 e.on hek
            have h4 : e.on < listed.size := by omega
            simp [Array.getD_eq_getD_getElem?, Array.getElem?_eq_getElem h4] at h3 ⊢
            simp [h3]
          · simp [hb]
        rw [hr] at this; cases this
      · have : k = l.length := by omega
        subst this
        rw [List.drop_length] at h
        exact h
    · unfold Region.ready at hi
      rw [List.mem_filter] at hi
      obtain ⟨hi1, hi2⟩ := hi
      have hil : i < l.length := by simpa using hi1
      simp only [Bool.and_eq_true, Bool.not_eq_true'] at hi2
      have hki : k ≤ i := by
        rcases Nat.lt_or_ge i k with h3 | h3
        · rw [h1 i h3] at hi2; cases hi2.1
        · exact h3
      have ho : l[i]? = some l[i] := List.getElem?_eq_getElem hil
      have hik : i = k := by
        rcases Nat.lt_or_ge k i with h3 | h3
        · exfalso
          have hr : ∀ e ∈ needs l[i], (fun j => listed.getD j false) e = true := by
            intro e he
            obtain ⟨ed, hed, rfl⟩ := List.mem_map.1 he
            rw [List.mem_filter] at hed
            have h4 := hi2.2
            simp only [List.getElem?_toArray, ho, Option.map_some, Option.getD_some, ← Array.all_toList, List.all_eq_true] at h4
            have h5 := h4 ed hed.1
            simpa [hed.2] using h5
          have hc : ClosedB l (fun j => listed.getD j false) := by
            intro k' o' ho' hb' e he
            have hek := hpos k' o' ho' e he
            have hk'l := (List.getElem?_eq_some_iff.1 ho').1
            have hk' : k' < k := by
              rcases Nat.lt_or_ge k' k with h6 | h6
              · exact h6
              · have h7 := h2 k' h6 hk'l
                have h8 : k' < listed.size := by omega
                simp [Array.getD_eq_getD_getElem?, Array.getElem?_eq_getElem h8] at h7 hb'
                rw [h7] at hb'; cases hb'
            have h7 := h1 e (by omega)
            have h8 : e < listed.size := by omega
            simp [Array.getD_eq_getD_getElem?, Array.getElem?_eq_getElem h8] at h7 ⊢
            exact h7
          have h9 := ready_mask hc ho hr k (hch i (by omega) hil k h3)
          have h10 := h2 k (Nat.le_refl _) (by omega)
          have h11 : k < listed.size := by omega
          simp [Array.getD_eq_getD_getElem?, Array.getElem?_eq_getElem h11] at h9 h10
          rw [h10] at h9; cases h9
        · omega
      subst hik
      have hd : l.drop i = l[i] :: l.drop (i + 1) := List.drop_eq_getElem_cons hil
      rw [hd, wpList_eq (i := i) (by simp)] at h
      refine wpOp_mono (fun a w h => ?_) h
      refine ih (i + 1) _ a w (by omega) (by omega) (by simpa using hs) (by omega) (fun j hj => ?_) (fun j hj hjl => ?_) h
      · simp only [Array.getD_eq_getD_getElem?, Array.getElem?_setIfInBounds]
        by_cases hji : i = j
        · subst hji; simp [show i < listed.size from by omega]
        · have := h1 j (by omega)
          simp only [Array.getD_eq_getD_getElem?] at this
          simp [hji, this]
      · have := h2 j (by omega) hjl
        simp only [Array.getD_eq_getD_getElem?] at this
        simp only [Array.getD_eq_getD_getElem?, Array.getElem?_setIfInBounds]
        simp [show ¬ i = j from by omega, this]

theorem tr_any {id : Nat} (hm : C.P.follows .mixedOrders = true) (hok : regOk C.N l m ns = true) (hT : Ts.length = m) (hops : AllOps C Γ L l.toArray Ts l ns Ts) (h : Tr C (updAll (l.take m) Ts Γ) L (wpList C.P l.toArray Q (l.drop m))) : Tr C Γ L ((Code.region id l.toArray true).wp C.P Q) := by
  simp only [regOk, Bool.and_eq_true, decide_eq_true_eq] at hok
  obtain ⟨⟨⟨hok1, hnd⟩, hnl⟩, hml⟩ := hok
  have hml : m ≤ l.length := Nat.le_of_ble_eq_true hml
  have hrow : ∀ k o, l[k]? = some o → (∀ e ∈ needs o, e < k) ∧ (o.dst.all fun d => decide (d < C.N)) = true ∧ (k < m → needOk l (masks l []) k (ns.getD k []) = true) ∧ (m ≤ k → ∀ j, j < k → ((masks l []).getD k 0).testBit j = true) := by
    intro k o ho
    have hk := (List.getElem?_eq_some_iff.1 ho).1
    have h1 := List.all_eq_true.1 hok1 k (List.mem_range.2 hk)
    rw [ho] at h1
    simp only [Bool.and_eq_true, List.all_eq_true, decide_eq_true_eq] at h1
    refine ⟨h1.1.1, h1.1.2, fun hkm => ?_, fun hkm j hj => ?_⟩
    · have h2 := h1.2; rw [if_pos hkm] at h2; exact h2
    · have h2 := h1.2; rw [if_neg (by omega)] at h2; exact List.all_eq_true.1 h2 j (List.mem_range.2 hj)
  have hpos : ∀ k o, l[k]? = some o → ∀ e ∈ needs o, e < k := fun k o ho => (hrow k o ho).1
  have hlt : ∀ i, i < l.length → ∀ j, ((masks l []).getD i 0).testBit j = true → j < i := by
    intro i
    induction i using Nat.strongRecOn with
    | _ i ih =>
      intro hi j hj
      have ho : l[i]? = some l[i] := List.getElem?_eq_getElem hi
      have hm' := masks_at l [] i _ ho
      simp only [List.length_nil, Nat.zero_add] at hm'
      rw [List.getD_eq_getElem?_getD, hm', Option.getD_some] at hj
      obtain ⟨e, he, h⟩ := mask_bit hj
      have hei := hpos i _ ho e he
      rcases h with rfl | h
      · exact hei
      · rw [List.getD_eq_getElem?_getD, List.getElem?_take, if_pos hei, ← List.getD_eq_getElem?_getD] at h
        have := ih e hei (by omega) j h
        omega
  intro a w H f s ow
  refine wp_region_any hm ?_
  -- the open part
  have main : ∀ (fuel : Nat) (listed : Array Bool) (a : Act) (w : World) (H : FH), listed.size = l.length → ((List.range l.length).filter fun i => !listed.getD i true).length ≤ fuel →
      (∀ i, m ≤ i → i < l.length → listed.getD i true = false) → ClosedB l (fun j => listed.getD j false) → Inv C Γ L l Ts m (fun j => listed.getD j false) a w H → wpAny C.P .any l.toArray Q fuel listed a w := by
    intro fuel
    induction fuel with
    | zero =>
      intro listed a w H hs hf hsuf hc hI
      have hall : ∀ i, i < l.length → listed.getD i true = true := by
        intro i hi
        cases hb : listed.getD i true with
        | true => rfl
        | false =>
          have : i ∈ (List.range l.length).filter fun i => !listed.getD i true := List.mem_filter.2 ⟨List.mem_range.2 hi, by rw [hb]; rfl⟩
          have h0 : (List.range l.length).filter (fun i => !listed.getD i true) = [] := List.eq_nil_of_length_eq_zero (by omega)
          rw [h0] at this; cases this
      have hmn : m = l.length := by
        rcases Nat.lt_or_ge m l.length with h1 | h1
        · have h2 := hsuf m (Nat.le_refl _) h1; rw [hall m h1] at h2; cases h2
        · omega
      refine any_rest (m := m) (b := listed) hpos (fun k h1 h2 => (hrow k _ (List.getElem?_eq_getElem h2)).2.2.2 h1) 0 l.length listed a w (by omega) (Nat.le_refl _) hs (by omega) hall (fun i h1 h2 => by omega) ?_
      refine (by rw [hmn] at h; exact h : Tr C (updAll (l.take l.length) Ts Γ) L (wpList C.P l.toArray Q (l.drop l.length))) a w H ⟨hI.defers, hI.size, fun t T e => ?_⟩ hI.st hI.ow
      rw [List.take_length] at e
      rcases updAll_find l Ts Γ t T (by rw [hT, hmn]) e with ⟨k, hk, hd, rfl⟩ | ⟨h1, h2⟩
      · exact hI.got k t (by omega) (by have := hall k hk; have h8 : k < listed.size := by omega
                                        simp [Array.getD_eq_getD_getElem?, Array.getElem?_eq_getElem h8] at this ⊢; exact this) hd
      · exact hI.old t T h1 fun k hk hd => absurd hd (h2 k hk)
    | succ fuel ih =>
      intro listed a w H hs hf hsuf hc hI
      by_cases hpre : ∀ i, i < m → listed.getD i true = true
      · -- the open part is done
        refine any_rest (m := m) (b := listed) hpos (fun k h1 h2 => (hrow k _ (List.getElem?_eq_getElem h2)).2.2.2 h1) (fuel + 1) m listed a w (Nat.le_refl _) hml hs ?_ hpre hsuf ?_
        · have : (List.range' m (l.length - m)).length ≤ ((List.range l.length).filter fun i => !listed.getD i true).length := by
            refine List.Sublist.length_le (l₁ := List.range' m (l.length - m)) ?_
            have e1 : (List.range l.length).filter (fun i => !listed.getD i true) = List.range' m (l.length - m) := by
              have e2 : List.range l.length = List.range' 0 m ++ List.range' m (l.length - m) := by
                rw [List.range_eq_range', show l.length = m + (l.length - m) from by omega, ← List.range'_append]
                simp
              rw [e2, List.filter_append]
              have e3 : (List.range' 0 m).filter (fun i => !listed.getD i true) = [] := by
                rw [List.filter_eq_nil_iff]
                intro i hi
                have := (List.mem_range'_1.1 hi).2
                rw [hpre i (by omega)]; simp
              have e4 : (List.range' m (l.length - m)).filter (fun i => !listed.getD i true) = List.range' m (l.length - m) := by
                rw [List.filter_eq_self]
                intro i hi
                have := List.mem_range'_1.1 hi
                rw [hsuf i (by omega) (by omega)]; rfl
              rw [e3, e4, List.nil_append]
            rw [e1]
            exact List.Sublist.refl _
          rw [List.length_range'] at this
          omega
        · refine h a w H ⟨hI.defers, hI.size, fun t T e => ?_⟩ hI.st hI.ow
          rcases updAll_find (l.take m) Ts Γ t T (by rw [hT, List.length_take]; omega) e with ⟨k, hk, hd, rfl⟩ | ⟨h1, h2⟩
          · rw [List.length_take] at hk
            refine hI.got k t (by omega) ?_ (by unfold dstOf at hd ⊢; rw [List.getElem?_take, if_pos (by omega)] at hd; exact hd)
            have := hpre k (by omega)
            have h8 : k < listed.size := by omega
            simp [Array.getD_eq_getD_getElem?, Array.getElem?_eq_getElem h8] at this ⊢; exact this
          · refine hI.old t T h1 fun k hk hd => ?_
            rcases Nat.lt_or_ge k m with h3 | h3
            · exact absurd (by unfold dstOf at hd ⊢; rw [List.getElem?_take, if_pos h3]; exact hd) (h2 k (by rw [List.length_take]; omega))
            · have := hsuf k h3 hk
              have h8 : k < listed.size := by omega
              simp [Array.getD_eq_getD_getElem?, Array.getElem?_eq_getElem h8] at this ⊢; exact this
      · refine ⟨fun hr => ?_, fun i hi => ?_⟩
        · -- something is always ready
          exfalso
          have hex : ∃ i, i < l.length ∧ listed.getD i true = false := by
            apply Classical.byContradiction
            intro hno
            refine hpre fun i hi => ?_
            cases hb : listed.getD i true with
            | true => rfl
            | false => exact absurd ⟨i, by omega, hb⟩ hno
          have hmin : ∀ n i, i < n → i < l.length → listed.getD i true = false → ∃ j, j < l.length ∧ listed.getD j true = false ∧ ∀ k, k < j → listed.getD k true = true := by
            intro n
            induction n with
            | zero => intro i h; omega
            | succ n ihn =>
              intro i hi hl hb
              by_cases hk : ∀ k, k < i → listed.getD k true = true
              · exact ⟨i, hl, hb, hk⟩
              · have : ∃ k, k < i ∧ listed.getD k true = false := by
                  apply Classical.byContradiction
                  intro hno
                  refine hk fun k hki => ?_
                  cases hbk : listed.getD k true with
                  | true => rfl
                  | false => exact absurd ⟨k, hki, hbk⟩ hno
                obtain ⟨k, hk1, hk2⟩ := this
                exact ihn k (by omega) (by omega) hk2
          obtain ⟨i, hi, hb⟩ := hex
          obtain ⟨j, hj1, hj2, hj3⟩ := hmin (i + 1) i (by omega) hi hb
          have : j ∈ Region.ready .any l.toArray listed := by
            unfold Region.ready
            rw [List.mem_filter]
            refine ⟨by simpa using hj1, ?_⟩
            rw [hj2]
            have ho : l[j]? = some l[j] := List.getElem?_eq_getElem hj1
            simp only [List.getElem?_toArray, ho, Option.map_some, Option.getD_some, Bool.not_false, Bool.true_and]
            rw [← Array.all_toList, List.all_eq_true]
            intro e he
            by_cases hbe : Region.binds .any e = true
            · have hmem : e.on ∈ needs l[j] := List.mem_map.2 ⟨e, List.mem_filter.2 ⟨he, hbe⟩, rfl⟩
              have h3 := hj3 e.on (hpos j _ ho _ hmem)
              have h4 : e.on < listed.size := by have := hpos j _ ho _ hmem; omega
              simp [Array.getD_eq_getD_getElem?, Array.getElem?_eq_getElem h4] at h3 ⊢
              simp [h3]
            · simp [hbe]
          rw [hr] at this; cases this
        · unfold Region.ready at hi
          rw [List.mem_filter] at hi
          obtain ⟨hi1, hi2⟩ := hi
          have hil : i < l.length := by simpa using hi1
          simp only [Bool.and_eq_true, Bool.not_eq_true'] at hi2
          have ho : l[i]? = some l[i] := List.getElem?_eq_getElem hil
          have hr : ∀ e ∈ needs l[i], (fun j => listed.getD j false) e = true := by
            intro e he
            obtain ⟨ed, hed, rfl⟩ := List.mem_map.1 he
            rw [List.mem_filter] at hed
            have h4 := hi2.2
            simp only [List.getElem?_toArray, ho, Option.map_some, Option.getD_some, ← Array.all_toList, List.all_eq_true] at h4
            have h5 := h4 ed hed.1
            simpa [hed.2] using h5
          have hbi : (fun j => listed.getD j false) i = false := by
            have h8 : i < listed.size := by omega
            have := hi2.1
            simp [Array.getD_eq_getD_getElem?, Array.getElem?_eq_getElem h8] at this ⊢; exact this
          have hmk := ready_mask hc ho hr
          have him : i < m := by
            rcases Nat.lt_or_ge i m with h1 | h1
            · exact h1
            · exfalso
              refine hpre fun j hj => ?_
              have := hmk j ((hrow i _ ho).2.2.2 h1 j (by omega))
              have h8 : j < listed.size := by omega
              simp [Array.getD_eq_getD_getElem?, Array.getElem?_eq_getElem h8] at this ⊢; exact this
          obtain ⟨o, ho2, hop⟩ := allOps_at hops i (by omega)
          have hoo : o = l[i] := by rw [ho] at ho2; exact (Option.some.inj ho2).symm
          subst hoo
          have hcl : ∀ k, k < l.length → listed.getD k false = true → ∀ j, ((masks l []).getD k 0).testBit j = true → listed.getD j false = true := fun k hk hb j hj => closed_mask hc (k + 1) k (by omega) hk hb j hj
          have hfit := needOk_fits hI him hml hbi hmk hcl (hlt i hil) ((hrow i _ ho).2.2.1 him)
          have hop2 := hop a w H hfit hI.st hI.ow Q (wpAny C.P .any l.toArray Q fuel (listed.setIfInBounds i true)) ?_
          · unfold wpOp
            have : l.toArray[i]? = some l[i] := by simp
            rw [this]
            simp only
            split
            · rename_i hw; rw [if_pos hw] at hop2; exact .inl hop2
            · rename_i hw; rw [if_neg hw] at hop2; exact hop2
          · intro v w' H' s' hv
            refine ih _ _ w' H' (by simpa using hs) ?_ ?_ ?_ ?_
            · have : ((List.range l.length).filter fun j => !(listed.setIfInBounds i true).getD j true).length < ((List.range l.length).filter fun j => !listed.getD j true).length := by
                have hsub : (List.range l.length).filter (fun j => !(listed.setIfInBounds i true).getD j true) = ((List.range l.length).filter fun j => !listed.getD j true).filter (fun j => !(Nat.beq i j)) := by
                  rw [List.filter_filter]
                  apply List.filter_congr
                  intro j hj
                  simp only [Array.getD_eq_getD_getElem?, Array.getElem?_setIfInBounds]
                  by_cases hij : i = j
                  · subst hij; simp [show i < listed.size from by omega]
                  · have : Nat.beq i j = false := by
                      cases hb : Nat.beq i j with
                      | false => rfl
                      | true => exact absurd (Nat.eq_of_beq_eq_true hb) hij
                    simp [hij, this]
                rw [hsub]
                have hmem : i ∈ (List.range l.length).filter fun j => !listed.getD j true := List.mem_filter.2 ⟨List.mem_range.2 hil, by rw [hi2.1]; rfl⟩
                exact List.length_filter_lt_length_iff_exists.2 ⟨i, hmem, by simp⟩
              omega
            · intro j hj hjl
              have := hsuf j hj hjl
              simp only [Array.getD_eq_getD_getElem?] at this
              simp only [Array.getD_eq_getD_getElem?, Array.getElem?_setIfInBounds]
              simp [show ¬ i = j from by omega, this]
            · intro k o' ho' hb' e he
              simp only [Array.getD_eq_getD_getElem?, Array.getElem?_setIfInBounds] at hb' ⊢
              by_cases hie : i = e
              · subst hie; simp [show i < listed.size from by omega]
              · simp only [if_neg hie]
                have h8 : ∀ e, (listed[e]?).getD false = listed.getD e false := fun e => by simp [Array.getD_eq_getD_getElem?]
                rw [h8]
                by_cases hik : i = k
                · subst hik
                  have : l[i] = o' := by rw [ho] at ho'; exact Option.some.inj ho'
                  subst this
                  exact hr e he
                · simp only [if_neg hik] at hb'
                  rw [h8] at hb'
                  exact hc k o' ho' hb' e he
            · have hdd : ∀ t, (a.put l[i].dst v).tmps.getD t undef = if l[i].dst = some t then v else a.tmps.getD t undef := by
                intro t
                cases hd : l[i].dst with
                | none => simp [Act.put]
                | some d =>
                  rw [getD_put]
                  have hdN : d < C.N := by
                    have := (hrow i _ ho).2.1
                    rw [hd] at this; simpa using this
                  by_cases hdt : d = t
                  · subst hdt; simp [hI.size, hdN]
                  · simp [hdt]
              refine ⟨?_, ?_, hI.st.trans0 s', hI.ow.st0 s', ?_, ?_⟩
              · cases hd : l[i].dst <;> simp [Act.put, hI.defers]
              · cases hd : l[i].dst <;> simp [Act.put, hI.size]
              · intro t T hf hall
                have hbt : ∀ k, k < l.length → dstOf l k = some t → listed.getD k false = false ∧ k ≠ i := by
                  intro k hk hd
                  have := hall k hk hd
                  simp only [Array.getD_eq_getD_getElem?, Array.getElem?_setIfInBounds] at this ⊢
                  by_cases hik : i = k
                  · subst hik; simp [show i < listed.size from by omega] at this
                  · simp [hik] at this; exact ⟨this, fun e => hik e.symm⟩
                have hne : ¬ l[i].dst = some t := fun e => (hbt i hil (by simp [dstOf, ho, e])).2 rfl
                rw [hdd, if_neg hne]
                exact T.mono s'.sub (hI.old t T hf fun k hk hd => (hbt k hk hd).1)
              · intro k t hkm hb hd
                rw [hdd]
                simp only [Array.getD_eq_getD_getElem?, Array.getElem?_setIfInBounds] at hb
                by_cases hik : i = k
                · subst hik
                  have : l[i].dst = some t := by simpa [dstOf, ho] using hd
                  rw [if_pos this]
                  exact hv
                · simp only [if_neg hik] at hb
                  have hb' : listed.getD k false = true := by simpa [Array.getD_eq_getD_getElem?] using hb
                  have hne : ¬ l[i].dst = some t := by
                    intro e
                    -- two operations of the open part that write one slot
                    have h1 : (l.take m)[i]? = some l[i] := by rw [List.getElem?_take, if_pos him]; exact ho
                    have hkl : k < l.length := by omega
                    have h2 : (l.take m)[k]? = some l[k] := by rw [List.getElem?_take, if_pos hkm]; exact List.getElem?_eq_getElem hkl
                    have h3 : l[k].dst = some t := by simpa [dstOf, List.getElem?_eq_getElem hkl] using hd
                    exact hik (nodup_filterMap hnd h1 h2 e h3)
                  rw [if_neg hne]
                  exact (Ts.getD k AnyT).mono s'.sub (hI.got k t hkm hb' hd)
  refine main l.length (Array.replicate l.length false) a { w with drawn := w.drawn + 1 } H (by simp) (by
    refine Nat.le_trans (List.length_filter_le _ _) (by simp)) (fun i _ hi => by simp [Array.getD_eq_getD_getElem?, hi]) ?_ ?_ |> fun h => by simpa using h
  · intro k o ho hb e he
    simp [Array.getD_eq_getD_getElem?, Array.getElem?_replicate] at hb
    split at hb <;> simp at hb
  · refine ⟨f.defers, f.size, ⟨s.sub, fun k o e => s.on k o e, s.os, s.tape, s.output, s.size, s.keep, s.new⟩, ⟨fun i hi => i.st (w := w) (w' := { w with drawn := w.drawn + 1 }) (fun _ _ => rfl) (Sub.refl _) (ow.all i hi), ow.nodup, ow.own⟩, fun t T hf _ => f.get t T hf, fun k t _ hb => ?_⟩
    simp [Array.getD_eq_getD_getElem?, Array.getElem?_replicate] at hb
    split at hb <;> simp at hb
where
  nodup_filterMap {l : List Oper} (h : (l.filterMap (·.dst)).Nodup) {i k : Nat} {o o' : Oper} {t : Nat} (hi : l[i]? = some o) (hk : l[k]? = some o') (ho : o.dst = some t) (ho' : o'.dst = some t) : i = k := by
    induction l generalizing i k with
    | nil => simp at hi
    | cons q l ih =>
      cases i with
      | zero =>
        cases k with
        | zero => rfl
        | succ k =>
          exfalso
          have : q = o := by simpa using hi
          subst this
          rw [List.filterMap_cons_some ho] at h
          exact (List.nodup_cons.1 h).1 (List.mem_filterMap.2 ⟨o', List.mem_of_getElem? (by simpa using hk), ho'⟩)
      | succ i =>
        cases k with
        | zero =>
          exfalso
          have : q = o' := by simpa using hk
          subst this
          rw [List.filterMap_cons_some ho'] at h
          exact (List.nodup_cons.1 h).1 (List.mem_filterMap.2 ⟨o, List.mem_of_getElem? (by simpa using hi), ho⟩)
        | succ k =>
          have hn : (l.filterMap (·.dst)).Nodup := by
            cases hq : q.dst with
            | none => rwa [List.filterMap_cons_none hq] at h
            | some d => rw [List.filterMap_cons_some hq] at h; exact (List.nodup_cons.1 h).2
          exact congrArg (· + 1) (ih hn (i := i) (k := k) (by simpa using hi) (by simpa using hk))
end
end Go.Gw
