/- The texts JnB, G33, Jn1, Jn2, Jn3, JnE, JnC, JnD, JnF, Jn4, Jn5, JnG, Jn6, JnH of this claim, put together in their order. No condition of their own. -/
import Derived.Test.YtakkjljhjfkkbaaQ6
import Derived.Test.YtakkjljhjfkkbaaQ5
import Derived.Test.YtakkjljhjfkkbaaQ8
import Derived.ChangeKeysEq
import Derived.Laws.StructEq
/- Places in lists of names; names; steps of the loops over them. Plain Lean. -/
namespace Go.Jn
open Go Go.Gw Go.Tu
set_option linter.unusedVariables false
set_option linter.unusedSimpArgs false
def ixI (vs : List Lab) (x : Lab) : Int := if vs.contains x then (ix vs x : Int) else -1
theorem ixI_in {vs : List Lab} {x : Lab} (h : x ∈ vs) : ixI vs x = (ix vs x : Int) := by unfold ixI; rw [if_pos (by simpa using h)]
theorem ix_lt {vs : List Lab} {x : Lab} (h : x ∈ vs) : ix vs x < vs.length := List.idxOf_lt_length_of_mem h
section
variable {vs : List Lab} {x : Lab} {k : Nat}
theorem ixI_here (h : k < vs.length) (hno : x ∉ vs.take k) (he : x = at' vs (k : Int)) : ixI vs x = (k : Int) := by
  rw [at'_nat h] at he
  have hin : x ∈ vs := he ▸ List.getElem_mem h
  rw [ixI_in hin]
  have hs := List.take_append_drop k vs
  rw [List.drop_eq_getElem_cons h, ← he] at hs
  unfold ix
  rw [← hs, List.idxOf_append, if_neg hno, List.length_take]
  simp; omega
theorem ixI_next (h : k < vs.length) (hno : x ∉ vs.take k) (he : ¬ x = at' vs (k : Int)) : x ∉ vs.take (k + 1) := by
  rw [at'_nat h] at he
  rw [List.take_succ_eq_append_getElem h]
  simp only [List.mem_append, List.mem_singleton]
  rintro (h1 | h1)
  · exact hno h1
  · exact he h1
theorem ixI_none (hno : x ∉ vs.take vs.length) : ixI vs x = -1 := by
  rw [List.take_length] at hno
  unfold ixI; rw [if_neg (by simpa using hno)]
theorem ixI_pos : decide (0 ≤ ixI vs x) = vs.contains x := by
  unfold ixI
  split
  · rename_i h; rw [h]; simp
  · rename_i h; simp only [Bool.not_eq_true] at h; rw [h]; rfl
theorem has_here (h : k < vs.length) (he : at' vs (k : Int) = x) : vs.contains x = true := by
  rw [at'_nat h] at he
  simp only [List.contains_iff_mem]
  exact he ▸ List.getElem_mem h
theorem has_none (hno : x ∉ vs.take vs.length) : vs.contains x = false := by
  rw [List.take_length] at hno
  simpa using hno
end
theorem name_expr (l : Lab) : (decide ((1 : Int) ≤ (l.length : Int)) && decide ((l.length : Int) ≤ 16) && !(!l.all isLow)) = nameB l := by
  unfold nameB
  rw [Bool.not_not]
  congr 1
  congr 1
  · rw [Bool.eq_iff_iff]; simp; omega
  · rw [Bool.eq_iff_iff]; simp; omega
theorem varsL_at {al : List Atm} {k : Nat} (h : k < al.length) : varsL (al.take (k + 1)) = addA (varsL (al.take k)) (at' al (k : Int)) := by
  rw [at'_nat h, List.take_succ_eq_append_getElem h, varsL_snoc]
end Go.Jn
namespace Go.Jn
open Go Go.Gw Go.Tu
/-- The first j names of an atom are added. -/
def addsV (out : List Lab) (a : Atm) (j : Nat) : List Lab := ([a.1, a.2.2].take j).foldl addV out
theorem addsV_step (out : List Lab) (a : Atm) {j : Nat} (h : j < ([a.1, a.2.2] : List Lab).length) : addsV out a (j + 1) = addV (addsV out a j) (at' [a.1, a.2.2] (j : Int)) := by
  unfold addsV
  rw [at'_nat h, List.take_succ_eq_append_getElem h, List.foldl_append]; rfl
theorem addsV_len (out : List Lab) (a : Atm) (j : Nat) : (addsV out a j).length ≤ out.length + 2 := by
  have h1 : ∀ (x : Lab) (o : List Lab), (addV o x).length ≤ o.length + 1 := fun x o => by rw [addV_len]; split <;> omega
  unfold addsV
  match j with
  | 0 => simp
  | 1 => exact Nat.le_trans (h1 _ _) (by omega)
  | j + 2 => have := h1 a.2.2 (addV out a.1); have := h1 a.1 out; simp only [List.take_succ_cons, List.take_nil, List.foldl_cons, List.foldl_nil]; omega
end Go.Jn
namespace Go.Jn
open Go Go.Gw Go.Tu
def atmB (a : Atm) : Bool := nameB a.1 && nameB a.2.1 && nameB a.2.2
def preB (v : Vw) : Bool := nameB v.1 && decide (v.2.2.2.2 = []) && decide ((1 : Int) ≤ v.2.2.1.length) && decide ((v.2.2.1.length : Int) ≤ 6) && decide ((1 : Int) ≤ v.2.2.2.1.length) && decide ((v.2.2.2.1.length : Int) ≤ 8)
def reachB (v : Vw) : Bool := nameB v.1 && nameB v.2.2.2.2 && decide ((v.2.2.1.length : Int) = 0) && decide ((v.2.2.2.1.length : Int) = 0)
/-- A definition that is one. -/
def checkB (v : Vw) : Bool := if v.2.1 = 2 then reachB v else if v.2.1 = 1 then preB v && v.2.2.2.1.all atmB && outB (varsL v.2.2.2.1) v.2.2.1 else false
end Go.Jn
namespace Go.Jn
open Go Go.Gw Go.Tu
theorem all_snocB {α : Type} [Inhabited α] {l : List α} {p : α → Bool} {k : Nat} (h : k < l.length) : (l.take (k + 1)).all p = ((l.take k).all p && p (at' l (k : Int))) := by
  rw [at'_nat h, List.take_succ_eq_append_getElem h, List.all_append]; simp
theorem atoms_step {v : Vw} {k : Nat} (h : k < v.2.2.2.1.length) : (preB v && (v.2.2.2.1.take k).all atmB && nameB (at' v.2.2.2.1 (k : Int)).1 && nameB (at' v.2.2.2.1 (k : Int)).2.1 && nameB (at' v.2.2.2.1 (k : Int)).2.2) = (preB v && (v.2.2.2.1.take (k + 1)).all atmB) := by
  rw [all_snocB h]; unfold atmB; simp only [Bool.and_assoc]
theorem out_step {V out : List Lab} {i : Nat} (h : i < out.length) : (outB V (out.take i) && V.contains (at' out (i : Int)) && !(out.take i).contains (at' out (i : Int))) = outB V (out.take (i + 1)) := by
  unfold outB
  rw [all_snocB h]
  have hn : (out.take (i + 1)).Nodup ↔ (out.take i).Nodup ∧ at' out (i : Int) ∉ out.take i := by
    rw [at'_nat h, List.take_succ_eq_append_getElem h, List.nodup_append]
    constructor
    · rintro ⟨h1, _, h3⟩
      exact ⟨h1, fun hm => h3 _ hm _ (by simp) rfl⟩
    · rintro ⟨h1, h2⟩
      refine ⟨h1, by simp, fun a ha b hb e => ?_⟩
      have : b = out[i] := by simpa using hb
      subst this; subst e; exact h2 ha
  rw [Bool.eq_iff_iff]
  simp only [Bool.and_eq_true, decide_eq_true_eq, hn, Bool.not_eq_true', List.contains_eq_mem, decide_eq_false_iff_not]
  constructor
  · rintro ⟨⟨⟨h1, h2⟩, h3⟩, h4⟩; exact ⟨⟨h1, h3⟩, h2, h4⟩
  · rintro ⟨⟨h1, h3⟩, h2, h4⟩; exact ⟨⟨⟨h1, h2⟩, h3⟩, h4⟩
theorem chk2 {v : Vw} {b : Bool} (h : decide (v.2.1 = 2) = true) (hb : (!reachB v) = b) : (if b then (1 : Int) else 0) = if checkB v then 0 else 1 := by
  have h1 : v.2.1 = 2 := by simpa using h
  unfold checkB; rw [if_pos h1, ← hb]; cases reachB v <;> rfl
theorem chk0 {v : Vw} (h : decide (v.2.1 = 2) = false) (h1 : decide (v.2.1 = 1) = false) : (1 : Int) = if checkB v then 0 else 1 := by
  have h2 : ¬ v.2.1 = 2 := by simpa using h
  have h3 : ¬ v.2.1 = 1 := by simpa using h1
  unfold checkB; rw [if_neg h2, if_neg h3]; rfl
theorem chk1 {v : Vw} (h : decide (v.2.1 = 2) = false) (h1 : decide (v.2.1 = 1) = true) (hp : (!(preB v && v.2.2.2.1.all atmB)) = true) : (1 : Int) = if checkB v then 0 else 1 := by
  have h2 : ¬ v.2.1 = 2 := by simpa using h
  have h3 : v.2.1 = 1 := by simpa using h1
  have h4 : (preB v && v.2.2.2.1.all atmB) = false := by cases hx : (preB v && v.2.2.2.1.all atmB) with
    | false => rfl
    | true => rw [hx] at hp; exact hp.symm
  unfold checkB; rw [if_neg h2, if_pos h3, h4]; rfl
theorem chk3 {v : Vw} {b : Bool} (h : decide (v.2.1 = 2) = false) (h1 : decide (v.2.1 = 1) = true) (hp : (!(preB v && v.2.2.2.1.all atmB)) = false) (ho : (!outB (varsL v.2.2.2.1) v.2.2.1) = b) : (if b then (1 : Int) else 0) = if checkB v then 0 else 1 := by
  have h2 : ¬ v.2.1 = 2 := by simpa using h
  have h3 : v.2.1 = 1 := by simpa using h1
  have h4 : (preB v && v.2.2.2.1.all atmB) = true := by cases hx : (preB v && v.2.2.2.1.all atmB) with
    | true => rfl
    | false => rw [hx] at hp; exact hp.symm
  unfold checkB; rw [if_neg h2, if_pos h3, h4, ← ho]; cases outB (varsL v.2.2.2.1) v.2.2.1 <;> rfl
theorem pre_lens {v : Vw} (h : preB v = true) : v.2.2.1.length ≤ 6 ∧ 1 ≤ v.2.2.1.length ∧ v.2.2.2.1.length ≤ 8 ∧ 1 ≤ v.2.2.2.1.length := by
  unfold preB at h
  simp only [Bool.and_eq_true, decide_eq_true_eq] at h
  omega
theorem pre_pat (v : Vw) : (preB v && v.2.2.2.1.all atmB) = patB v := by
  unfold preB patB atmB
  have e : ∀ (n : Nat) (c : Nat), decide ((n : Int) ≤ (c : Int)) = decide (n ≤ c) := fun n c => by rw [Bool.eq_iff_iff]; simp
  have e1 : ∀ n : Nat, decide ((1 : Int) ≤ (n : Int)) = decide (1 ≤ n) := fun n => by rw [Bool.eq_iff_iff]; simp; omega
  rw [e1, e1, show (6 : Int) = ((6 : Nat) : Int) from rfl, show (8 : Int) = ((8 : Nat) : Int) from rfl, e, e]
theorem bad_expr (v : Vw) : (decide (v.2.1 ≠ 1) || decide ((if checkB v then (0 : Int) else 1) ≠ 0)) = !okV v := by
  rw [decide_not, decide_not]
  unfold okV
  by_cases h : v.2.1 = 1
  · have h2 : ¬ v.2.1 = 2 := by omega
    unfold checkB
    rw [if_neg h2, if_pos h, pre_pat]
    cases hb : (patB v && outB (varsL v.2.2.2.1) v.2.2.1) <;> simp [h, hb]
  · simp [h]
end Go.Jn
/- Typed walks: what is owned is lent to a function that reads it. Over any program. -/
namespace Go.Gw
open Go
set_option linter.unusedVariables false
set_option linter.unusedSimpArgs false
theorem AllP.mono {H H' : FH} (hs : Sub H H') : ∀ {As : List Ty} {vs : List Value}, AllP H As vs → AllP H' As vs
  | [], [], _ => trivial
  | T :: As, v :: vs, h => ⟨Ty.mono T hs h.1, AllP.mono hs h.2⟩
section
variable {P : Program} {f : FuncId} {As As' : List Ty} {J : List It} {ρ : Type} {T : ρ → Ty} {φ : ρ → Prop} {Q : FH → Prop} {K0 : FH} {n0 : Nat}
open Classical in
theorem lend_post {H H1 H2 : FH} {w w' : World} (hon : On H w) (hO : Owns (fun _ => True) w H J) (h1 : Sub H H1) (hn : ∀ k o, H1 k = some o → H k = some o ∨ k ∈ blks J) (hs : St (fun g => g ∈ blks []) H1 w H2 w') :
    ∃ H', St (fun g => g ∈ blks J) H w H' w' ∧ Owns (fun g => g ∈ blks J ∨ w.heap.size ≤ g) w' H' J := by
  have hst : St noM H w (fun k => if H k = none ∧ k ∈ blks J then none else H2 k) w' := by
    refine ⟨fun k o e => ?_, fun k o e => ?_, hs.os, hs.tape, hs.output, hs.size, fun k hk _ => hs.keep k hk (by simp [blks]), fun k o e => ?_⟩
    · show (if H k = none ∧ k ∈ blks J then none else H2 k) = some o
      rw [if_neg (fun h => by rw [h.1] at e; cases e)]
      exact hs.sub k o (h1 k o e)
    · by_cases hc : H k = none ∧ k ∈ blks J
      · simp only [if_pos hc] at e; cases e
      · simp only [if_neg hc] at e; exact hs.on k o e
    · by_cases hc : H k = none ∧ k ∈ blks J
      · simp only [if_pos hc] at e; cases e
      · simp only [if_neg hc] at e
        rcases hs.new k o e with e2 | e2 | e2
        · rcases hn k o e2 with e3 | e3
          · exact .inl e3
          · refine .inl ?_
            cases hk : H k with
            | none => exact absurd ⟨hk, e3⟩ hc
            | some o' => have := h1 k o' hk; rw [e2] at this; cases this; rfl
        · exact .inr (.inl e2)
        · exact absurd e2 (by simp [blks])
  refine ⟨_, hst.none, ?_⟩
  have hO2 : Owns (fun g => g ∈ blks J ∨ w.heap.size ≤ g) w H J := ⟨hO.all, hO.nodup, fun g hg => ⟨(hO.own g hg).1, (hO.own g hg).2.1, .inl hg⟩⟩
  exact hO2.st0 hst
theorem Ct.lend (hf : Frz J Q) (h : Ct P f As [] ρ T (fun _ => []) φ) (hc : ∀ H args, AllP H As' args → Q H → AllP H As args) (hT : ∀ r H H' v, (T r).p H v → (T r).p H' v) : Ct P f As' J ρ T (fun _ => J) φ := by
  intro H w args hon hA hO
  have hO2 : Owns (fun g => g ∈ blks J) w H (J ++ []) := by rw [List.append_nil]; exact ⟨hO.all, hO.nodup, fun g hg => ⟨(hO.own g hg).1, (hO.own g hg).2.1, hg⟩⟩
  obtain ⟨H1, h1, h2, h3, _, h5⟩ := hf _ w H [] hon hO2
  refine (h H1 w args h2 (hc H1 args (hA.mono h1) h5) Owns.nil).mono ?_
  rintro e w' ⟨r, v, H2, rfl, hφ, hs, hv, _⟩
  obtain ⟨H', k1, k2⟩ := lend_post hon hO h1 h3 hs
  exact ⟨r, v, H', rfl, hφ, k1, hT r _ _ v hv, k2⟩
theorem CtM.lend (hf : Frz J Q) (h : CtM K0 n0 P f As [] ρ T (fun _ => []) φ) (hc : ∀ H args, AllP H As' args → Q H → AllP H As args) (hT : ∀ r H H' v, (T r).p H v → (T r).p H' v) : CtM K0 n0 P f As' J ρ T (fun _ => J) φ := by
  intro H w args hK hn hon hA hO
  have hO2 : Owns (fun g => g ∈ blks J) w H (J ++ []) := by rw [List.append_nil]; exact ⟨hO.all, hO.nodup, fun g hg => ⟨(hO.own g hg).1, (hO.own g hg).2.1, hg⟩⟩
  obtain ⟨H1, h1, h2, h3, _, h5⟩ := hf _ w H [] hon hO2
  refine (h H1 w args (hK.trans h1) hn h2 (hc H1 args (hA.mono h1) h5) Owns.nil).mono ?_
  rintro e w' ⟨r, v, H2, rfl, hφ, hs, hv, _⟩
  obtain ⟨H', k1, k2⟩ := lend_post hon hO h1 h3 hs
  exact ⟨r, v, H', rfl, hφ, k1, hT r _ _ v hv, k2⟩
theorem flat_bool {ρ : Type} {b : ρ → Bool} : ∀ (r : ρ) (H H' : FH) (v : Value), (BoolT (b r)).p H v → (BoolT (b r)).p H' v := fun _ _ _ _ h => h
theorem allP_hd {A B : Ty} {As : List Ty} {args : List Value} {H : FH} (hAB : ∀ v, A.p H v → B.p H v) (h : AllP H (A :: As) args) : AllP H (B :: As) args := by
  match args, h with
  | v :: vs, h => exact ⟨hAB v h.1, h.2⟩
/-- The first argument is lent. -/
theorem Ct.lend_hd {α : Type} {d : Kd α} {e : TypeId} {v : Value} {xs : List α} (h : Ct P f (SlT d xs :: As) [] ρ T (fun _ => []) φ) (hT : ∀ r H H' v, (T r).p H v → (T r).p H' v) : Ct P f (IsV v :: As) [OwnI e d v xs] ρ T (fun _ => [OwnI e d v xs]) φ :=
  Ct.lend Frz.own h (fun H args hA hQ => allP_hd (fun u hu => by rw [show u = v from hu]; exact hQ) hA) hT
end
end Go.Gw
namespace Go.Gw
open Go Go.MapKept
set_option linter.unusedVariables false
section
variable {C : Cx} {Γ : Env} {L R : List It} {dst : Option Tmp} {ty : TypeId} {pos : String} {after : Array Edge} {guard : Option (Nat × Bool)} {x y z : Operand}
variable {κ α : Type} [DecidableEq κ] {t kt et : TypeId} {K : Kd κ} {enc : κ → Value} {m : List (κ × α)} {g st : Nat} {k : κ}
/-- The entry that 'm[k] op= ..' has made reads as it did. -/
theorem pu_lookup_entry {d : Kd α} {z0 : α} (mk : MKey C.P kt K enc) (ht : C.P.underlying t = some (.map kt et)) (hz : ZeroOf C.P et d z0) (hx : OT C.N Γ x (IsV (mp g))) (hm : MapE g enc d.T (ptk k ((lkp k m).getD z0) m) k st ∈ L) (hy : OT C.N Γ y (K.T k)) :
    Pure C Γ L ⟨dst, .lookup t x y false, ty, pos, after, guard⟩ (d.T ((lkp k m).getD z0)) := fun a w H f s ow => by
  obtain ⟨es, clock, hb, hR, _⟩ := ow.all _ hm
  obtain ⟨zv, hzr, hzt⟩ := run_zero (w := w) hz
  have hxv : a.eval x = mp g := hx a H f
  have hyv : a.eval y = enc k := mk.val (hy a H f)
  have hl : lkp k (ptk k ((lkp k m).getD z0) m) = some ((lkp k m).getD z0) := by rw [lkp_put, if_pos rfl]
  rcases run_lookup (k := k) mk ht hb hR hzr with ⟨h1, _⟩ | ⟨v0, v, h1, h2, h3, _⟩
  · rw [hl] at h1; cases h1
  · rw [hl] at h1; cases h1; exact ⟨v, by simp [execOp, hxv, hyv, h3, Result.andThen], h2⟩
end
end Go.Gw
namespace Go.Gw
/-- Two items picked, one behind the other. -/
theorem perm2_at {L : List It} (i j : Nat) {x y : It} (h : L[i]? = some x) (h' : (L.eraseIdx i)[j]? = some y) : L.Perm ([x, y] ++ (L.eraseIdx i).eraseIdx j) := (perm_at i h).trans ((perm_at j h').cons x)
end Go.Gw
/- Walks through the Go functions slices.Index[[]string,string], slices.Contains[[]string,string], rhizomeref09.has, query.name, rhizomeref01.Ints, as typed contracts. -/
namespace Go.Proofs.Ytakkjljhjfkkbaa
open Go Go.Gw Go.So Go.Tu Go.Jn
set_option linter.unusedVariables false
set_option linter.unusedSimpArgs false
abbrev kI : Kd Int := kint .i64
abbrev kE : Kd Ed := kpair kI (kpair kS kI)
abbrev kA : Kd Atm := kpair kS (kpair kS kS)
abbrev kV : Kd Vw := kpair kS (kpair kI (kpair (ksl kS) (kpair (ksl kA) kS)))
abbrev kPP : Kd Pr := kP2 kI
theorem zI : ZeroOf Try.prog 3 kI 0 := ⟨.int .i64 0, by kernel_rfl, fun H => rfl⟩
theorem zS : ZeroOf Try.prog 9 kS [] := ⟨.string (bs []), by kernel_rfl, fun H => rfl⟩
theorem nil_sl {α : Type} {d : Kd α} {H : FH} : (SlT d []).p H nilS := ⟨none, 0, rfl, by simp, by simp, fun h => by simp at h⟩
theorem e_p (H : FH) (t : Ed) : (kE.T t).p H (.agg #[.int .i64 t.1, .string (bs t.2.1), .int .i64 t.2.2]) := ⟨[.int .i64 t.1, .string (bs t.2.1), .int .i64 t.2.2], ⟨[_], [_, _], rfl, ⟨[_], [_], rfl, rfl, rfl⟩, rfl⟩, rfl⟩
theorem a_p (H : FH) (t : Atm) : (kA.T t).p H (.agg #[.string (bs t.1), .string (bs t.2.1), .string (bs t.2.2)]) := ⟨[.string (bs t.1), .string (bs t.2.1), .string (bs t.2.2)], ⟨[_], [_, _], rfl, ⟨[_], [_], rfl, rfl, rfl⟩, rfl⟩, rfl⟩
theorem zE : ZeroOf Try.prog 34 kE (0, [], 0) := ⟨.agg #[.int .i64 0, .string (bs []), .int .i64 0], by kernel_rfl, fun H => e_p H (0, [], 0)⟩
theorem zA : ZeroOf Try.prog 31 kA ([], [], []) := ⟨.agg #[.string (bs []), .string (bs []), .string (bs [])], by kernel_rfl, fun H => a_p H ([], [], [])⟩
theorem zV : ZeroOf Try.prog 25 kV ([], 0, [], [], []) := ⟨.agg #[.string (bs []), .int .i64 0, nilS, nilS, .string (bs [])], by kernel_rfl, fun H => ⟨[.string (bs []), .int .i64 0, nilS, nilS, .string (bs [])], ⟨[_], [_, _, _, _], rfl, ⟨[_], [_, _, _], rfl, ⟨[_], [_, _], ⟨nilS, rfl, nil_sl⟩, ⟨[_], [_], ⟨nilS, rfl, nil_sl⟩, rfl, rfl⟩, rfl⟩, rfl⟩, rfl⟩, rfl⟩⟩
theorem zT : ZeroOf Try.prog 45 kT [] := ⟨nilS, by kernel_rfl, fun H => nil_sl⟩
theorem zP : ZeroOf Try.prog 75 kPP (0, 0) := ⟨.agg #[.int .i64 0, .int .i64 0], by kernel_rfl, fun H => ⟨[.int .i64 0, .int .i64 0], ⟨rfl, rfl, fun j x e => by
  match j, e with
  | 0, e => cases e; rfl
  | 1, e => cases e; rfl
  | j + 2, e => simp at e⟩, rfl⟩⟩
theorem le0 {t : Ed} : Lens kE kI 0 t t.1 (fun y => (y, t.2)) := Lens.fst
theorem le1 {t : Ed} : Lens kE kS 1 t t.2.1 (fun y => (t.1, y, t.2.2)) := Lens.comp (Lens.snd (a := kI) (b := kpair kS kI)) (Lens.fst (a := kS) (b := kI))
theorem le2 {t : Ed} : Lens kE kI 2 t t.2.2 (fun y => (t.1, t.2.1, y)) := Lens.comp (Lens.snd (a := kI) (b := kpair kS kI)) (Lens.snd (a := kS) (b := kI))
theorem la0 {t : Atm} : Lens kA kS 0 t t.1 (fun y => (y, t.2)) := Lens.fst
theorem la1 {t : Atm} : Lens kA kS 1 t t.2.1 (fun y => (t.1, y, t.2.2)) := Lens.comp (Lens.snd (a := kS) (b := kpair kS kS)) (Lens.fst (a := kS) (b := kS))
theorem la2 {t : Atm} : Lens kA kS 2 t t.2.2 (fun y => (t.1, t.2.1, y)) := Lens.comp (Lens.snd (a := kS) (b := kpair kS kS)) (Lens.snd (a := kS) (b := kS))
abbrev kV4 : Kd (List Atm × Lab) := kpair (ksl kA) kS
abbrev kV3 : Kd (List Lab × List Atm × Lab) := kpair (ksl kS) kV4
abbrev kV2 : Kd (Int × List Lab × List Atm × Lab) := kpair kI kV3
theorem lv0 {t : Vw} : Lens kV kS 0 t t.1 (fun y => (y, t.2)) := Lens.fst
theorem lv1 {t : Vw} : Lens kV kI 1 t t.2.1 (fun y => (t.1, y, t.2.2)) := Lens.comp (Lens.snd (a := kS) (b := kV2)) (Lens.fst (a := kI) (b := kV3))
theorem lv2 {t : Vw} : Lens kV (ksl kS) 2 t t.2.2.1 (fun y => (t.1, t.2.1, y, t.2.2.2)) := Lens.comp (Lens.snd (a := kS) (b := kV2)) (Lens.comp (Lens.snd (a := kI) (b := kV3)) (Lens.fst (a := ksl kS) (b := kV4)))
theorem lv3 {t : Vw} : Lens kV (ksl kA) 3 t t.2.2.2.1 (fun y => (t.1, t.2.1, t.2.2.1, y, t.2.2.2.2)) := Lens.comp (Lens.snd (a := kS) (b := kV2)) (Lens.comp (Lens.snd (a := kI) (b := kV3)) (Lens.comp (Lens.snd (a := ksl kS) (b := kV4)) (Lens.fst (a := ksl kA) (b := kS))))
theorem lv4 {t : Vw} : Lens kV kS 4 t t.2.2.2.2 (fun y => (t.1, t.2.1, t.2.2.1, t.2.2.2.1, y)) := Lens.comp (Lens.snd (a := kS) (b := kV2)) (Lens.comp (Lens.snd (a := kI) (b := kV3)) (Lens.comp (Lens.snd (a := ksl kS) (b := kV4)) (Lens.snd (a := ksl kA) (b := kS))))

set_option maxRecDepth 20000 in
/-- slices.Index[[]string,string] -/
theorem IndexS_fn (vs : List Lab) (x : Lab) (hm : vs.length ≤ 1000000) : Ct Try.prog 19 [SlT kS vs, BsT x] ([]) Unit (fun _ => I64 (ixI vs x)) (fun _ => []) (fun _ => True) := by
  refine fn_intro Try.func19 rfl rfl ?_
  intro H w
  refine tr_seq ?_
  -- region 0
  refine tr_env (es_cons (t := 0) (OT.tmp rfl) (es_cons (t := 1) (OT.tmp rfl) es_nil)) ?_
  refine tr_region ?_
  refine op_pure (pu_assign OT.const) rfl rfl ?_
  refine tr_nil ?_
  refine then_normal ?_
  refine tr_seq ?_
  refine tr_seq ?_
  -- region 1
  refine tr_env (es_cons (t := 0) (OT.tmp rfl) (es_cons (t := 1) (OT.tmp rfl) es_nil)) ?_
  refine tr_region ?_
  refine op_pure (pu_move (OT.tmp rfl)) rfl rfl ?_
  refine op_pure (pu_len_sl (OT.tmp rfl) Try.underlying22) rfl rfl ?_
  refine op_pure (pu_move OT.const) rfl rfl ?_
  refine tr_nil ?_
  refine then_normal ?_
  refine tr_block ?_
  refine tr_loopK (σ := Nat) (es_cons (t := 0) (OT.tmp rfl) (es_cons (t := 1) (OT.tmp rfl) (es_cons (t := 7) (OT.tmp rfl) es_nil))) (fun k => [(8, I64 (k : Int))]) (fun k => []) (fun k => k ≤ vs.length ∧ x ∉ vs.take k) (fun k => vs.length - k) 0 ⟨Nat.zero_le _, by simp⟩ ?_ (own_picks (by exact picks_nil)) ?_
  · exact (es_cons (t := 8) (by exact OT.tmp rfl) es_nil)
  · rintro k ⟨hk, hno⟩
    refine tr_seq ?_
    -- region 2
    refine tr_env (es_cons (t := 0) (OT.tmp rfl) (es_cons (t := 1) (OT.tmp rfl) (es_cons (t := 7) (OT.tmp rfl) (es_cons (t := 8) (OT.tmp rfl) es_nil)))) ?_
    refine tr_region ?_
    refine op_pure (pu_lss (OT.tmp rfl) (OT.tmp rfl)) rfl rfl ?_
    refine tr_nil ?_
    refine then_normal ?_
    refine tr_seq ?_
    refine tr_cond (OT.tmp rfl) (fun c9 => ?_) (fun c9 => ?_)
    · try simp only [decide_eq_true_eq, decide_eq_false_iff_not, Bool.or_eq_true, Bool.and_eq_true, Bool.or_eq_false_iff, Bool.and_eq_false_iff, Bool.not_eq_true', Bool.not_eq_false', ne_eq, Classical.not_not] at c9
      refine tr_skip ?_
      refine then_normal ?_
      refine tr_seq ?_
      refine tr_block ?_
      refine tr_seq ?_
      -- region 3
      refine tr_env (es_cons (t := 0) (OT.tmp rfl) (es_cons (t := 1) (OT.tmp rfl) (es_cons (t := 7) (OT.tmp rfl) (es_cons (t := 8) (OT.tmp rfl) es_nil)))) ?_
      refine tr_region ?_
      refine op_pure (pu_move (OT.tmp rfl)) rfl rfl ?_
      refine op_pure (pu_assign (OT.tmp rfl)) rfl rfl ?_
      refine tr_nil ?_
      refine then_normal ?_
      refine tr_seq ?_
      -- region 4
      refine tr_env (es_cons (t := 0) (OT.tmp rfl) (es_cons (t := 1) (OT.tmp rfl) (es_cons (t := 5) (OT.tmp rfl) (es_cons (t := 7) (OT.tmp rfl) (es_cons (t := 8) (OT.tmp rfl) es_nil))))) ?_
      refine tr_region ?_
      refine op_pure (pu_move (OT.tmp rfl)) rfl rfl ?_
      refine op_pure (pu_move (OT.tmp rfl)) rfl rfl ?_
      refine op_pure (pu_move (OT.tmp rfl)) rfl rfl ?_
      refine op_pure (pu_index (OT.tmp rfl) (OT.tmp rfl) Try.underlying22 (show tyOk Try.prog 9 false 1 = true from by decide +kernel) (by omega) (by omega)) rfl rfl ?_
      refine op_pure (pu_load (OT.tmp rfl) (show tyOk Try.prog 9 false 1 = true from by decide +kernel)) rfl rfl ?_
      refine op_pure (pu_bs_eql (OT.tmp rfl) (OT.tmp rfl)) rfl rfl ?_
      refine tr_nil ?_
      refine then_normal ?_
      refine tr_cond (OT.tmp rfl) (fun c16 => ?_) (fun c16 => ?_)
      · try simp only [decide_eq_true_eq, decide_eq_false_iff_not, Bool.or_eq_true, Bool.and_eq_true, Bool.or_eq_false_iff, Bool.and_eq_false_iff, Bool.not_eq_true', Bool.not_eq_false', ne_eq, Classical.not_not] at c16
        have hres := ixI_here (vs := vs) (x := x) (k := k) (by omega) hno c16
        refine tr_seq ?_
        -- region 5
        refine tr_env (es_cons (t := 5) (OT.tmp rfl) es_nil) ?_
        refine tr_region ?_
        refine op_pure (pu_move (OT.tmp rfl)) rfl rfl ?_
        refine op_pure (pu_assign (OT.tmp rfl)) rfl rfl ?_
        refine tr_nil ?_
        refine then_normal ?_
        refine tr_ret ?_
        refine block_ret ?_
        refine then_ret ?_
        refine then_ret ?_
        refine block_ret ?_
        refine then_ret ?_
        exact ret_one .ret (.inl rfl) rfl () (OT.val (OT.tmp rfl) (congrArg (Value.int _) (hres.symm))) trivial (by exact picks_nil)
      · try simp only [decide_eq_true_eq, decide_eq_false_iff_not, Bool.or_eq_true, Bool.and_eq_true, Bool.or_eq_false_iff, Bool.and_eq_false_iff, Bool.not_eq_true', Bool.not_eq_false', ne_eq, Classical.not_not] at c16
        have hst := ixI_next (vs := vs) (x := x) (k := k) (by omega) hno c16
        refine tr_skip ?_
        refine block_normal ?_
        refine then_normal ?_
        -- region 6
        refine tr_env (es_cons (t := 0) (OT.tmp rfl) (es_cons (t := 1) (OT.tmp rfl) (es_cons (t := 7) (OT.tmp rfl) (es_cons (t := 8) (OT.tmp rfl) es_nil)))) ?_
        refine tr_region ?_
        refine op_pure (pu_add' (OT.tmp rfl) OT.const (by omega)) rfl rfl ?_
        refine op_pure (pu_move (OT.tmp rfl)) rfl rfl ?_
        refine tr_nil ?_
        refine then_normal ?_
        exact tr_again (k + 1) ⟨by omega, hst⟩ (by omega) (es_append (es_cons (t := 8) (by exact OT.tmp rfl) es_nil) (es_cons (t := 0) (OT.tmp rfl) (es_cons (t := 1) (OT.tmp rfl) (es_cons (t := 7) (OT.tmp rfl) es_nil)))) (own_picks (by exact picks_nil))
    · try simp only [decide_eq_true_eq, decide_eq_false_iff_not, Bool.or_eq_true, Bool.and_eq_true, Bool.or_eq_false_iff, Bool.and_eq_false_iff, Bool.not_eq_true', Bool.not_eq_false', ne_eq, Classical.not_not] at c9
      refine tr_exit ?_
      refine then_exit ?_
      refine then_exit ?_
      refine block_hit ?_
      refine then_normal ?_
      refine tr_seq ?_
      -- region 7
      refine tr_env es_nil ?_
      obtain rfl : k = vs.length := by omega
      have hres := ixI_none (vs := vs) (x := x) hno
      refine tr_region ?_
      refine op_pure (pu_assign OT.const) rfl rfl ?_
      refine tr_nil ?_
      refine then_normal ?_
      refine tr_ret ?_
      exact ret_one .ret (.inl rfl) rfl () (OT.val (OT.tmp rfl) (congrArg (Value.int _) (hres.symm))) trivial (by exact picks_nil)
set_option maxRecDepth 20000 in
/-- slices.Contains[[]string,string] -/
theorem ContainsS_fn (vs : List Lab) (x : Lab) (hm : vs.length ≤ 1000000) : Ct Try.prog 30 [SlT kS vs, BsT x] ([]) Unit (fun _ => BoolT (vs.contains x)) (fun _ => []) (fun _ => True) := by
  refine fn_intro Try.func30 rfl rfl ?_
  intro H w
  refine tr_seq ?_
  -- region 0
  refine tr_env (es_cons (t := 0) (OT.tmp rfl) (es_cons (t := 1) (OT.tmp rfl) es_nil)) ?_
  refine tr_region ?_
  refine op_pure (pu_assign OT.const) rfl rfl ?_
  refine tr_nil ?_
  refine then_normal ?_
  refine tr_seq ?_
  -- region 1
  refine tr_env (es_cons (t := 0) (OT.tmp rfl) (es_cons (t := 1) (OT.tmp rfl) es_nil)) ?_
  refine tr_region ?_
  refine op_pure (pu_move (OT.tmp rfl)) rfl rfl ?_
  refine op_pure (pu_move (OT.tmp rfl)) rfl rfl ?_
  refine op_acts (acts_call (IndexS_fn _ _ (by assumption)) (show enters Try.prog 19 = true from by decide +kernel) (OTs.cons (OT.tmp rfl) (OTs.cons (OT.tmp rfl) OTs.nil)) (List.Perm.refl _)) (List.Perm.refl _) rfl rfl (fun _ _ => ?_)
  refine op_pure (pu_geq (OT.tmp rfl) OT.const) rfl rfl ?_
  refine op_pure (pu_assign (OT.tmp rfl)) rfl rfl ?_
  refine tr_nil ?_
  refine then_normal ?_
  refine tr_ret ?_
  exact ret_one .ret (.inl rfl) rfl () (OT.val (OT.tmp rfl) (congrArg Value.bool (ixI_pos))) trivial (by exact picks_nil)
set_option maxRecDepth 20000 in
/-- rhizome/rhizomeref09.has -/
theorem rhas_fn (vs : List Lab) (x : Lab) (hm : vs.length ≤ 1000000) : Ct Try.prog 29 [SlT kS vs, BsT x] ([]) Unit (fun _ => BoolT (vs.contains x)) (fun _ => []) (fun _ => True) := by
  refine fn_intro Try.func29 rfl rfl ?_
  intro H w
  refine tr_seq ?_
  -- region 0
  refine tr_env (es_cons (t := 0) (OT.tmp rfl) (es_cons (t := 1) (OT.tmp rfl) es_nil)) ?_
  refine tr_region ?_
  refine op_pure (pu_assign OT.const) rfl rfl ?_
  refine tr_nil ?_
  refine then_normal ?_
  refine tr_seq ?_
  refine tr_seq ?_
  -- region 1
  refine tr_env (es_cons (t := 0) (OT.tmp rfl) (es_cons (t := 1) (OT.tmp rfl) es_nil)) ?_
  refine tr_region ?_
  refine op_pure (pu_move (OT.tmp rfl)) rfl rfl ?_
  refine op_pure (pu_len_sl (OT.tmp rfl) Try.underlying22) rfl rfl ?_
  refine op_pure (pu_move OT.const) rfl rfl ?_
  refine tr_nil ?_
  refine then_normal ?_
  refine tr_block ?_
  refine tr_loopK (σ := Nat) (es_cons (t := 0) (OT.tmp rfl) (es_cons (t := 1) (OT.tmp rfl) (es_cons (t := 7) (OT.tmp rfl) es_nil))) (fun k => [(8, I64 (k : Int))]) (fun k => []) (fun k => k ≤ vs.length ∧ x ∉ vs.take k) (fun k => vs.length - k) 0 ⟨Nat.zero_le _, by simp⟩ ?_ (own_picks (by exact picks_nil)) ?_
  · exact (es_cons (t := 8) (by exact OT.tmp rfl) es_nil)
  · rintro k ⟨hk, hno⟩
    refine tr_seq ?_
    -- region 2
    refine tr_env (es_cons (t := 0) (OT.tmp rfl) (es_cons (t := 1) (OT.tmp rfl) (es_cons (t := 7) (OT.tmp rfl) (es_cons (t := 8) (OT.tmp rfl) es_nil)))) ?_
    refine tr_region ?_
    refine op_pure (pu_lss (OT.tmp rfl) (OT.tmp rfl)) rfl rfl ?_
    refine tr_nil ?_
    refine then_normal ?_
    refine tr_seq ?_
    refine tr_cond (OT.tmp rfl) (fun c9 => ?_) (fun c9 => ?_)
    · try simp only [decide_eq_true_eq, decide_eq_false_iff_not, Bool.or_eq_true, Bool.and_eq_true, Bool.or_eq_false_iff, Bool.and_eq_false_iff, Bool.not_eq_true', Bool.not_eq_false', ne_eq, Classical.not_not] at c9
      refine tr_skip ?_
      refine then_normal ?_
      refine tr_seq ?_
      refine tr_block ?_
      refine tr_seq ?_
      -- region 3
      refine tr_env (es_cons (t := 0) (OT.tmp rfl) (es_cons (t := 1) (OT.tmp rfl) (es_cons (t := 7) (OT.tmp rfl) (es_cons (t := 8) (OT.tmp rfl) es_nil)))) ?_
      refine tr_region ?_
      refine op_pure (pu_move (OT.tmp rfl)) rfl rfl ?_
      refine op_pure (pu_assign (OT.tmp rfl)) rfl rfl ?_
      refine tr_nil ?_
      refine then_normal ?_
      refine tr_seq ?_
      -- region 4
      refine tr_env (es_cons (t := 0) (OT.tmp rfl) (es_cons (t := 1) (OT.tmp rfl) (es_cons (t := 5) (OT.tmp rfl) (es_cons (t := 7) (OT.tmp rfl) (es_cons (t := 8) (OT.tmp rfl) es_nil))))) ?_
      refine tr_region ?_
      refine op_pure (pu_move (OT.tmp rfl)) rfl rfl ?_
      refine op_pure (pu_move (OT.tmp rfl)) rfl rfl ?_
      refine op_pure (pu_index (OT.tmp rfl) (OT.tmp rfl) Try.underlying22 (show tyOk Try.prog 9 false 1 = true from by decide +kernel) (by omega) (by omega)) rfl rfl ?_
      refine op_pure (pu_load (OT.tmp rfl) (show tyOk Try.prog 9 false 1 = true from by decide +kernel)) rfl rfl ?_
      refine op_pure (pu_move (OT.tmp rfl)) rfl rfl ?_
      refine op_pure (pu_bs_eql (OT.tmp rfl) (OT.tmp rfl)) rfl rfl ?_
      refine tr_nil ?_
      refine then_normal ?_
      refine tr_cond (OT.tmp rfl) (fun c16 => ?_) (fun c16 => ?_)
      · try simp only [decide_eq_true_eq, decide_eq_false_iff_not, Bool.or_eq_true, Bool.and_eq_true, Bool.or_eq_false_iff, Bool.and_eq_false_iff, Bool.not_eq_true', Bool.not_eq_false', ne_eq, Classical.not_not] at c16
        have hres := has_here (vs := vs) (x := x) (k := k) (by omega) c16
        refine tr_seq ?_
        -- region 5
        refine tr_env es_nil ?_
        refine tr_region ?_
        refine op_pure (pu_assign OT.const) rfl rfl ?_
        refine tr_nil ?_
        refine then_normal ?_
        refine tr_ret ?_
        refine block_ret ?_
        refine then_ret ?_
        refine then_ret ?_
        refine block_ret ?_
        refine then_ret ?_
        exact ret_one .ret (.inl rfl) rfl () (OT.val (OT.tmp rfl) (congrArg Value.bool (hres.symm))) trivial (by exact picks_nil)
      · try simp only [decide_eq_true_eq, decide_eq_false_iff_not, Bool.or_eq_true, Bool.and_eq_true, Bool.or_eq_false_iff, Bool.and_eq_false_iff, Bool.not_eq_true', Bool.not_eq_false', ne_eq, Classical.not_not] at c16
        have hst := ixI_next (vs := vs) (x := x) (k := k) (by omega) hno (fun e => c16 e.symm)
        refine tr_skip ?_
        refine block_normal ?_
        refine then_normal ?_
        -- region 6
        refine tr_env (es_cons (t := 0) (OT.tmp rfl) (es_cons (t := 1) (OT.tmp rfl) (es_cons (t := 7) (OT.tmp rfl) (es_cons (t := 8) (OT.tmp rfl) es_nil)))) ?_
        refine tr_region ?_
        refine op_pure (pu_add' (OT.tmp rfl) OT.const (by omega)) rfl rfl ?_
        refine op_pure (pu_move (OT.tmp rfl)) rfl rfl ?_
        refine tr_nil ?_
        refine then_normal ?_
        exact tr_again (k + 1) ⟨by omega, hst⟩ (by omega) (es_append (es_cons (t := 8) (by exact OT.tmp rfl) es_nil) (es_cons (t := 0) (OT.tmp rfl) (es_cons (t := 1) (OT.tmp rfl) (es_cons (t := 7) (OT.tmp rfl) es_nil)))) (own_picks (by exact picks_nil))
    · try simp only [decide_eq_true_eq, decide_eq_false_iff_not, Bool.or_eq_true, Bool.and_eq_true, Bool.or_eq_false_iff, Bool.and_eq_false_iff, Bool.not_eq_true', Bool.not_eq_false', ne_eq, Classical.not_not] at c9
      refine tr_exit ?_
      refine then_exit ?_
      refine then_exit ?_
      refine block_hit ?_
      refine then_normal ?_
      refine tr_seq ?_
      -- region 7
      refine tr_env es_nil ?_
      obtain rfl : k = vs.length := by omega
      have hres := has_none (vs := vs) (x := x) hno
      refine tr_region ?_
      refine op_pure (pu_assign OT.const) rfl rfl ?_
      refine tr_nil ?_
      refine then_normal ?_
      refine tr_ret ?_
      exact ret_one .ret (.inl rfl) rfl () (OT.val (OT.tmp rfl) (congrArg Value.bool (hres.symm))) trivial (by exact picks_nil)
set_option maxRecDepth 20000 in
/-- rhizome/query.name -/
theorem name_fn (l : Lab) : Ct Try.prog 52 [BsT l] ([]) Unit (fun _ => BoolT (nameB l)) (fun _ => []) (fun _ => True) := by
  refine fn_intro Try.func52 rfl rfl ?_
  intro H w
  refine tr_seq ?_
  -- region 0
  refine tr_env (es_cons (t := 0) (OT.tmp rfl) es_nil) ?_
  refine tr_region ?_
  refine op_pure (pu_assign OT.const) rfl rfl ?_
  refine tr_nil ?_
  refine then_normal ?_
  refine tr_seq ?_
  -- region 1
  refine tr_env (es_cons (t := 0) (OT.tmp rfl) es_nil) ?_
  refine tr_region ?_
  refine op_pure (pu_move (OT.tmp rfl)) rfl rfl ?_
  refine op_pure (pu_len_bs Try.underlying9 (OT.tmp rfl)) rfl rfl ?_
  refine op_pure (pu_geq (OT.tmp rfl) OT.const) rfl rfl ?_
  refine op_pure (pu_move (OT.tmp rfl)) rfl rfl ?_
  refine op_gu rfl rfl rfl (OT.gu_mk (OT.tmp rfl)) (fun hg => by (have hg1 := hg.2; (try simp only [decide_eq_true_eq, decide_eq_false_iff_not] at hg1); exact pu_move (by exact OT.tmp rfl))) rfl ?_
  refine op_gu rfl rfl rfl (OT.gu_mk (OT.tmp rfl)) (fun hg => by (have hg1 := hg.2; (try simp only [decide_eq_true_eq, decide_eq_false_iff_not] at hg1); exact pu_len_bs Try.underlying9 (by exact OT.gu (OT.tmp rfl) hg))) rfl ?_
  refine op_gu rfl rfl rfl (OT.gu_mk (OT.tmp rfl)) (fun hg => by (have hg1 := hg.2; (try simp only [decide_eq_true_eq, decide_eq_false_iff_not] at hg1); exact pu_leq (by exact OT.gu (OT.tmp rfl) hg) OT.const)) rfl ?_
  refine op_pure (pu_pick_and (OT.tmp rfl) (by exact OT.tmp rfl)) rfl rfl ?_
  refine op_pure (pu_move (OT.tmp rfl)) rfl rfl ?_
  refine op_gu rfl rfl rfl (OT.gu_mk (OT.tmp rfl)) (fun hg => by (have hg1 := hg.2; (try simp only [decide_eq_true_eq, decide_eq_false_iff_not] at hg1); exact pu_move (by exact OT.tmp rfl))) rfl ?_
  refine op_gu_acts () rfl rfl rfl (OT.gu_mk (OT.tmp rfl)) (fun hg => by (have hg1 := hg.2; (try simp only [decide_eq_true_eq, decide_eq_false_iff_not] at hg1); exact acts_callM (Contains_ct (K0 := noK) (n0 := 0) _) mk_none (show enters Try.prog 59 = true from by decide +kernel) (OTs.cons (by exact OT.gu (OT.tmp rfl) hg) (OTs.cons OT.func OTs.nil)) (List.Perm.refl _))) rfl (fun _ _ => ?_)
  refine op_gu rfl rfl rfl (OT.gu_mk (OT.tmp rfl)) (fun hg => by (have hg1 := hg.2; (try simp only [decide_eq_true_eq, decide_eq_false_iff_not] at hg1); exact pu_not (by exact OT.gu (OT.tmp rfl) hg))) rfl ?_
  refine op_pure (pu_pick_and (OT.tmp rfl) (by exact OT.tmp rfl)) rfl rfl ?_
  refine op_pure (pu_assign (OT.tmp rfl)) rfl rfl ?_
  refine tr_nil ?_
  refine then_normal ?_
  refine tr_ret ?_
  exact ret_one .ret (.inl rfl) rfl () (OT.val (OT.tmp rfl) (congrArg Value.bool (name_expr l))) trivial (by exact picks_nil)
set_option maxRecDepth 20000 in
/-- rhizome/rhizomeref01.Ints -/
theorem Ints_fn (xs ys : List Int) (hm : xs.length ≤ maxLen) : Ct Try.prog 12 [SlT kI xs, SlT kI ys] ([]) Unit (fun _ => BoolT (decide (xs = ys))) (fun _ => []) (fun _ => True) := by
  refine fn_intro Try.func12 rfl rfl ?_
  intro H w
  unfold maxLen at hm
  refine tr_seq ?_
  -- region 0
  refine tr_env (es_cons (t := 0) (OT.tmp rfl) (es_cons (t := 1) (OT.tmp rfl) es_nil)) ?_
  refine tr_region ?_
  refine op_pure (pu_assign OT.const) rfl rfl ?_
  refine tr_nil ?_
  refine then_normal ?_
  refine tr_seq ?_
  refine tr_seq ?_
  -- region 1
  refine tr_env (es_cons (t := 0) (OT.tmp rfl) (es_cons (t := 1) (OT.tmp rfl) es_nil)) ?_
  refine tr_region ?_
  refine op_pure (pu_move (OT.tmp rfl)) rfl rfl ?_
  refine op_pure (pu_len_sl (OT.tmp rfl) Try.underlying36) rfl rfl ?_
  refine op_pure (pu_move (OT.tmp rfl)) rfl rfl ?_
  refine op_pure (pu_len_sl (OT.tmp rfl) Try.underlying36) rfl rfl ?_
  refine op_pure (pu_neq (OT.tmp rfl) (OT.tmp rfl)) rfl rfl ?_
  refine tr_nil ?_
  refine then_normal ?_
  refine tr_cond (OT.tmp rfl) (fun c10 => ?_) (fun c10 => ?_)
  · try simp only [decide_eq_true_eq, decide_eq_false_iff_not, Bool.or_eq_true, Bool.and_eq_true, Bool.or_eq_false_iff, Bool.and_eq_false_iff, Bool.not_eq_true', Bool.not_eq_false', ne_eq, Classical.not_not] at c10
    refine tr_seq ?_
    -- region 2
    refine tr_env es_nil ?_
    refine tr_region ?_
    refine op_pure (pu_assign OT.const) rfl rfl ?_
    refine tr_nil ?_
    refine then_normal ?_
    refine tr_ret ?_
    refine then_ret ?_
    exact ret_one .ret (.inl rfl) rfl () (OT.val (OT.tmp rfl) (congrArg Value.bool (decide_eq_false (by rintro rfl; exact c10 rfl)).symm)) trivial (by exact picks_nil)
  · try simp only [decide_eq_true_eq, decide_eq_false_iff_not, Bool.or_eq_true, Bool.and_eq_true, Bool.or_eq_false_iff, Bool.and_eq_false_iff, Bool.not_eq_true', Bool.not_eq_false', ne_eq, Classical.not_not] at c10
    refine tr_skip ?_
    refine then_normal ?_
    refine tr_seq ?_
    refine tr_seq ?_
    -- region 3
    refine tr_env (es_cons (t := 0) (OT.tmp rfl) (es_cons (t := 1) (OT.tmp rfl) es_nil)) ?_
    refine tr_region ?_
    refine op_pure (pu_move (OT.tmp rfl)) rfl rfl ?_
    refine op_pure (pu_len_sl (OT.tmp rfl) Try.underlying36) rfl rfl ?_
    refine op_pure (pu_move OT.const) rfl rfl ?_
    refine tr_nil ?_
    refine then_normal ?_
    refine tr_block ?_
    refine tr_loopK (σ := Nat) (es_cons (t := 0) (OT.tmp rfl) (es_cons (t := 1) (OT.tmp rfl) (es_cons (t := 12) (OT.tmp rfl) es_nil))) (fun k => [(13, I64 (k : Int))]) (fun k => []) (fun k => k ≤ xs.length ∧ ∀ j, j < k → xs[j]? = ys[j]?) (fun k => xs.length - k) 0 ⟨by omega, fun j hj => by omega⟩ ?_ (own_picks (by exact picks_nil)) ?_
    · exact (es_cons (t := 13) (by exact OT.tmp rfl) es_nil)
    · rintro k ⟨hk, hn⟩
      refine tr_seq ?_
      -- region 4
      refine tr_env (es_cons (t := 0) (OT.tmp rfl) (es_cons (t := 1) (OT.tmp rfl) (es_cons (t := 12) (OT.tmp rfl) (es_cons (t := 13) (OT.tmp rfl) es_nil)))) ?_
      refine tr_region ?_
      refine op_pure (pu_lss (OT.tmp rfl) (OT.tmp rfl)) rfl rfl ?_
      refine tr_nil ?_
      refine then_normal ?_
      refine tr_seq ?_
      refine tr_cond (OT.tmp rfl) (fun c14 => ?_) (fun c14 => ?_)
      · try simp only [decide_eq_true_eq, decide_eq_false_iff_not, Bool.or_eq_true, Bool.and_eq_true, Bool.or_eq_false_iff, Bool.and_eq_false_iff, Bool.not_eq_true', Bool.not_eq_false', ne_eq, Classical.not_not] at c14
        refine tr_skip ?_
        refine then_normal ?_
        refine tr_seq ?_
        refine tr_block ?_
        refine tr_seq ?_
        -- region 5
        refine tr_env (es_cons (t := 0) (OT.tmp rfl) (es_cons (t := 1) (OT.tmp rfl) (es_cons (t := 12) (OT.tmp rfl) (es_cons (t := 13) (OT.tmp rfl) es_nil)))) ?_
        refine tr_region ?_
        refine op_pure (pu_move (OT.tmp rfl)) rfl rfl ?_
        refine op_pure (pu_assign (OT.tmp rfl)) rfl rfl ?_
        refine tr_nil ?_
        refine then_normal ?_
        refine tr_seq ?_
        -- region 6
        refine tr_env (es_cons (t := 0) (OT.tmp rfl) (es_cons (t := 1) (OT.tmp rfl) (es_cons (t := 5) (OT.tmp rfl) (es_cons (t := 12) (OT.tmp rfl) (es_cons (t := 13) (OT.tmp rfl) es_nil))))) ?_
        apply tr_any (m := 8) (ns := [[(0, none)], [(5, none)], [(16, some 0), (17, some 1)], [(18, some 2)], [(1, none)], [(5, none)], [(20, some 4), (21, some 5)], [(22, some 6)]]) (by kernel_rfl) (by kernel_rfl) (Ts := [_, _, _, _, _, _, _, _]) rfl
        case hops =>
          refine ⟨?_, ⟨?_, ⟨?_, ⟨?_, ⟨?_, ⟨?_, ⟨?_, ⟨?_, trivial⟩⟩⟩⟩⟩⟩⟩⟩
          · exact rop_pure rfl (pu_move (OT.tmp rfl))
          · exact rop_pure rfl (pu_move (OT.tmp rfl))
          · exact rop_pure rfl (pu_index (OT.tmp rfl) (OT.tmp rfl) Try.underlying36 (show tyOk Try.prog 3 false 1 = true from by decide +kernel) (by omega) (by omega))
          · exact rop_pure rfl (pu_load (OT.tmp rfl) (show tyOk Try.prog 3 false 1 = true from by decide +kernel))
          · exact rop_pure rfl (pu_move (OT.tmp rfl))
          · exact rop_pure rfl (pu_move (OT.tmp rfl))
          · exact rop_pure rfl (pu_index (OT.tmp rfl) (OT.tmp rfl) Try.underlying36 (show tyOk Try.prog 3 false 1 = true from by decide +kernel) (by omega) (by omega))
          · exact rop_pure rfl (pu_load (OT.tmp rfl) (show tyOk Try.prog 3 false 1 = true from by decide +kernel))
        case h =>
          refine op_pure (pu_neq (OT.tmp rfl) (OT.tmp rfl)) rfl rfl ?_
          refine tr_nil ?_
          refine then_normal ?_
          refine tr_cond (OT.tmp rfl) (fun c24 => ?_) (fun c24 => ?_)
          · try simp only [decide_eq_true_eq, decide_eq_false_iff_not, Bool.or_eq_true, Bool.and_eq_true, Bool.or_eq_false_iff, Bool.and_eq_false_iff, Bool.not_eq_true', Bool.not_eq_false', ne_eq, Classical.not_not] at c24
            refine tr_seq ?_
            -- region 7
            refine tr_env es_nil ?_
            refine tr_region ?_
            refine op_pure (pu_assign OT.const) rfl rfl ?_
            refine tr_nil ?_
            refine then_normal ?_
            refine tr_ret ?_
            refine block_ret ?_
            refine then_ret ?_
            refine then_ret ?_
            refine block_ret ?_
            refine then_ret ?_
            exact ret_one .ret (.inl rfl) rfl () (OT.val (OT.tmp rfl) (congrArg Value.bool (decide_eq_false (by rintro rfl; exact c24 rfl)).symm)) trivial (by exact picks_nil)
          · try simp only [decide_eq_true_eq, decide_eq_false_iff_not, Bool.or_eq_true, Bool.and_eq_true, Bool.or_eq_false_iff, Bool.and_eq_false_iff, Bool.not_eq_true', Bool.not_eq_false', ne_eq, Classical.not_not] at c24
            refine tr_skip ?_
            refine block_normal ?_
            refine then_normal ?_
            -- region 8
            refine tr_env (es_cons (t := 0) (OT.tmp rfl) (es_cons (t := 1) (OT.tmp rfl) (es_cons (t := 12) (OT.tmp rfl) (es_cons (t := 13) (OT.tmp rfl) es_nil)))) ?_
            refine tr_region ?_
            refine op_pure (pu_add' (OT.tmp rfl) OT.const (by omega)) rfl rfl ?_
            refine op_pure (pu_move (OT.tmp rfl)) rfl rfl ?_
            refine tr_nil ?_
            refine then_normal ?_
            exact tr_again (k + 1) ⟨by omega, fun j hjk => by rcases Nat.lt_or_ge j k with h | h; exact hn j h; (obtain rfl : j = k := by omega); rw [at'_nat (by omega), at'_nat (by omega)] at c24; rw [List.getElem?_eq_getElem (by omega), List.getElem?_eq_getElem (by omega), c24]⟩ (by omega) (es_append (es_cons (t := 13) (by exact OT.tmp rfl) es_nil) (es_cons (t := 0) (OT.tmp rfl) (es_cons (t := 1) (OT.tmp rfl) (es_cons (t := 12) (OT.tmp rfl) es_nil)))) (own_picks (by exact picks_nil))
      · try simp only [decide_eq_true_eq, decide_eq_false_iff_not, Bool.or_eq_true, Bool.and_eq_true, Bool.or_eq_false_iff, Bool.and_eq_false_iff, Bool.not_eq_true', Bool.not_eq_false', ne_eq, Classical.not_not] at c14
        refine tr_exit ?_
        refine then_exit ?_
        refine then_exit ?_
        refine block_hit ?_
        refine then_normal ?_
        refine tr_seq ?_
        -- region 9
        refine tr_env es_nil ?_
        refine tr_region ?_
        refine op_pure (pu_assign OT.const) rfl rfl ?_
        refine tr_nil ?_
        refine then_normal ?_
        refine tr_ret ?_
        exact ret_one .ret (.inl rfl) rfl () (OT.val (OT.tmp rfl) (congrArg Value.bool (decide_eq_true (by apply List.ext_getElem?; intro j; rcases Nat.lt_or_ge j k with h | h; exact hn j h; rw [List.getElem?_eq_none (by omega), List.getElem?_eq_none (by omega)])).symm)) trivial (by exact picks_nil)
end Go.Proofs.Ytakkjljhjfkkbaa
/- Walks through the Go functions query.Vars, rhizomeref09.Vars, as typed contracts. -/
namespace Go.Proofs.Ytakkjljhjfkkbaa
open Go Go.Gw Go.So Go.Tu Go.Jn
set_option linter.unusedVariables false
set_option linter.unusedSimpArgs false

set_option maxRecDepth 20000 in
/-- rhizome/query.Vars -/
theorem Vars_fn (v : Vw) (hv : v.2.2.2.1.length ≤ 1000) : Ct Try.prog 18 [kV.T v] ([]) Unit (fun _ => SlT kS (varsL v.2.2.2.1)) (fun _ => []) (fun _ => True) := by
  refine fn_intro Try.func18 rfl rfl ?_
  intro H w
  refine tr_seq ?_
  -- region 0
  refine tr_env (es_cons (t := 0) (OT.tmp rfl) es_nil) ?_
  refine tr_region ?_
  refine op_acts (acts_box (d := kV) (OT.tmp rfl)) (List.Perm.refl _) rfl rfl (fun g0_0 _ => ?_)
  refine op_pure (pu_assign OT.const) rfl rfl ?_
  refine tr_nil ?_
  refine then_normal ?_
  refine tr_seq ?_
  -- region 1
  refine tr_env (es_cons (t := 1) (OT.tmp rfl) es_nil) ?_
  refine tr_region ?_
  refine op_pure (pu_assign OT.const) rfl rfl ?_
  refine tr_nil ?_
  refine then_normal ?_
  refine tr_seq ?_
  refine tr_seq ?_
  -- region 2
  refine tr_env (es_cons (t := 1) (OT.tmp rfl) (es_cons (t := 3) (OT.tmp rfl) es_nil)) ?_
  refine tr_nilItem 9 kS ?_
  refine tr_region ?_
  refine op_pure (pu_faddr (OT.tmp rfl) (show fieldOk Try.prog 25 3 3 false 1 = true from by decide +kernel)) rfl rfl ?_
  refine op_pure (pu_load_blk (OT.tmp rfl) (by exact mem_at 1 rfl) lv3 (show tyOk Try.prog 23 false 1 = true from by decide +kernel)) rfl rfl ?_
  refine op_pure (pu_len_sl (OT.tmp rfl) Try.underlying23) rfl rfl ?_
  refine op_pure (pu_move OT.const) rfl rfl ?_
  refine tr_nil ?_
  refine then_normal ?_
  refine tr_block ?_
  refine tr_loopK (σ := Nat × Value) (es_cons (t := 9) (OT.tmp rfl) (es_cons (t := 10) (OT.tmp rfl) es_nil)) (fun s => [(11, I64 (s.1 : Int)), (3, IsV s.2)]) (fun s => [OwnI 9 kS s.2 (varsL (v.2.2.2.1.take s.1)), BlkI g0_0 25 kV v]) (fun s => s.1 ≤ v.2.2.2.1.length) (fun s => v.2.2.2.1.length - s.1) (0, nilS) (Nat.zero_le _) ?_ (own_picks (by repeat (first | exact picks_nil | refine picks_cons 0 rfl ?_ | refine picks_cons 1 rfl ?_ | refine picks_cons 2 rfl ?_ | refine picks_cons 3 rfl ?_ | refine picks_cons 4 rfl ?_ | refine picks_cons 5 rfl ?_ | refine picks_cons 6 rfl ?_))) ?_
  · exact (es_cons (t := 11) (by exact OT.tmp rfl) (es_cons (t := 3) (by exact OT.tmp rfl) es_nil))
  · rintro ⟨k, vo⟩ hk
    dsimp only at hk ⊢
    refine tr_seq ?_
    -- region 3
    refine tr_env (es_cons (t := 3) (OT.tmp rfl) (es_cons (t := 9) (OT.tmp rfl) (es_cons (t := 10) (OT.tmp rfl) (es_cons (t := 11) (OT.tmp rfl) es_nil)))) ?_
    refine tr_region ?_
    refine op_pure (pu_lss (OT.tmp rfl) (OT.tmp rfl)) rfl rfl ?_
    refine tr_nil ?_
    refine then_normal ?_
    refine tr_seq ?_
    refine tr_cond (OT.tmp rfl) (fun c12 => ?_) (fun c12 => ?_)
    · try simp only [decide_eq_true_eq, decide_eq_false_iff_not, Bool.or_eq_true, Bool.and_eq_true, Bool.or_eq_false_iff, Bool.and_eq_false_iff, Bool.not_eq_true', Bool.not_eq_false', ne_eq, Classical.not_not] at c12
      refine tr_skip ?_
      refine then_normal ?_
      refine tr_seq ?_
      refine tr_block ?_
      refine tr_seq ?_
      -- region 4
      refine tr_env (es_cons (t := 3) (OT.tmp rfl) (es_cons (t := 9) (OT.tmp rfl) (es_cons (t := 10) (OT.tmp rfl) (es_cons (t := 11) (OT.tmp rfl) es_nil)))) ?_
      obtain ⟨a, ha⟩ : ∃ a, at' v.2.2.2.1 (k : Int) = a := ⟨_, rfl⟩
      have hsn := varsL_at (k := k) (show k < v.2.2.2.1.length by omega)
      have hvl := varsL_len (v.2.2.2.1.take k)
      rw [List.length_take] at hvl
      rw [ha] at hsn
      refine tr_region ?_
      refine op_pure (pu_index (OT.tmp rfl) (OT.tmp rfl) Try.underlying23 (show tyOk Try.prog 31 true 3 = true from by decide +kernel) (by omega) (by omega)) rfl rfl ?_
      refine op_pure (pu_load (OT.tmp rfl) (show tyOk Try.prog 31 true 3 = true from by decide +kernel)) rfl rfl ?_
      refine op_acts (acts_alloc (zA)) (List.Perm.refl _) rfl rfl (fun g4_2 _ => ?_)
      refine op_acts (acts_store_var (OT.tmp rfl) (OT.tmp rfl) (by exact perm_at 0 rfl) (show tyOk Try.prog 31 true 3 = true from by decide +kernel)) (by exact perm_at 0 rfl) rfl rfl (fun _ _ => ?_)
      refine tr_nil ?_
      refine then_normal ?_
      refine tr_seq ?_
      -- region 5
      refine tr_env (es_cons (t := 3) (OT.tmp rfl) (es_cons (t := 5) (OT.tmp rfl) (es_cons (t := 9) (OT.tmp rfl) (es_cons (t := 10) (OT.tmp rfl) (es_cons (t := 11) (OT.tmp rfl) es_nil))))) ?_
      rw [ha]
      refine tr_region ?_
      refine op_pure (pu_faddr (OT.tmp rfl) (show fieldOk Try.prog 31 0 0 false 1 = true from by decide +kernel)) rfl rfl ?_
      refine op_pure (pu_load_blk (OT.tmp rfl) (by exact mem_at 0 rfl) la0 (show tyOk Try.prog 9 false 1 = true from by decide +kernel)) rfl rfl ?_
      refine op_pure (pu_faddr (OT.tmp rfl) (show fieldOk Try.prog 31 2 2 false 1 = true from by decide +kernel)) rfl rfl ?_
      refine op_pure (pu_load_blk (OT.tmp rfl) (by exact mem_at 0 rfl) la2 (show tyOk Try.prog 9 false 1 = true from by decide +kernel)) rfl rfl ?_
      refine op_acts (acts_lit (d := kS) (v0 := []) (show slTy Try.prog 22 9 1 16 = true from by decide +kernel) (show tyOk Try.prog 9 false 1 = true from by decide +kernel) zS (show 2 * 1 ≤ 16777216 from by decide) (by decide) (fills_arr rfl rfl (by decide) (OT.tmp rfl) (fills_arr rfl rfl (by decide) (OT.tmp rfl) fills_nil))) (List.Perm.refl _) rfl rfl (fun _ _ => ?_)
      refine op_pure (pu_len_sl (OT.tmp rfl) Try.underlying22) rfl rfl ?_
      refine op_pure (pu_move OT.const) rfl rfl ?_
      refine tr_nil ?_
      refine tr_as 19 (T := SlT kS [a.1, a.2.2]) (OT.tmp rfl) (tr_as 20 (T := I64 2) (OT.tmp rfl) ?_)
      refine then_normal ?_
      refine tr_block ?_
      refine tr_loopK (σ := Nat × Value) (es_cons (t := 9) (OT.tmp rfl) (es_cons (t := 10) (OT.tmp rfl) (es_cons (t := 11) (OT.tmp rfl) (es_cons (t := 19) (OT.tmp rfl) (es_cons (t := 20) (OT.tmp rfl) es_nil))))) (fun s => [(21, I64 (s.1 : Int)), (3, IsV s.2)]) (fun s => [OwnI 9 kS s.2 (addsV (varsL (v.2.2.2.1.take k)) a s.1), BlkI g0_0 25 kV v]) (fun s => s.1 ≤ 2) (fun s => 2 - s.1) (0, vo) (Nat.zero_le _) ?_ (own_picks (by repeat (first | exact picks_nil | refine picks_cons 0 rfl ?_ | refine picks_cons 1 rfl ?_ | refine picks_cons 2 rfl ?_ | refine picks_cons 3 rfl ?_ | refine picks_cons 4 rfl ?_ | refine picks_cons 5 rfl ?_ | refine picks_cons 6 rfl ?_))) ?_
      · exact (es_cons (t := 21) (by exact OT.tmp rfl) (es_cons (t := 3) (by exact OT.tmp rfl) es_nil))
      · rintro ⟨j, vo2⟩ hj
        dsimp only at hj ⊢
        refine tr_seq ?_
        -- region 6
        refine tr_env (es_cons (t := 3) (OT.tmp rfl) (es_cons (t := 9) (OT.tmp rfl) (es_cons (t := 10) (OT.tmp rfl) (es_cons (t := 11) (OT.tmp rfl) (es_cons (t := 19) (OT.tmp rfl) (es_cons (t := 20) (OT.tmp rfl) (es_cons (t := 21) (OT.tmp rfl) es_nil))))))) ?_
        refine tr_region ?_
        refine op_pure (pu_lss (OT.tmp rfl) (OT.tmp rfl)) rfl rfl ?_
        refine tr_nil ?_
        refine then_normal ?_
        refine tr_seq ?_
        refine tr_cond (OT.tmp rfl) (fun c22 => ?_) (fun c22 => ?_)
        · try simp only [decide_eq_true_eq, decide_eq_false_iff_not, Bool.or_eq_true, Bool.and_eq_true, Bool.or_eq_false_iff, Bool.and_eq_false_iff, Bool.not_eq_true', Bool.not_eq_false', ne_eq, Classical.not_not] at c22
          refine tr_skip ?_
          refine then_normal ?_
          refine tr_seq ?_
          refine tr_block ?_
          refine tr_seq ?_
          -- region 7
          refine tr_env (es_cons (t := 3) (OT.tmp rfl) (es_cons (t := 9) (OT.tmp rfl) (es_cons (t := 10) (OT.tmp rfl) (es_cons (t := 11) (OT.tmp rfl) (es_cons (t := 19) (OT.tmp rfl) (es_cons (t := 20) (OT.tmp rfl) (es_cons (t := 21) (OT.tmp rfl) es_nil))))))) ?_
          obtain ⟨x, hx⟩ : ∃ x, at' [a.1, a.2.2] (j : Int) = x := ⟨_, rfl⟩
          obtain ⟨out, ho⟩ : ∃ o, addsV (varsL (v.2.2.2.1.take k)) a j = o := ⟨_, rfl⟩
          have hol := addsV_len (varsL (v.2.2.2.1.take k)) a j
          have hst := addsV_step (varsL (v.2.2.2.1.take k)) a (j := j) (by show j < 2; omega)
          rw [hx, ho] at hst
          rw [ho] at hol
          rw [ho]
          refine tr_region ?_
          refine op_pure (pu_index (OT.tmp rfl) (OT.tmp rfl) Try.underlying22 (show tyOk Try.prog 9 false 1 = true from by decide +kernel) (by omega) (by omega)) rfl rfl ?_
          refine op_pure (pu_load (OT.tmp rfl) (show tyOk Try.prog 9 false 1 = true from by decide +kernel)) rfl rfl ?_
          refine op_pure (pu_assign (OT.tmp rfl)) rfl rfl ?_
          refine tr_nil ?_
          refine then_normal ?_
          refine tr_seq ?_
          -- region 8
          refine tr_env (es_cons (t := 3) (OT.tmp rfl) (es_cons (t := 7) (OT.tmp rfl) (es_cons (t := 9) (OT.tmp rfl) (es_cons (t := 10) (OT.tmp rfl) (es_cons (t := 11) (OT.tmp rfl) (es_cons (t := 19) (OT.tmp rfl) (es_cons (t := 20) (OT.tmp rfl) (es_cons (t := 21) (OT.tmp rfl) es_nil)))))))) ?_
          rw [hx]
          refine tr_region ?_
          refine op_pure (pu_move (OT.tmp rfl)) rfl rfl ?_
          refine op_pure (pu_move (OT.tmp rfl)) rfl rfl ?_
          refine op_acts (acts_call (Ct.lend_hd (ContainsS_fn out x (by omega)) flat_bool) (show enters Try.prog 30 = true from by decide +kernel) (OTs.cons (OT.tmp rfl) (OTs.cons (OT.tmp rfl) OTs.nil)) (by exact perm_at 0 rfl)) (by exact perm_at 0 rfl) rfl rfl (fun _ _ => ?_)
          refine op_pure (pu_not (OT.tmp rfl)) rfl rfl ?_
          refine tr_nil ?_
          refine then_normal ?_
          refine tr_cond (OT.tmp rfl) (fun c28 => ?_) (fun c28 => ?_)
          · try simp only [decide_eq_true_eq, decide_eq_false_iff_not, Bool.or_eq_true, Bool.and_eq_true, Bool.or_eq_false_iff, Bool.and_eq_false_iff, Bool.not_eq_true', Bool.not_eq_false', ne_eq, Classical.not_not] at c28
            rw [addV, if_neg (by simpa using c28)] at hst
            -- region 9
            refine tr_env (es_cons (t := 3) (OT.tmp rfl) (es_cons (t := 7) (OT.tmp rfl) (es_cons (t := 9) (OT.tmp rfl) (es_cons (t := 10) (OT.tmp rfl) (es_cons (t := 11) (OT.tmp rfl) (es_cons (t := 19) (OT.tmp rfl) (es_cons (t := 20) (OT.tmp rfl) (es_cons (t := 21) (OT.tmp rfl) es_nil)))))))) ?_
            refine tr_region ?_
            refine op_pure (pu_move (OT.tmp rfl)) rfl rfl ?_
            refine op_pure (pu_move (OT.tmp rfl)) rfl rfl ?_
            refine op_acts (acts_lit (d := kS) (v0 := []) (show slTy Try.prog 22 9 1 16 = true from by decide +kernel) (show tyOk Try.prog 9 false 1 = true from by decide +kernel) zS (show 1 * 1 ≤ 16777216 from by decide) (by decide) (fills_arr rfl rfl (by decide) (OT.tmp rfl) fills_nil)) (List.Perm.refl _) rfl rfl (fun _ _ => ?_)
            refine op_acts (acts_append (OT.tmp rfl) (by exact perm_at 0 rfl) (OT.tmp rfl) (show slTy Try.prog 22 9 1 16 = true from by decide +kernel) (by (simp; omega)) (by (simp [maxLen]; omega))) (by exact perm_at 0 rfl) rfl rfl (fun v9_3 _ => ?_)
            refine op_pure (pu_assign (OT.tmp rfl)) rfl rfl ?_
            refine tr_nil ?_
            refine block_normal ?_
            refine then_normal ?_
            -- region 10
            refine tr_env (es_cons (t := 3) (OT.tmp rfl) (es_cons (t := 9) (OT.tmp rfl) (es_cons (t := 10) (OT.tmp rfl) (es_cons (t := 11) (OT.tmp rfl) (es_cons (t := 19) (OT.tmp rfl) (es_cons (t := 20) (OT.tmp rfl) (es_cons (t := 21) (OT.tmp rfl) es_nil))))))) ?_
            refine tr_region ?_
            refine op_pure (pu_add' (OT.tmp rfl) OT.const (by omega)) rfl rfl ?_
            refine op_pure (pu_move (OT.tmp rfl)) rfl rfl ?_
            refine tr_nil ?_
            refine then_normal ?_
            exact tr_again (j + 1, v9_3) (by show j + 1 ≤ 2; omega) (by show 2 - (j + 1) < 2 - j; omega) (es_append (es_cons (t := 21) (by exact OT.tmp rfl) (es_cons (t := 3) (by exact OT.tmp rfl) es_nil)) (es_cons (t := 9) (OT.tmp rfl) (es_cons (t := 10) (OT.tmp rfl) (es_cons (t := 11) (OT.tmp rfl) (es_cons (t := 19) (OT.tmp rfl) (es_cons (t := 20) (OT.tmp rfl) es_nil)))))) (own_picks (by rw [hst]; exact (by repeat (first | exact picks_nil | refine picks_cons 0 rfl ?_ | refine picks_cons 1 rfl ?_ | refine picks_cons 2 rfl ?_ | refine picks_cons 3 rfl ?_ | refine picks_cons 4 rfl ?_ | refine picks_cons 5 rfl ?_ | refine picks_cons 6 rfl ?_))))
          · try simp only [decide_eq_true_eq, decide_eq_false_iff_not, Bool.or_eq_true, Bool.and_eq_true, Bool.or_eq_false_iff, Bool.and_eq_false_iff, Bool.not_eq_true', Bool.not_eq_false', ne_eq, Classical.not_not] at c28
            rw [addV, if_pos (by simpa using c28)] at hst
            refine tr_skip ?_
            refine block_normal ?_
            refine then_normal ?_
            -- region 10
            refine tr_env (es_cons (t := 3) (OT.tmp rfl) (es_cons (t := 9) (OT.tmp rfl) (es_cons (t := 10) (OT.tmp rfl) (es_cons (t := 11) (OT.tmp rfl) (es_cons (t := 19) (OT.tmp rfl) (es_cons (t := 20) (OT.tmp rfl) (es_cons (t := 21) (OT.tmp rfl) es_nil))))))) ?_
            refine tr_region ?_
            refine op_pure (pu_add' (OT.tmp rfl) OT.const (by omega)) rfl rfl ?_
            refine op_pure (pu_move (OT.tmp rfl)) rfl rfl ?_
            refine tr_nil ?_
            refine then_normal ?_
            exact tr_again (j + 1, vo2) (by show j + 1 ≤ 2; omega) (by show 2 - (j + 1) < 2 - j; omega) (es_append (es_cons (t := 21) (by exact OT.tmp rfl) (es_cons (t := 3) (by exact OT.tmp rfl) es_nil)) (es_cons (t := 9) (OT.tmp rfl) (es_cons (t := 10) (OT.tmp rfl) (es_cons (t := 11) (OT.tmp rfl) (es_cons (t := 19) (OT.tmp rfl) (es_cons (t := 20) (OT.tmp rfl) es_nil)))))) (own_picks (by rw [hst]; exact (by repeat (first | exact picks_nil | refine picks_cons 0 rfl ?_ | refine picks_cons 1 rfl ?_ | refine picks_cons 2 rfl ?_ | refine picks_cons 3 rfl ?_ | refine picks_cons 4 rfl ?_ | refine picks_cons 5 rfl ?_ | refine picks_cons 6 rfl ?_))))
        · try simp only [decide_eq_true_eq, decide_eq_false_iff_not, Bool.or_eq_true, Bool.and_eq_true, Bool.or_eq_false_iff, Bool.and_eq_false_iff, Bool.not_eq_true', Bool.not_eq_false', ne_eq, Classical.not_not] at c22
          refine tr_exit ?_
          refine then_exit ?_
          refine then_exit ?_
          refine block_hit ?_
          refine block_normal ?_
          refine then_normal ?_
          -- region 11
          refine tr_env (es_cons (t := 3) (OT.tmp rfl) (es_cons (t := 9) (OT.tmp rfl) (es_cons (t := 10) (OT.tmp rfl) (es_cons (t := 11) (OT.tmp rfl) es_nil)))) ?_
          obtain rfl : j = 2 := by omega
          have hend : addsV (varsL (v.2.2.2.1.take k)) a 2 = varsL (v.2.2.2.1.take (k + 1)) := hsn.symm
          refine tr_region ?_
          refine op_pure (pu_add' (OT.tmp rfl) OT.const (by omega)) rfl rfl ?_
          refine op_pure (pu_move (OT.tmp rfl)) rfl rfl ?_
          refine tr_nil ?_
          refine then_normal ?_
          exact tr_again (k + 1, vo2) (by show k + 1 ≤ v.2.2.2.1.length; omega) (by omega) (es_append (es_cons (t := 11) (by exact OT.tmp rfl) (es_cons (t := 3) (by exact OT.tmp rfl) es_nil)) (es_cons (t := 9) (OT.tmp rfl) (es_cons (t := 10) (OT.tmp rfl) es_nil))) (own_picks (by rw [← hend]; exact (by repeat (first | exact picks_nil | refine picks_cons 0 rfl ?_ | refine picks_cons 1 rfl ?_ | refine picks_cons 2 rfl ?_ | refine picks_cons 3 rfl ?_ | refine picks_cons 4 rfl ?_ | refine picks_cons 5 rfl ?_ | refine picks_cons 6 rfl ?_))))
    · try simp only [decide_eq_true_eq, decide_eq_false_iff_not, Bool.or_eq_true, Bool.and_eq_true, Bool.or_eq_false_iff, Bool.and_eq_false_iff, Bool.not_eq_true', Bool.not_eq_false', ne_eq, Classical.not_not] at c12
      refine tr_exit ?_
      refine then_exit ?_
      refine then_exit ?_
      refine block_hit ?_
      refine then_normal ?_
      refine tr_seq ?_
      -- region 12
      refine tr_env (es_cons (t := 3) (OT.tmp rfl) es_nil) ?_
      obtain rfl : k = v.2.2.2.1.length := by omega
      rw [List.take_length]
      refine tr_freeze (by exact perm_at 0 rfl) 3 (OT.tmp rfl) ?_
      refine tr_region ?_
      refine op_pure (pu_move (OT.tmp rfl)) rfl rfl ?_
      refine op_pure (pu_assign (OT.tmp rfl)) rfl rfl ?_
      refine tr_nil ?_
      refine then_normal ?_
      refine tr_ret ?_
      exact ret_one .ret (.inl rfl) rfl () (OT.tmp rfl) trivial (by exact picks_nil)
set_option maxRecDepth 20000 in
/-- rhizome/rhizomeref09.Vars -/
theorem rVars_fn (v : Vw) (hv : v.2.2.2.1.length ≤ 1000) : Ct Try.prog 15 [kV.T v] ([]) Unit (fun _ => SlT kS (varsL v.2.2.2.1)) (fun _ => []) (fun _ => True) := by
  refine fn_intro Try.func15 rfl rfl ?_
  intro H w
  refine tr_seq ?_
  -- region 0
  refine tr_env (es_cons (t := 0) (OT.tmp rfl) es_nil) ?_
  refine tr_region ?_
  refine op_acts (acts_box (d := kV) (OT.tmp rfl)) (List.Perm.refl _) rfl rfl (fun g0_0 _ => ?_)
  refine op_pure (pu_assign OT.const) rfl rfl ?_
  refine tr_nil ?_
  refine then_normal ?_
  refine tr_seq ?_
  -- region 1
  refine tr_env (es_cons (t := 1) (OT.tmp rfl) es_nil) ?_
  refine tr_region ?_
  refine op_pure (pu_assign OT.const) rfl rfl ?_
  refine tr_nil ?_
  refine then_normal ?_
  refine tr_seq ?_
  refine tr_seq ?_
  -- region 2
  refine tr_env (es_cons (t := 1) (OT.tmp rfl) (es_cons (t := 3) (OT.tmp rfl) es_nil)) ?_
  refine tr_nilItem 9 kS ?_
  refine tr_region ?_
  refine op_pure (pu_faddr (OT.tmp rfl) (show fieldOk Try.prog 25 3 3 false 1 = true from by decide +kernel)) rfl rfl ?_
  refine op_pure (pu_load_blk (OT.tmp rfl) (by exact mem_at 1 rfl) lv3 (show tyOk Try.prog 23 false 1 = true from by decide +kernel)) rfl rfl ?_
  refine op_pure (pu_len_sl (OT.tmp rfl) Try.underlying23) rfl rfl ?_
  refine op_pure (pu_move OT.const) rfl rfl ?_
  refine tr_nil ?_
  refine then_normal ?_
  refine tr_block ?_
  refine tr_loopK (σ := Nat × Value) (es_cons (t := 1) (OT.tmp rfl) (es_cons (t := 7) (OT.tmp rfl) es_nil)) (fun s => [(8, I64 (s.1 : Int)), (3, IsV s.2)]) (fun s => [OwnI 9 kS s.2 (varsL (v.2.2.2.1.take s.1)), BlkI g0_0 25 kV v]) (fun s => s.1 ≤ v.2.2.2.1.length) (fun s => v.2.2.2.1.length - s.1) (0, nilS) (Nat.zero_le _) ?_ (own_picks (by repeat (first | exact picks_nil | refine picks_cons 0 rfl ?_ | refine picks_cons 1 rfl ?_ | refine picks_cons 2 rfl ?_ | refine picks_cons 3 rfl ?_ | refine picks_cons 4 rfl ?_ | refine picks_cons 5 rfl ?_ | refine picks_cons 6 rfl ?_))) ?_
  · exact (es_cons (t := 8) (by exact OT.tmp rfl) (es_cons (t := 3) (by exact OT.tmp rfl) es_nil))
  · rintro ⟨k, vo⟩ hk
    dsimp only at hk ⊢
    refine tr_seq ?_
    -- region 3
    refine tr_env (es_cons (t := 1) (OT.tmp rfl) (es_cons (t := 3) (OT.tmp rfl) (es_cons (t := 7) (OT.tmp rfl) (es_cons (t := 8) (OT.tmp rfl) es_nil)))) ?_
    refine tr_region ?_
    refine op_pure (pu_lss (OT.tmp rfl) (OT.tmp rfl)) rfl rfl ?_
    refine tr_nil ?_
    refine then_normal ?_
    refine tr_seq ?_
    refine tr_cond (OT.tmp rfl) (fun c9 => ?_) (fun c9 => ?_)
    · try simp only [decide_eq_true_eq, decide_eq_false_iff_not, Bool.or_eq_true, Bool.and_eq_true, Bool.or_eq_false_iff, Bool.and_eq_false_iff, Bool.not_eq_true', Bool.not_eq_false', ne_eq, Classical.not_not] at c9
      refine tr_skip ?_
      refine then_normal ?_
      refine tr_seq ?_
      refine tr_block ?_
      refine tr_seq ?_
      -- region 4
      refine tr_env (es_cons (t := 1) (OT.tmp rfl) (es_cons (t := 3) (OT.tmp rfl) (es_cons (t := 7) (OT.tmp rfl) (es_cons (t := 8) (OT.tmp rfl) es_nil)))) ?_
      obtain ⟨a, ha⟩ : ∃ a, at' v.2.2.2.1 (k : Int) = a := ⟨_, rfl⟩
      have hsn := varsL_at (k := k) (show k < v.2.2.2.1.length by omega)
      have hvl := varsL_len (v.2.2.2.1.take k)
      rw [List.length_take] at hvl
      rw [ha] at hsn
      refine tr_region ?_
      refine op_pure (pu_move (OT.tmp rfl)) rfl rfl ?_
      refine op_pure (pu_assign (OT.tmp rfl)) rfl rfl ?_
      refine tr_nil ?_
      refine then_normal ?_
      obtain ⟨out, ho⟩ : ∃ o, varsL (v.2.2.2.1.take k) = o := ⟨_, rfl⟩
      rw [ho] at hsn hvl
      rw [ho]
      have hl1 := addV_len (out := out) (x := a.1)
      have hl1b : (addV out a.1).length ≤ out.length + 1 := by rw [hl1]; split <;> omega
      refine tr_joinK (σ := Value) (es_cons (t := 1) (OT.tmp rfl) (es_cons (t := 4) (OT.tmp rfl) (es_cons (t := 7) (OT.tmp rfl) (es_cons (t := 8) (OT.tmp rfl) es_nil)))) (fun vo1 => [(3, IsV vo1)]) (fun vo1 => [OwnI 9 kS vo1 (addV out a.1), BlkI g0_0 25 kV v]) (fun vo1 => True) ?_ ?_
      · skip
        refine tr_seq ?_
        -- region 5
        refine tr_env (es_cons (t := 1) (OT.tmp rfl) (es_cons (t := 3) (OT.tmp rfl) (es_cons (t := 4) (OT.tmp rfl) (es_cons (t := 7) (OT.tmp rfl) (es_cons (t := 8) (OT.tmp rfl) es_nil))))) ?_
        refine tr_region ?_
        refine op_pure (pu_move (OT.tmp rfl)) rfl rfl ?_
        refine op_pure (pu_faddr (OT.tmp rfl) (show fieldOk Try.prog 25 3 3 false 1 = true from by decide +kernel)) rfl rfl ?_
        refine op_pure (pu_load_blk (OT.tmp rfl) (by exact mem_at 1 rfl) lv3 (show tyOk Try.prog 23 false 1 = true from by decide +kernel)) rfl rfl ?_
        refine op_pure (pu_move (OT.tmp rfl)) rfl rfl ?_
        refine op_pure (pu_index (OT.tmp rfl) (OT.tmp rfl) Try.underlying23 (show tyOk Try.prog 31 true 3 = true from by decide +kernel) (by omega) (by omega)) rfl rfl ?_
        refine op_pure (pu_faddr_at (OT.tmp rfl) la0 (show fieldOk Try.prog 31 0 0 false 1 = true from by decide +kernel)) rfl rfl ?_
        refine op_pure (pu_load (OT.tmp rfl) (show tyOk Try.prog 9 false 1 = true from by decide +kernel)) rfl rfl ?_
        rw [ha]
        refine op_acts (acts_call (Ct.lend_hd (rhas_fn out a.1 (by omega)) flat_bool) (show enters Try.prog 29 = true from by decide +kernel) (OTs.cons (OT.tmp rfl) (OTs.cons (OT.tmp rfl) OTs.nil)) (by exact perm_at 0 rfl)) (by exact perm_at 0 rfl) rfl rfl (fun _ _ => ?_)
        refine op_pure (pu_not (OT.tmp rfl)) rfl rfl ?_
        refine tr_nil ?_
        refine then_normal ?_
        refine tr_cond (OT.tmp rfl) (fun c19 => ?_) (fun c19 => ?_)
        · try simp only [decide_eq_true_eq, decide_eq_false_iff_not, Bool.or_eq_true, Bool.and_eq_true, Bool.or_eq_false_iff, Bool.and_eq_false_iff, Bool.not_eq_true', Bool.not_eq_false', ne_eq, Classical.not_not] at c19
          have hst : addV out a.1 = out ++ [a.1] := by rw [addV, if_neg (by simpa using c19)]
          -- region 6
          refine tr_env (es_cons (t := 1) (OT.tmp rfl) (es_cons (t := 3) (OT.tmp rfl) (es_cons (t := 4) (OT.tmp rfl) (es_cons (t := 7) (OT.tmp rfl) (es_cons (t := 8) (OT.tmp rfl) es_nil))))) ?_
          refine tr_region ?_
          refine op_pure (pu_move (OT.tmp rfl)) rfl rfl ?_
          refine op_pure (pu_faddr (OT.tmp rfl) (show fieldOk Try.prog 25 3 3 false 1 = true from by decide +kernel)) rfl rfl ?_
          refine op_pure (pu_load_blk (OT.tmp rfl) (by exact mem_at 1 rfl) lv3 (show tyOk Try.prog 23 false 1 = true from by decide +kernel)) rfl rfl ?_
          refine op_pure (pu_move (OT.tmp rfl)) rfl rfl ?_
          refine op_pure (pu_index (OT.tmp rfl) (OT.tmp rfl) Try.underlying23 (show tyOk Try.prog 31 true 3 = true from by decide +kernel) (by omega) (by omega)) rfl rfl ?_
          refine op_pure (pu_faddr_at (OT.tmp rfl) la0 (show fieldOk Try.prog 31 0 0 false 1 = true from by decide +kernel)) rfl rfl ?_
          refine op_pure (pu_load (OT.tmp rfl) (show tyOk Try.prog 9 false 1 = true from by decide +kernel)) rfl rfl ?_
          rw [ha]
          refine op_acts (acts_lit (d := kS) (v0 := []) (show slTy Try.prog 22 9 1 16 = true from by decide +kernel) (show tyOk Try.prog 9 false 1 = true from by decide +kernel) zS (show 1 * 1 ≤ 16777216 from by decide) (by decide) (fills_arr rfl rfl (by decide) (OT.tmp rfl) fills_nil)) (List.Perm.refl _) rfl rfl (fun _ _ => ?_)
          refine op_acts (acts_append (OT.tmp rfl) (by exact perm_at 0 rfl) (OT.tmp rfl) (show slTy Try.prog 22 9 1 16 = true from by decide +kernel) (by (simp; omega)) (by (simp [maxLen]; omega))) (by exact perm_at 0 rfl) rfl rfl (fun v6_8 _ => ?_)
          refine op_pure (pu_assign (OT.tmp rfl)) rfl rfl ?_
          refine tr_nil ?_
          refine then_normal ?_
          exact tr_joined v6_8 trivial (es_append (es_cons (t := 3) (by exact OT.tmp rfl) es_nil) (es_cons (t := 1) (OT.tmp rfl) (es_cons (t := 4) (OT.tmp rfl) (es_cons (t := 7) (OT.tmp rfl) (es_cons (t := 8) (OT.tmp rfl) es_nil))))) (own_picks (by rw [hst]; exact (by repeat (first | exact picks_nil | refine picks_cons 0 rfl ?_ | refine picks_cons 1 rfl ?_ | refine picks_cons 2 rfl ?_ | refine picks_cons 3 rfl ?_ | refine picks_cons 4 rfl ?_ | refine picks_cons 5 rfl ?_ | refine picks_cons 6 rfl ?_))))
        · try simp only [decide_eq_true_eq, decide_eq_false_iff_not, Bool.or_eq_true, Bool.and_eq_true, Bool.or_eq_false_iff, Bool.and_eq_false_iff, Bool.not_eq_true', Bool.not_eq_false', ne_eq, Classical.not_not] at c19
          have hst : addV out a.1 = out := by rw [addV, if_pos (by simpa using c19)]
          refine tr_skip ?_
          refine then_normal ?_
          exact tr_joined vo trivial (es_append (es_cons (t := 3) (by exact OT.tmp rfl) es_nil) (es_cons (t := 1) (OT.tmp rfl) (es_cons (t := 4) (OT.tmp rfl) (es_cons (t := 7) (OT.tmp rfl) (es_cons (t := 8) (OT.tmp rfl) es_nil))))) (own_picks (by rw [hst]; exact (by repeat (first | exact picks_nil | refine picks_cons 0 rfl ?_ | refine picks_cons 1 rfl ?_ | refine picks_cons 2 rfl ?_ | refine picks_cons 3 rfl ?_ | refine picks_cons 4 rfl ?_ | refine picks_cons 5 rfl ?_ | refine picks_cons 6 rfl ?_))))
      · rintro vo1 _
        refine tr_seq ?_
        -- region 7
        refine tr_env (es_cons (t := 1) (OT.tmp rfl) (es_cons (t := 3) (OT.tmp rfl) (es_cons (t := 4) (OT.tmp rfl) (es_cons (t := 7) (OT.tmp rfl) (es_cons (t := 8) (OT.tmp rfl) es_nil))))) ?_
        refine tr_region ?_
        refine op_pure (pu_move (OT.tmp rfl)) rfl rfl ?_
        refine op_pure (pu_faddr (OT.tmp rfl) (show fieldOk Try.prog 25 3 3 false 1 = true from by decide +kernel)) rfl rfl ?_
        refine op_pure (pu_load_blk (OT.tmp rfl) (by exact mem_at 1 rfl) lv3 (show tyOk Try.prog 23 false 1 = true from by decide +kernel)) rfl rfl ?_
        refine op_pure (pu_move (OT.tmp rfl)) rfl rfl ?_
        refine op_pure (pu_index (OT.tmp rfl) (OT.tmp rfl) Try.underlying23 (show tyOk Try.prog 31 true 3 = true from by decide +kernel) (by omega) (by omega)) rfl rfl ?_
        refine op_pure (pu_faddr_at (OT.tmp rfl) la2 (show fieldOk Try.prog 31 2 2 false 1 = true from by decide +kernel)) rfl rfl ?_
        refine op_pure (pu_load (OT.tmp rfl) (show tyOk Try.prog 9 false 1 = true from by decide +kernel)) rfl rfl ?_
        rw [ha]
        refine op_acts (acts_call (Ct.lend_hd (rhas_fn (addV out a.1) a.2.2 (by omega)) flat_bool) (show enters Try.prog 29 = true from by decide +kernel) (OTs.cons (OT.tmp rfl) (OTs.cons (OT.tmp rfl) OTs.nil)) (by exact perm_at 0 rfl)) (by exact perm_at 0 rfl) rfl rfl (fun _ _ => ?_)
        refine op_pure (pu_not (OT.tmp rfl)) rfl rfl ?_
        refine tr_nil ?_
        refine then_normal ?_
        refine tr_cond (OT.tmp rfl) (fun c37 => ?_) (fun c37 => ?_)
        · try simp only [decide_eq_true_eq, decide_eq_false_iff_not, Bool.or_eq_true, Bool.and_eq_true, Bool.or_eq_false_iff, Bool.and_eq_false_iff, Bool.not_eq_true', Bool.not_eq_false', ne_eq, Classical.not_not] at c37
          have hst2 : addA out a = addV out a.1 ++ [a.2.2] := by rw [addA, addV, if_neg (by simpa using c37)]
          -- region 8
          refine tr_env (es_cons (t := 1) (OT.tmp rfl) (es_cons (t := 3) (OT.tmp rfl) (es_cons (t := 4) (OT.tmp rfl) (es_cons (t := 7) (OT.tmp rfl) (es_cons (t := 8) (OT.tmp rfl) es_nil))))) ?_
          refine tr_region ?_
          refine op_pure (pu_move (OT.tmp rfl)) rfl rfl ?_
          refine op_pure (pu_faddr (OT.tmp rfl) (show fieldOk Try.prog 25 3 3 false 1 = true from by decide +kernel)) rfl rfl ?_
          refine op_pure (pu_load_blk (OT.tmp rfl) (by exact mem_at 1 rfl) lv3 (show tyOk Try.prog 23 false 1 = true from by decide +kernel)) rfl rfl ?_
          refine op_pure (pu_move (OT.tmp rfl)) rfl rfl ?_
          refine op_pure (pu_index (OT.tmp rfl) (OT.tmp rfl) Try.underlying23 (show tyOk Try.prog 31 true 3 = true from by decide +kernel) (by omega) (by omega)) rfl rfl ?_
          refine op_pure (pu_faddr_at (OT.tmp rfl) la2 (show fieldOk Try.prog 31 2 2 false 1 = true from by decide +kernel)) rfl rfl ?_
          refine op_pure (pu_load (OT.tmp rfl) (show tyOk Try.prog 9 false 1 = true from by decide +kernel)) rfl rfl ?_
          rw [ha]
          refine op_acts (acts_lit (d := kS) (v0 := []) (show slTy Try.prog 22 9 1 16 = true from by decide +kernel) (show tyOk Try.prog 9 false 1 = true from by decide +kernel) zS (show 1 * 1 ≤ 16777216 from by decide) (by decide) (fills_arr rfl rfl (by decide) (OT.tmp rfl) fills_nil)) (List.Perm.refl _) rfl rfl (fun _ _ => ?_)
          refine op_acts (acts_append (OT.tmp rfl) (by exact perm_at 0 rfl) (OT.tmp rfl) (show slTy Try.prog 22 9 1 16 = true from by decide +kernel) (by (simp; omega)) (by (simp [maxLen]; omega))) (by exact perm_at 0 rfl) rfl rfl (fun v8_8 _ => ?_)
          refine op_pure (pu_assign (OT.tmp rfl)) rfl rfl ?_
          refine tr_nil ?_
          refine block_normal ?_
          refine then_normal ?_
          -- region 9
          refine tr_env (es_cons (t := 1) (OT.tmp rfl) (es_cons (t := 3) (OT.tmp rfl) (es_cons (t := 7) (OT.tmp rfl) (es_cons (t := 8) (OT.tmp rfl) es_nil)))) ?_
          refine tr_region ?_
          refine op_pure (pu_add' (OT.tmp rfl) OT.const (by omega)) rfl rfl ?_
          refine op_pure (pu_move (OT.tmp rfl)) rfl rfl ?_
          refine tr_nil ?_
          refine then_normal ?_
          exact tr_again (k + 1, v8_8) (by show k + 1 ≤ v.2.2.2.1.length; omega) (by omega) (es_append (es_cons (t := 8) (by exact OT.tmp rfl) (es_cons (t := 3) (by exact OT.tmp rfl) es_nil)) (es_cons (t := 1) (OT.tmp rfl) (es_cons (t := 7) (OT.tmp rfl) es_nil))) (own_picks (by rw [hsn, hst2]; exact (by repeat (first | exact picks_nil | refine picks_cons 0 rfl ?_ | refine picks_cons 1 rfl ?_ | refine picks_cons 2 rfl ?_ | refine picks_cons 3 rfl ?_ | refine picks_cons 4 rfl ?_ | refine picks_cons 5 rfl ?_ | refine picks_cons 6 rfl ?_))))
        · try simp only [decide_eq_true_eq, decide_eq_false_iff_not, Bool.or_eq_true, Bool.and_eq_true, Bool.or_eq_false_iff, Bool.and_eq_false_iff, Bool.not_eq_true', Bool.not_eq_false', ne_eq, Classical.not_not] at c37
          have hst2 : addA out a = addV out a.1 := by rw [addA, addV, if_pos (by simpa using c37)]
          refine tr_skip ?_
          refine block_normal ?_
          refine then_normal ?_
          -- region 9
          refine tr_env (es_cons (t := 1) (OT.tmp rfl) (es_cons (t := 3) (OT.tmp rfl) (es_cons (t := 7) (OT.tmp rfl) (es_cons (t := 8) (OT.tmp rfl) es_nil)))) ?_
          refine tr_region ?_
          refine op_pure (pu_add' (OT.tmp rfl) OT.const (by omega)) rfl rfl ?_
          refine op_pure (pu_move (OT.tmp rfl)) rfl rfl ?_
          refine tr_nil ?_
          refine then_normal ?_
          exact tr_again (k + 1, vo1) (by show k + 1 ≤ v.2.2.2.1.length; omega) (by omega) (es_append (es_cons (t := 8) (by exact OT.tmp rfl) (es_cons (t := 3) (by exact OT.tmp rfl) es_nil)) (es_cons (t := 1) (OT.tmp rfl) (es_cons (t := 7) (OT.tmp rfl) es_nil))) (own_picks (by rw [hsn, hst2]; exact (by repeat (first | exact picks_nil | refine picks_cons 0 rfl ?_ | refine picks_cons 1 rfl ?_ | refine picks_cons 2 rfl ?_ | refine picks_cons 3 rfl ?_ | refine picks_cons 4 rfl ?_ | refine picks_cons 5 rfl ?_ | refine picks_cons 6 rfl ?_))))
    · try simp only [decide_eq_true_eq, decide_eq_false_iff_not, Bool.or_eq_true, Bool.and_eq_true, Bool.or_eq_false_iff, Bool.and_eq_false_iff, Bool.not_eq_true', Bool.not_eq_false', ne_eq, Classical.not_not] at c9
      refine tr_exit ?_
      refine then_exit ?_
      refine then_exit ?_
      refine block_hit ?_
      refine then_normal ?_
      refine tr_seq ?_
      -- region 10
      refine tr_env (es_cons (t := 3) (OT.tmp rfl) es_nil) ?_
      obtain rfl : k = v.2.2.2.1.length := by omega
      rw [List.take_length]
      refine tr_freeze (by exact perm_at 0 rfl) 3 (OT.tmp rfl) ?_
      refine tr_region ?_
      refine op_pure (pu_move (OT.tmp rfl)) rfl rfl ?_
      refine op_pure (pu_assign (OT.tmp rfl)) rfl rfl ?_
      refine tr_nil ?_
      refine then_normal ?_
      refine tr_ret ?_
      exact ret_one .ret (.inl rfl) rfl () (OT.tmp rfl) trivial (by exact picks_nil)
end Go.Proofs.Ytakkjljhjfkkbaa
/- Walks through the Go functions query.Check, join.bad, as typed contracts. -/
namespace Go.Proofs.Ytakkjljhjfkkbaa
open Go Go.Gw Go.So Go.Tu Go.Jn
set_option linter.unusedVariables false
set_option linter.unusedSimpArgs false

set_option maxRecDepth 20000 in
/-- rhizome/query.Check -/
theorem Check_fn (v : Vw) (ho : v.2.2.1.length ≤ maxLen) (ha : v.2.2.2.1.length ≤ maxLen) : Ct Try.prog 38 [kV.T v] ([]) Unit (fun _ => I64 (if checkB v then 0 else 1)) (fun _ => []) (fun _ => True) := by
  refine fn_intro Try.func38 rfl rfl ?_
  intro H w
  unfold maxLen at ho ha
  refine tr_seq ?_
  -- region 0
  refine tr_env (es_cons (t := 0) (OT.tmp rfl) es_nil) ?_
  refine tr_region ?_
  refine op_acts (acts_box (d := kV) (OT.tmp rfl)) (List.Perm.refl _) rfl rfl (fun g0_0 _ => ?_)
  refine op_pure (pu_assign OT.const) rfl rfl ?_
  refine tr_nil ?_
  refine then_normal ?_
  refine tr_seq ?_
  -- region 1
  refine tr_env (es_cons (t := 1) (OT.tmp rfl) es_nil) ?_
  refine tr_region ?_
  refine op_pure (pu_faddr (OT.tmp rfl) (show fieldOk Try.prog 25 0 0 false 1 = true from by decide +kernel)) rfl rfl ?_
  refine op_pure (pu_load_blk (OT.tmp rfl) (by exact mem_at 0 rfl) lv0 (show tyOk Try.prog 9 false 1 = true from by decide +kernel)) rfl rfl ?_
  refine op_acts (acts_call (name_fn _) (show enters Try.prog 52 = true from by decide +kernel) (OTs.cons (OT.tmp rfl) OTs.nil) (List.Perm.refl _)) (List.Perm.refl _) rfl rfl (fun _ _ => ?_)
  refine op_pure (pu_assign (OT.tmp rfl)) rfl rfl ?_
  refine tr_nil ?_
  refine then_normal ?_
  refine tr_seq ?_
  refine tr_seq ?_
  -- region 2
  refine tr_env (es_cons (t := 1) (OT.tmp rfl) (es_cons (t := 3) (OT.tmp rfl) es_nil)) ?_
  refine tr_region ?_
  refine op_pure (pu_faddr (OT.tmp rfl) (show fieldOk Try.prog 25 1 1 false 1 = true from by decide +kernel)) rfl rfl ?_
  refine op_pure (pu_load_blk (OT.tmp rfl) (by exact mem_at 0 rfl) lv1 (show tyOk Try.prog 3 false 1 = true from by decide +kernel)) rfl rfl ?_
  refine tr_nil ?_
  refine then_normal ?_
  refine tr_block ?_
  refine tr_seq ?_
  -- region 4
  refine tr_env (es_cons (t := 1) (OT.tmp rfl) (es_cons (t := 3) (OT.tmp rfl) (es_cons (t := 13) (OT.tmp rfl) es_nil))) ?_
  refine tr_region ?_
  refine op_pure (pu_eql (OT.tmp rfl) OT.const) rfl rfl ?_
  refine op_pure (pu_assign (OT.tmp rfl)) rfl rfl ?_
  refine tr_nil ?_
  refine then_normal ?_
  refine tr_cond (OT.tmp rfl) (fun c14 => ?_) (fun c14 => ?_)
  · skip
    -- region 5
    refine tr_env (es_cons (t := 1) (OT.tmp rfl) (es_cons (t := 3) (OT.tmp rfl) es_nil)) ?_
    refine tr_region ?_
    refine op_pure (pu_move (OT.tmp rfl)) rfl rfl ?_
    refine op_pure (pu_move (OT.tmp rfl)) rfl rfl ?_
    refine op_gu rfl rfl rfl (OT.gu_mk (OT.tmp rfl)) (fun hg => by (have hg1 := hg.2; (try simp only [decide_eq_true_eq, decide_eq_false_iff_not] at hg1); exact pu_faddr (by exact OT.tmp rfl) (show fieldOk Try.prog 25 4 4 false 1 = true from by decide +kernel))) rfl ?_
    refine op_gu rfl rfl rfl (OT.gu_mk (OT.tmp rfl)) (fun hg => by (have hg1 := hg.2; (try simp only [decide_eq_true_eq, decide_eq_false_iff_not] at hg1); exact pu_load_blk (by exact OT.gu (OT.tmp rfl) hg) (by exact mem_at 0 rfl) lv4 (show tyOk Try.prog 9 false 1 = true from by decide +kernel))) rfl ?_
    refine op_gu_acts () rfl rfl rfl (OT.gu_mk (OT.tmp rfl)) (fun hg => by (have hg1 := hg.2; (try simp only [decide_eq_true_eq, decide_eq_false_iff_not] at hg1); exact acts_call (name_fn _) (show enters Try.prog 52 = true from by decide +kernel) (OTs.cons (by exact OT.gu (OT.tmp rfl) hg) OTs.nil) (List.Perm.refl _))) rfl (fun _ _ => ?_)
    refine op_pure (pu_pick_and (OT.tmp rfl) (by exact OT.tmp rfl)) rfl rfl ?_
    refine op_pure (pu_move (OT.tmp rfl)) rfl rfl ?_
    refine op_gu rfl rfl rfl (OT.gu_mk (OT.tmp rfl)) (fun hg => by (have hg1 := hg.2; (try simp only [decide_eq_true_eq, decide_eq_false_iff_not] at hg1); exact pu_faddr (by exact OT.tmp rfl) (show fieldOk Try.prog 25 2 2 false 1 = true from by decide +kernel))) rfl ?_
    refine op_gu rfl rfl rfl (OT.gu_mk (OT.tmp rfl)) (fun hg => by (have hg1 := hg.2; (try simp only [decide_eq_true_eq, decide_eq_false_iff_not] at hg1); exact pu_load_blk (by exact OT.gu (OT.tmp rfl) hg) (by exact mem_at 0 rfl) lv2 (show tyOk Try.prog 22 false 1 = true from by decide +kernel))) rfl ?_
    refine op_gu rfl rfl rfl (OT.gu_mk (OT.tmp rfl)) (fun hg => by (have hg1 := hg.2; (try simp only [decide_eq_true_eq, decide_eq_false_iff_not] at hg1); exact pu_len_sl (by exact OT.gu (OT.tmp rfl) hg) Try.underlying22)) rfl ?_
    refine op_gu rfl rfl rfl (OT.gu_mk (OT.tmp rfl)) (fun hg => by (have hg1 := hg.2; (try simp only [decide_eq_true_eq, decide_eq_false_iff_not] at hg1); exact pu_eql (by exact OT.gu (OT.tmp rfl) hg) OT.const)) rfl ?_
    refine op_pure (pu_pick_and (OT.tmp rfl) (by exact OT.tmp rfl)) rfl rfl ?_
    refine op_pure (pu_move (OT.tmp rfl)) rfl rfl ?_
    refine op_gu rfl rfl rfl (OT.gu_mk (OT.tmp rfl)) (fun hg => by (have hg1 := hg.2; (try simp only [decide_eq_true_eq, decide_eq_false_iff_not] at hg1); exact pu_faddr (by exact OT.tmp rfl) (show fieldOk Try.prog 25 3 3 false 1 = true from by decide +kernel))) rfl ?_
    refine op_gu rfl rfl rfl (OT.gu_mk (OT.tmp rfl)) (fun hg => by (have hg1 := hg.2; (try simp only [decide_eq_true_eq, decide_eq_false_iff_not] at hg1); exact pu_load_blk (by exact OT.gu (OT.tmp rfl) hg) (by exact mem_at 0 rfl) lv3 (show tyOk Try.prog 23 false 1 = true from by decide +kernel))) rfl ?_
    refine op_gu rfl rfl rfl (OT.gu_mk (OT.tmp rfl)) (fun hg => by (have hg1 := hg.2; (try simp only [decide_eq_true_eq, decide_eq_false_iff_not] at hg1); exact pu_len_sl (by exact OT.gu (OT.tmp rfl) hg) Try.underlying23)) rfl ?_
    refine op_gu rfl rfl rfl (OT.gu_mk (OT.tmp rfl)) (fun hg => by (have hg1 := hg.2; (try simp only [decide_eq_true_eq, decide_eq_false_iff_not] at hg1); exact pu_eql (by exact OT.gu (OT.tmp rfl) hg) OT.const)) rfl ?_
    refine op_pure (pu_pick_and (OT.tmp rfl) (by exact OT.tmp rfl)) rfl rfl ?_
    refine op_pure (pu_assign (OT.tmp rfl)) rfl rfl ?_
    refine tr_nil ?_
    refine block_normal ?_
    refine then_normal ?_
    refine tr_seq ?_
    refine tr_seq ?_
    -- region 21
    refine tr_env (es_cons (t := 3) (OT.tmp rfl) es_nil) ?_
    refine tr_region ?_
    refine op_pure (pu_move (OT.tmp rfl)) rfl rfl ?_
    refine op_pure (pu_not (OT.tmp rfl)) rfl rfl ?_
    refine tr_nil ?_
    refine then_normal ?_
    refine tr_cond (OT.tmp rfl) (fun c119 => ?_) (fun c119 => ?_)
    · skip
      refine tr_seq ?_
      -- region 22
      refine tr_env es_nil ?_
      refine tr_region ?_
      refine op_pure (pu_assign OT.const) rfl rfl ?_
      refine tr_nil ?_
      refine then_normal ?_
      refine tr_ret ?_
      refine then_ret ?_
      exact ret_one .ret (.inl rfl) rfl () (OT.val (OT.tmp rfl) (congrArg (Value.int _) (chk2 (b := true) c14 c119))) trivial (by exact picks_nil)
    · skip
      refine tr_skip ?_
      refine then_normal ?_
      refine tr_seq ?_
      -- region 23
      refine tr_env es_nil ?_
      refine tr_region ?_
      refine op_pure (pu_assign OT.const) rfl rfl ?_
      refine tr_nil ?_
      refine then_normal ?_
      refine tr_ret ?_
      exact ret_one .ret (.inl rfl) rfl () (OT.val (OT.tmp rfl) (congrArg (Value.int _) (chk2 (b := false) c14 c119))) trivial (by exact picks_nil)
  · skip
    refine tr_seq ?_
    -- region 6
    refine tr_env (es_cons (t := 1) (OT.tmp rfl) (es_cons (t := 3) (OT.tmp rfl) (es_cons (t := 13) (OT.tmp rfl) es_nil))) ?_
    refine tr_region ?_
    refine op_pure (pu_eql (OT.tmp rfl) OT.const) rfl rfl ?_
    refine op_pure (pu_assign (OT.tmp rfl)) rfl rfl ?_
    refine tr_nil ?_
    refine then_normal ?_
    refine tr_cond (OT.tmp rfl) (fun c34 => ?_) (fun c34 => ?_)
    · skip
      refine tr_seq ?_
      -- region 7
      refine tr_env (es_cons (t := 1) (OT.tmp rfl) (es_cons (t := 3) (OT.tmp rfl) es_nil)) ?_
      refine tr_region ?_
      refine op_pure (pu_move (OT.tmp rfl)) rfl rfl ?_
      refine op_pure (pu_move (OT.tmp rfl)) rfl rfl ?_
      refine op_gu rfl rfl rfl (OT.gu_mk (OT.tmp rfl)) (fun hg => by (have hg1 := hg.2; (try simp only [decide_eq_true_eq, decide_eq_false_iff_not] at hg1); exact pu_faddr (by exact OT.tmp rfl) (show fieldOk Try.prog 25 4 4 false 1 = true from by decide +kernel))) rfl ?_
      refine op_gu rfl rfl rfl (OT.gu_mk (OT.tmp rfl)) (fun hg => by (have hg1 := hg.2; (try simp only [decide_eq_true_eq, decide_eq_false_iff_not] at hg1); exact pu_load_blk (by exact OT.gu (OT.tmp rfl) hg) (by exact mem_at 0 rfl) lv4 (show tyOk Try.prog 9 false 1 = true from by decide +kernel))) rfl ?_
      refine op_gu rfl rfl rfl (OT.gu_mk (OT.tmp rfl)) (fun hg => by (have hg1 := hg.2; (try simp only [decide_eq_true_eq, decide_eq_false_iff_not] at hg1); exact pu_bs_eql (by exact OT.gu (OT.tmp rfl) hg) OT.const)) rfl ?_
      refine op_pure (pu_pick_and (OT.tmp rfl) (by exact OT.tmp rfl)) rfl rfl ?_
      refine op_pure (pu_move (OT.tmp rfl)) rfl rfl ?_
      refine op_gu rfl rfl rfl (OT.gu_mk (OT.tmp rfl)) (fun hg => by (have hg1 := hg.2; (try simp only [decide_eq_true_eq, decide_eq_false_iff_not] at hg1); exact pu_faddr (by exact OT.tmp rfl) (show fieldOk Try.prog 25 2 2 false 1 = true from by decide +kernel))) rfl ?_
      refine op_gu rfl rfl rfl (OT.gu_mk (OT.tmp rfl)) (fun hg => by (have hg1 := hg.2; (try simp only [decide_eq_true_eq, decide_eq_false_iff_not] at hg1); exact pu_load_blk (by exact OT.gu (OT.tmp rfl) hg) (by exact mem_at 0 rfl) lv2 (show tyOk Try.prog 22 false 1 = true from by decide +kernel))) rfl ?_
      refine op_gu rfl rfl rfl (OT.gu_mk (OT.tmp rfl)) (fun hg => by (have hg1 := hg.2; (try simp only [decide_eq_true_eq, decide_eq_false_iff_not] at hg1); exact pu_len_sl (by exact OT.gu (OT.tmp rfl) hg) Try.underlying22)) rfl ?_
      refine op_gu rfl rfl rfl (OT.gu_mk (OT.tmp rfl)) (fun hg => by (have hg1 := hg.2; (try simp only [decide_eq_true_eq, decide_eq_false_iff_not] at hg1); exact pu_geq (by exact OT.gu (OT.tmp rfl) hg) OT.const)) rfl ?_
      refine op_pure (pu_pick_and (OT.tmp rfl) (by exact OT.tmp rfl)) rfl rfl ?_
      refine op_pure (pu_move (OT.tmp rfl)) rfl rfl ?_
      refine op_gu rfl rfl rfl (OT.gu_mk (OT.tmp rfl)) (fun hg => by (have hg1 := hg.2; (try simp only [decide_eq_true_eq, decide_eq_false_iff_not] at hg1); exact pu_faddr (by exact OT.tmp rfl) (show fieldOk Try.prog 25 2 2 false 1 = true from by decide +kernel))) rfl ?_
      refine op_gu rfl rfl rfl (OT.gu_mk (OT.tmp rfl)) (fun hg => by (have hg1 := hg.2; (try simp only [decide_eq_true_eq, decide_eq_false_iff_not] at hg1); exact pu_load_blk (by exact OT.gu (OT.tmp rfl) hg) (by exact mem_at 0 rfl) lv2 (show tyOk Try.prog 22 false 1 = true from by decide +kernel))) rfl ?_
      refine op_gu rfl rfl rfl (OT.gu_mk (OT.tmp rfl)) (fun hg => by (have hg1 := hg.2; (try simp only [decide_eq_true_eq, decide_eq_false_iff_not] at hg1); exact pu_len_sl (by exact OT.gu (OT.tmp rfl) hg) Try.underlying22)) rfl ?_
      refine op_gu rfl rfl rfl (OT.gu_mk (OT.tmp rfl)) (fun hg => by (have hg1 := hg.2; (try simp only [decide_eq_true_eq, decide_eq_false_iff_not] at hg1); exact pu_leq (by exact OT.gu (OT.tmp rfl) hg) OT.const)) rfl ?_
      refine op_pure (pu_pick_and (OT.tmp rfl) (by exact OT.tmp rfl)) rfl rfl ?_
      refine op_pure (pu_move (OT.tmp rfl)) rfl rfl ?_
      refine op_gu rfl rfl rfl (OT.gu_mk (OT.tmp rfl)) (fun hg => by (have hg1 := hg.2; (try simp only [decide_eq_true_eq, decide_eq_false_iff_not] at hg1); exact pu_faddr (by exact OT.tmp rfl) (show fieldOk Try.prog 25 3 3 false 1 = true from by decide +kernel))) rfl ?_
      refine op_gu rfl rfl rfl (OT.gu_mk (OT.tmp rfl)) (fun hg => by (have hg1 := hg.2; (try simp only [decide_eq_true_eq, decide_eq_false_iff_not] at hg1); exact pu_load_blk (by exact OT.gu (OT.tmp rfl) hg) (by exact mem_at 0 rfl) lv3 (show tyOk Try.prog 23 false 1 = true from by decide +kernel))) rfl ?_
      refine op_gu rfl rfl rfl (OT.gu_mk (OT.tmp rfl)) (fun hg => by (have hg1 := hg.2; (try simp only [decide_eq_true_eq, decide_eq_false_iff_not] at hg1); exact pu_len_sl (by exact OT.gu (OT.tmp rfl) hg) Try.underlying23)) rfl ?_
      refine op_gu rfl rfl rfl (OT.gu_mk (OT.tmp rfl)) (fun hg => by (have hg1 := hg.2; (try simp only [decide_eq_true_eq, decide_eq_false_iff_not] at hg1); exact pu_geq (by exact OT.gu (OT.tmp rfl) hg) OT.const)) rfl ?_
      refine op_pure (pu_pick_and (OT.tmp rfl) (by exact OT.tmp rfl)) rfl rfl ?_
      refine op_pure (pu_move (OT.tmp rfl)) rfl rfl ?_
      refine op_gu rfl rfl rfl (OT.gu_mk (OT.tmp rfl)) (fun hg => by (have hg1 := hg.2; (try simp only [decide_eq_true_eq, decide_eq_false_iff_not] at hg1); exact pu_faddr (by exact OT.tmp rfl) (show fieldOk Try.prog 25 3 3 false 1 = true from by decide +kernel))) rfl ?_
      refine op_gu rfl rfl rfl (OT.gu_mk (OT.tmp rfl)) (fun hg => by (have hg1 := hg.2; (try simp only [decide_eq_true_eq, decide_eq_false_iff_not] at hg1); exact pu_load_blk (by exact OT.gu (OT.tmp rfl) hg) (by exact mem_at 0 rfl) lv3 (show tyOk Try.prog 23 false 1 = true from by decide +kernel))) rfl ?_
      refine op_gu rfl rfl rfl (OT.gu_mk (OT.tmp rfl)) (fun hg => by (have hg1 := hg.2; (try simp only [decide_eq_true_eq, decide_eq_false_iff_not] at hg1); exact pu_len_sl (by exact OT.gu (OT.tmp rfl) hg) Try.underlying23)) rfl ?_
      refine op_gu rfl rfl rfl (OT.gu_mk (OT.tmp rfl)) (fun hg => by (have hg1 := hg.2; (try simp only [decide_eq_true_eq, decide_eq_false_iff_not] at hg1); exact pu_leq (by exact OT.gu (OT.tmp rfl) hg) OT.const)) rfl ?_
      refine op_pure (pu_pick_and (OT.tmp rfl) (by exact OT.tmp rfl)) rfl rfl ?_
      refine op_pure (pu_assign (OT.tmp rfl)) rfl rfl ?_
      refine tr_nil ?_
      refine then_normal ?_
      refine tr_seq ?_
      refine tr_seq ?_
      -- region 8
      refine tr_env (es_cons (t := 1) (OT.tmp rfl) (es_cons (t := 3) (OT.tmp rfl) es_nil)) ?_
      refine tr_region ?_
      refine op_pure (pu_faddr (OT.tmp rfl) (show fieldOk Try.prog 25 3 3 false 1 = true from by decide +kernel)) rfl rfl ?_
      refine op_pure (pu_load_blk (OT.tmp rfl) (by exact mem_at 0 rfl) lv3 (show tyOk Try.prog 23 false 1 = true from by decide +kernel)) rfl rfl ?_
      refine op_pure (pu_len_sl (OT.tmp rfl) Try.underlying23) rfl rfl ?_
      refine op_pure (pu_move OT.const) rfl rfl ?_
      refine tr_nil ?_
      refine then_normal ?_
      refine tr_block ?_
      refine tr_loopK (σ := Nat) (es_cons (t := 1) (OT.tmp rfl) (es_cons (t := 67) (OT.tmp rfl) (es_cons (t := 68) (OT.tmp rfl) es_nil))) (fun k => [(69, I64 (k : Int)), (3, BoolT (preB v && (v.2.2.2.1.take k).all atmB))]) (fun k => [BlkI g0_0 25 kV v]) (fun k => k ≤ v.2.2.2.1.length) (fun k => v.2.2.2.1.length - k) 0 (Nat.zero_le _) ?_ (own_picks (by repeat (first | exact picks_nil | refine picks_cons 0 rfl ?_ | refine picks_cons 1 rfl ?_ | refine picks_cons 2 rfl ?_ | refine picks_cons 3 rfl ?_ | refine picks_cons 4 rfl ?_ | refine picks_cons 5 rfl ?_ | refine picks_cons 6 rfl ?_))) ?_
      · exact (es_cons (t := 69) (by exact OT.tmp rfl) (es_cons (t := 3) (OT.val (OT.tmp rfl) (congrArg Value.bool (by rw [List.take_zero]; simp [preB]))) es_nil))
      · rintro k hk
        refine tr_seq ?_
        -- region 9
        refine tr_env (es_cons (t := 1) (OT.tmp rfl) (es_cons (t := 3) (OT.tmp rfl) (es_cons (t := 67) (OT.tmp rfl) (es_cons (t := 68) (OT.tmp rfl) (es_cons (t := 69) (OT.tmp rfl) es_nil))))) ?_
        refine tr_region ?_
        refine op_pure (pu_lss (OT.tmp rfl) (OT.tmp rfl)) rfl rfl ?_
        refine tr_nil ?_
        refine then_normal ?_
        refine tr_seq ?_
        refine tr_cond (OT.tmp rfl) (fun c70 => ?_) (fun c70 => ?_)
        · skip
          refine tr_skip ?_
          refine then_normal ?_
          refine tr_seq ?_
          refine tr_block ?_
          refine tr_seq ?_
          -- region 10
          refine tr_env (es_cons (t := 1) (OT.tmp rfl) (es_cons (t := 3) (OT.tmp rfl) (es_cons (t := 67) (OT.tmp rfl) (es_cons (t := 68) (OT.tmp rfl) (es_cons (t := 69) (OT.tmp rfl) es_nil))))) ?_
          refine tr_region ?_
          refine op_pure (pu_index (OT.tmp rfl) (OT.tmp rfl) Try.underlying23 (show tyOk Try.prog 31 true 3 = true from by decide +kernel) (by omega) (by (simp [maxLen] at *; omega))) rfl rfl ?_
          refine op_pure (pu_load (OT.tmp rfl) (show tyOk Try.prog 31 true 3 = true from by decide +kernel)) rfl rfl ?_
          refine op_acts (acts_alloc (zA)) (List.Perm.refl _) rfl rfl (fun g10_2 _ => ?_)
          refine op_acts (acts_store_var (OT.tmp rfl) (OT.tmp rfl) (by exact perm_at 0 rfl) (show tyOk Try.prog 31 true 3 = true from by decide +kernel)) (by exact perm_at 0 rfl) rfl rfl (fun _ _ => ?_)
          refine tr_nil ?_
          refine then_normal ?_
          -- region 11
          refine tr_env (es_cons (t := 1) (OT.tmp rfl) (es_cons (t := 3) (OT.tmp rfl) (es_cons (t := 5) (OT.tmp rfl) (es_cons (t := 67) (OT.tmp rfl) (es_cons (t := 68) (OT.tmp rfl) (es_cons (t := 69) (OT.tmp rfl) es_nil)))))) ?_
          refine tr_region ?_
          refine op_pure (pu_move (OT.tmp rfl)) rfl rfl ?_
          refine op_pure (pu_move (OT.tmp rfl)) rfl rfl ?_
          refine op_gu rfl rfl rfl (OT.gu_mk (OT.tmp rfl)) (fun hg => by (have hg1 := hg.2; (try simp only [decide_eq_true_eq, decide_eq_false_iff_not] at hg1); exact pu_faddr (by exact OT.tmp rfl) (show fieldOk Try.prog 31 0 0 false 1 = true from by decide +kernel))) rfl ?_
          refine op_gu rfl rfl rfl (OT.gu_mk (OT.tmp rfl)) (fun hg => by (have hg1 := hg.2; (try simp only [decide_eq_true_eq, decide_eq_false_iff_not] at hg1); exact pu_load_blk (by exact OT.gu (OT.tmp rfl) hg) (by exact mem_at 0 rfl) la0 (show tyOk Try.prog 9 false 1 = true from by decide +kernel))) rfl ?_
          refine op_gu_acts () rfl rfl rfl (OT.gu_mk (OT.tmp rfl)) (fun hg => by (have hg1 := hg.2; (try simp only [decide_eq_true_eq, decide_eq_false_iff_not] at hg1); exact acts_call (name_fn _) (show enters Try.prog 52 = true from by decide +kernel) (OTs.cons (by exact OT.gu (OT.tmp rfl) hg) OTs.nil) (List.Perm.refl _))) rfl (fun _ _ => ?_)
          refine op_pure (pu_pick_and (OT.tmp rfl) (by exact OT.tmp rfl)) rfl rfl ?_
          refine op_pure (pu_move (OT.tmp rfl)) rfl rfl ?_
          refine op_gu rfl rfl rfl (OT.gu_mk (OT.tmp rfl)) (fun hg => by (have hg1 := hg.2; (try simp only [decide_eq_true_eq, decide_eq_false_iff_not] at hg1); exact pu_faddr (by exact OT.tmp rfl) (show fieldOk Try.prog 31 1 1 false 1 = true from by decide +kernel))) rfl ?_
          refine op_gu rfl rfl rfl (OT.gu_mk (OT.tmp rfl)) (fun hg => by (have hg1 := hg.2; (try simp only [decide_eq_true_eq, decide_eq_false_iff_not] at hg1); exact pu_load_blk (by exact OT.gu (OT.tmp rfl) hg) (by exact mem_at 0 rfl) la1 (show tyOk Try.prog 9 false 1 = true from by decide +kernel))) rfl ?_
          refine op_gu_acts () rfl rfl rfl (OT.gu_mk (OT.tmp rfl)) (fun hg => by (have hg1 := hg.2; (try simp only [decide_eq_true_eq, decide_eq_false_iff_not] at hg1); exact acts_call (name_fn _) (show enters Try.prog 52 = true from by decide +kernel) (OTs.cons (by exact OT.gu (OT.tmp rfl) hg) OTs.nil) (List.Perm.refl _))) rfl (fun _ _ => ?_)
          refine op_pure (pu_pick_and (OT.tmp rfl) (by exact OT.tmp rfl)) rfl rfl ?_
          refine op_pure (pu_move (OT.tmp rfl)) rfl rfl ?_
          refine op_gu rfl rfl rfl (OT.gu_mk (OT.tmp rfl)) (fun hg => by (have hg1 := hg.2; (try simp only [decide_eq_true_eq, decide_eq_false_iff_not] at hg1); exact pu_faddr (by exact OT.tmp rfl) (show fieldOk Try.prog 31 2 2 false 1 = true from by decide +kernel))) rfl ?_
          refine op_gu rfl rfl rfl (OT.gu_mk (OT.tmp rfl)) (fun hg => by (have hg1 := hg.2; (try simp only [decide_eq_true_eq, decide_eq_false_iff_not] at hg1); exact pu_load_blk (by exact OT.gu (OT.tmp rfl) hg) (by exact mem_at 0 rfl) la2 (show tyOk Try.prog 9 false 1 = true from by decide +kernel))) rfl ?_
          refine op_gu_acts () rfl rfl rfl (OT.gu_mk (OT.tmp rfl)) (fun hg => by (have hg1 := hg.2; (try simp only [decide_eq_true_eq, decide_eq_false_iff_not] at hg1); exact acts_call (name_fn _) (show enters Try.prog 52 = true from by decide +kernel) (OTs.cons (by exact OT.gu (OT.tmp rfl) hg) OTs.nil) (List.Perm.refl _))) rfl (fun _ _ => ?_)
          refine op_pure (pu_pick_and (OT.tmp rfl) (by exact OT.tmp rfl)) rfl rfl ?_
          refine op_pure (pu_assign (OT.tmp rfl)) rfl rfl ?_
          refine tr_nil ?_
          refine block_normal ?_
          refine then_normal ?_
          -- region 12
          refine tr_env (es_cons (t := 1) (OT.tmp rfl) (es_cons (t := 3) (OT.tmp rfl) (es_cons (t := 67) (OT.tmp rfl) (es_cons (t := 68) (OT.tmp rfl) (es_cons (t := 69) (OT.tmp rfl) es_nil))))) ?_
          refine tr_region ?_
          refine op_pure (pu_add' (OT.tmp rfl) OT.const (by (simp [maxLen] at *; omega))) rfl rfl ?_
          refine op_pure (pu_move (OT.tmp rfl)) rfl rfl ?_
          refine tr_nil ?_
          refine then_normal ?_
          exact tr_again (k + 1) (by simp only [decide_eq_true_eq] at c70; omega) (by simp only [decide_eq_true_eq] at c70; omega) (es_append (es_cons (t := 69) (by exact OT.tmp rfl) (es_cons (t := 3) (OT.val (OT.tmp rfl) (congrArg Value.bool (atoms_step (by simp only [decide_eq_true_eq] at c70; omega)))) es_nil)) (es_cons (t := 1) (OT.tmp rfl) (es_cons (t := 67) (OT.tmp rfl) (es_cons (t := 68) (OT.tmp rfl) es_nil)))) (own_picks (by repeat (first | exact picks_nil | refine picks_cons 0 rfl ?_ | refine picks_cons 1 rfl ?_ | refine picks_cons 2 rfl ?_ | refine picks_cons 3 rfl ?_ | refine picks_cons 4 rfl ?_ | refine picks_cons 5 rfl ?_ | refine picks_cons 6 rfl ?_)))
        · skip
          refine tr_exit ?_
          refine then_exit ?_
          refine then_exit ?_
          refine block_hit ?_
          refine then_normal ?_
          refine tr_seq ?_
          refine tr_seq ?_
          -- region 13
          refine tr_env (es_cons (t := 1) (OT.tmp rfl) (es_cons (t := 3) (OT.tmp rfl) es_nil)) ?_
          refine tr_region ?_
          refine op_pure (pu_move (OT.tmp rfl)) rfl rfl ?_
          refine op_pure (pu_not (OT.tmp rfl)) rfl rfl ?_
          refine tr_nil ?_
          refine then_normal ?_
          refine tr_cond (OT.tmp rfl) (fun c91 => ?_) (fun c91 => ?_)
          · skip
            obtain rfl : k = v.2.2.2.1.length := by simp only [decide_eq_false_iff_not] at c70; omega
            rw [List.take_length] at c91
            refine tr_seq ?_
            -- region 14
            refine tr_env es_nil ?_
            refine tr_region ?_
            refine op_pure (pu_assign OT.const) rfl rfl ?_
            refine tr_nil ?_
            refine then_normal ?_
            refine tr_ret ?_
            refine then_ret ?_
            refine block_ret ?_
            refine then_ret ?_
            exact ret_one .ret (.inl rfl) rfl () (OT.val (OT.tmp rfl) (congrArg (Value.int _) (chk1 c14 c34 c91))) trivial (by exact picks_nil)
          · skip
            obtain rfl : k = v.2.2.2.1.length := by simp only [decide_eq_false_iff_not] at c70; omega
            rw [List.take_length] at c91
            have hpa : (preB v && v.2.2.2.1.all atmB) = true := by simpa using c91
            obtain ⟨hp1, hp2⟩ := Bool.and_eq_true_iff.1 hpa
            obtain ⟨hl1, hl2, hl3, hl4⟩ := pre_lens hp1
            have hvl := varsL_len v.2.2.2.1
            refine tr_skip ?_
            refine then_normal ?_
            refine tr_seq ?_
            -- region 15
            refine tr_env (es_cons (t := 1) (OT.tmp rfl) (es_cons (t := 3) (OT.tmp rfl) es_nil)) ?_
            refine tr_region ?_
            refine op_pure (pu_load_var (OT.tmp rfl) (by exact mem_at 0 rfl) (show tyOk Try.prog 25 true 5 = true from by decide +kernel)) rfl rfl ?_
            refine op_acts (acts_call (Vars_fn _ (by omega)) (show enters Try.prog 18 = true from by decide +kernel) (OTs.cons (OT.tmp rfl) OTs.nil) (List.Perm.refl _)) (List.Perm.refl _) rfl rfl (fun _ _ => ?_)
            refine op_pure (pu_assign (OT.tmp rfl)) rfl rfl ?_
            refine tr_nil ?_
            refine then_normal ?_
            refine tr_seq ?_
            -- region 16
            refine tr_env (es_cons (t := 1) (OT.tmp rfl) (es_cons (t := 3) (OT.tmp rfl) (es_cons (t := 6) (OT.tmp rfl) es_nil))) ?_
            refine tr_region ?_
            refine op_pure (pu_faddr (OT.tmp rfl) (show fieldOk Try.prog 25 2 2 false 1 = true from by decide +kernel)) rfl rfl ?_
            refine op_pure (pu_load_blk (OT.tmp rfl) (by exact mem_at 0 rfl) lv2 (show tyOk Try.prog 22 false 1 = true from by decide +kernel)) rfl rfl ?_
            refine op_pure (pu_len_sl (OT.tmp rfl) Try.underlying22) rfl rfl ?_
            refine op_pure (pu_move OT.const) rfl rfl ?_
            refine tr_nil ?_
            refine then_normal ?_
            refine tr_block ?_
            refine tr_loopK (σ := Nat) (es_cons (t := 1) (OT.tmp rfl) (es_cons (t := 6) (OT.tmp rfl) (es_cons (t := 95) (OT.tmp rfl) (es_cons (t := 96) (OT.tmp rfl) es_nil)))) (fun i => [(97, I64 (i : Int)), (3, BoolT (outB (varsL v.2.2.2.1) (v.2.2.1.take i)))]) (fun i => [BlkI g0_0 25 kV v]) (fun i => i ≤ v.2.2.1.length) (fun i => v.2.2.1.length - i) 0 (Nat.zero_le _) ?_ (own_picks (by repeat (first | exact picks_nil | refine picks_cons 0 rfl ?_ | refine picks_cons 1 rfl ?_ | refine picks_cons 2 rfl ?_ | refine picks_cons 3 rfl ?_ | refine picks_cons 4 rfl ?_ | refine picks_cons 5 rfl ?_ | refine picks_cons 6 rfl ?_))) ?_
            · exact (es_cons (t := 97) (by exact OT.tmp rfl) (es_cons (t := 3) (OT.val (OT.tmp rfl) (congrArg Value.bool (by rw [List.take_length, hpa]; rfl))) es_nil))
            · rintro i hi
              refine tr_seq ?_
              -- region 17
              refine tr_env (es_cons (t := 1) (OT.tmp rfl) (es_cons (t := 3) (OT.tmp rfl) (es_cons (t := 6) (OT.tmp rfl) (es_cons (t := 95) (OT.tmp rfl) (es_cons (t := 96) (OT.tmp rfl) (es_cons (t := 97) (OT.tmp rfl) es_nil)))))) ?_
              refine tr_region ?_
              refine op_pure (pu_lss (OT.tmp rfl) (OT.tmp rfl)) rfl rfl ?_
              refine tr_nil ?_
              refine then_normal ?_
              refine tr_seq ?_
              refine tr_cond (OT.tmp rfl) (fun c98 => ?_) (fun c98 => ?_)
              · skip
                refine tr_skip ?_
                refine then_normal ?_
                refine tr_seq ?_
                refine tr_block ?_
                refine tr_seq ?_
                -- region 18
                refine tr_env (es_cons (t := 1) (OT.tmp rfl) (es_cons (t := 3) (OT.tmp rfl) (es_cons (t := 6) (OT.tmp rfl) (es_cons (t := 95) (OT.tmp rfl) (es_cons (t := 96) (OT.tmp rfl) (es_cons (t := 97) (OT.tmp rfl) es_nil)))))) ?_
                refine tr_region ?_
                refine op_pure (pu_move (OT.tmp rfl)) rfl rfl ?_
                refine op_pure (pu_index (OT.tmp rfl) (OT.tmp rfl) Try.underlying22 (show tyOk Try.prog 9 false 1 = true from by decide +kernel) (by omega) (by (simp [maxLen] at *; omega))) rfl rfl ?_
                refine op_pure (pu_load (OT.tmp rfl) (show tyOk Try.prog 9 false 1 = true from by decide +kernel)) rfl rfl ?_
                refine op_pure (pu_assign (OT.tmp rfl)) rfl rfl ?_
                refine op_pure (pu_assign (OT.tmp rfl)) rfl rfl ?_
                refine tr_nil ?_
                refine then_normal ?_
                -- region 19
                refine tr_env (es_cons (t := 1) (OT.tmp rfl) (es_cons (t := 3) (OT.tmp rfl) (es_cons (t := 6) (OT.tmp rfl) (es_cons (t := 7) (OT.tmp rfl) (es_cons (t := 8) (OT.tmp rfl) (es_cons (t := 95) (OT.tmp rfl) (es_cons (t := 96) (OT.tmp rfl) (es_cons (t := 97) (OT.tmp rfl) es_nil)))))))) ?_
                refine tr_region ?_
                refine op_pure (pu_move (OT.tmp rfl)) rfl rfl ?_
                refine op_pure (pu_move (OT.tmp rfl)) rfl rfl ?_
                refine op_gu rfl rfl rfl (OT.gu_mk (OT.tmp rfl)) (fun hg => by (have hg1 := hg.2; (try simp only [decide_eq_true_eq, decide_eq_false_iff_not] at hg1); exact pu_move (by exact OT.tmp rfl))) rfl ?_
                refine op_gu rfl rfl rfl (OT.gu_mk (OT.tmp rfl)) (fun hg => by (have hg1 := hg.2; (try simp only [decide_eq_true_eq, decide_eq_false_iff_not] at hg1); exact pu_move (by exact OT.tmp rfl))) rfl ?_
                refine op_gu_acts () rfl rfl rfl (OT.gu_mk (OT.tmp rfl)) (fun hg => by (have hg1 := hg.2; (try simp only [decide_eq_true_eq, decide_eq_false_iff_not] at hg1); exact acts_call (ContainsS_fn (varsL v.2.2.2.1) (at' v.2.2.1 (i : Int)) (by omega)) (show enters Try.prog 30 = true from by decide +kernel) (OTs.cons (by exact OT.gu (OT.tmp rfl) hg) (OTs.cons (by exact OT.gu (OT.tmp rfl) hg) OTs.nil)) (List.Perm.refl _))) rfl (fun _ _ => ?_)
                refine op_pure (pu_pick_and (OT.tmp rfl) (by exact OT.tmp rfl)) rfl rfl ?_
                refine op_pure (pu_move (OT.tmp rfl)) rfl rfl ?_
                refine op_gu rfl rfl rfl (OT.gu_mk (OT.tmp rfl)) (fun hg => by (have hg1 := hg.2; (try simp only [decide_eq_true_eq, decide_eq_false_iff_not] at hg1); exact pu_faddr (by exact OT.tmp rfl) (show fieldOk Try.prog 25 2 2 false 1 = true from by decide +kernel))) rfl ?_
                refine op_gu rfl rfl rfl (OT.gu_mk (OT.tmp rfl)) (fun hg => by (have hg1 := hg.2; (try simp only [decide_eq_true_eq, decide_eq_false_iff_not] at hg1); exact pu_load_blk (by exact OT.gu (OT.tmp rfl) hg) (by exact mem_at 0 rfl) lv2 (show tyOk Try.prog 22 false 1 = true from by decide +kernel))) rfl ?_
                refine op_gu rfl rfl rfl (OT.gu_mk (OT.tmp rfl)) (fun hg => by (have hg1 := hg.2; (try simp only [decide_eq_true_eq, decide_eq_false_iff_not] at hg1); exact pu_move (by exact OT.tmp rfl))) rfl ?_
                refine op_gu rfl rfl rfl (OT.gu_mk (OT.tmp rfl)) (fun hg => by (have hg1 := hg.2; (try simp only [decide_eq_true_eq, decide_eq_false_iff_not] at hg1); exact pu_slice_hi (by exact OT.gu (OT.tmp rfl) hg) (by exact OT.gu (OT.tmp rfl) hg) Try.underlying22 (show tyOk Try.prog 9 false 1 = true from by decide +kernel) (by omega) (by omega))) rfl ?_
                refine op_gu rfl rfl rfl (OT.gu_mk (OT.tmp rfl)) (fun hg => by (have hg1 := hg.2; (try simp only [decide_eq_true_eq, decide_eq_false_iff_not] at hg1); exact pu_move (by exact OT.tmp rfl))) rfl ?_
                refine op_gu_acts () rfl rfl rfl (OT.gu_mk (OT.tmp rfl)) (fun hg => by (have hg1 := hg.2; (try simp only [decide_eq_true_eq, decide_eq_false_iff_not] at hg1); exact acts_call (ContainsS_fn (v.2.2.1.take (i : Int).toNat) (at' v.2.2.1 (i : Int)) (by rw [List.length_take]; omega)) (show enters Try.prog 30 = true from by decide +kernel) (OTs.cons (by exact OT.gu (OT.tmp rfl) hg) (OTs.cons (by exact OT.gu (OT.tmp rfl) hg) OTs.nil)) (List.Perm.refl _))) rfl (fun _ _ => ?_)
                refine op_gu rfl rfl rfl (OT.gu_mk (OT.tmp rfl)) (fun hg => by (have hg1 := hg.2; (try simp only [decide_eq_true_eq, decide_eq_false_iff_not] at hg1); exact pu_not (by exact OT.gu (OT.tmp rfl) hg))) rfl ?_
                refine op_pure (pu_pick_and (OT.tmp rfl) (by exact OT.tmp rfl)) rfl rfl ?_
                refine op_pure (pu_assign (OT.tmp rfl)) rfl rfl ?_
                refine tr_nil ?_
                refine block_normal ?_
                refine then_normal ?_
                -- region 20
                refine tr_env (es_cons (t := 1) (OT.tmp rfl) (es_cons (t := 3) (OT.tmp rfl) (es_cons (t := 6) (OT.tmp rfl) (es_cons (t := 95) (OT.tmp rfl) (es_cons (t := 96) (OT.tmp rfl) (es_cons (t := 97) (OT.tmp rfl) es_nil)))))) ?_
                refine tr_region ?_
                refine op_pure (pu_add' (OT.tmp rfl) OT.const (by omega)) rfl rfl ?_
                refine op_pure (pu_move (OT.tmp rfl)) rfl rfl ?_
                refine tr_nil ?_
                refine then_normal ?_
                exact tr_again (i + 1) (by simp only [decide_eq_true_eq] at c98; omega) (by simp only [decide_eq_true_eq] at c98; omega) (es_append (es_cons (t := 97) (by exact OT.tmp rfl) (es_cons (t := 3) (OT.val (OT.tmp rfl) (congrArg Value.bool (by rw [Int.toNat_natCast]; exact out_step (by simp only [decide_eq_true_eq] at c98; omega)))) es_nil)) (es_cons (t := 1) (OT.tmp rfl) (es_cons (t := 6) (OT.tmp rfl) (es_cons (t := 95) (OT.tmp rfl) (es_cons (t := 96) (OT.tmp rfl) es_nil))))) (own_picks (by repeat (first | exact picks_nil | refine picks_cons 0 rfl ?_ | refine picks_cons 1 rfl ?_ | refine picks_cons 2 rfl ?_ | refine picks_cons 3 rfl ?_ | refine picks_cons 4 rfl ?_ | refine picks_cons 5 rfl ?_ | refine picks_cons 6 rfl ?_)))
              · skip
                refine tr_exit ?_
                refine then_exit ?_
                refine then_exit ?_
                refine block_hit ?_
                refine block_normal ?_
                refine then_normal ?_
                refine tr_seq ?_
                refine tr_seq ?_
                -- region 21
                refine tr_env (es_cons (t := 3) (OT.tmp rfl) es_nil) ?_
                refine tr_region ?_
                refine op_pure (pu_move (OT.tmp rfl)) rfl rfl ?_
                refine op_pure (pu_not (OT.tmp rfl)) rfl rfl ?_
                refine tr_nil ?_
                refine then_normal ?_
                refine tr_cond (OT.tmp rfl) (fun c119 => ?_) (fun c119 => ?_)
                · skip
                  refine tr_seq ?_
                  -- region 22
                  refine tr_env es_nil ?_
                  refine tr_region ?_
                  refine op_pure (pu_assign OT.const) rfl rfl ?_
                  refine tr_nil ?_
                  refine then_normal ?_
                  refine tr_ret ?_
                  refine then_ret ?_
                  exact ret_one .ret (.inl rfl) rfl () (OT.val (OT.tmp rfl) (congrArg (Value.int _) (chk3 (b := true) c14 c34 c91 (by rw [show v.2.2.1.take i = v.2.2.1 from List.take_of_length_le (by simp only [decide_eq_false_iff_not] at c98; omega)] at c119; exact c119)))) trivial (by exact picks_nil)
                · skip
                  refine tr_skip ?_
                  refine then_normal ?_
                  refine tr_seq ?_
                  -- region 23
                  refine tr_env es_nil ?_
                  refine tr_region ?_
                  refine op_pure (pu_assign OT.const) rfl rfl ?_
                  refine tr_nil ?_
                  refine then_normal ?_
                  refine tr_ret ?_
                  exact ret_one .ret (.inl rfl) rfl () (OT.val (OT.tmp rfl) (congrArg (Value.int _) (chk3 (b := false) c14 c34 c91 (by rw [show v.2.2.1.take i = v.2.2.1 from List.take_of_length_le (by simp only [decide_eq_false_iff_not] at c98; omega)] at c119; exact c119)))) trivial (by exact picks_nil)
    · skip
      -- region 3
      refine tr_env es_nil ?_
      refine tr_region ?_
      refine op_pure (pu_assign OT.const) rfl rfl ?_
      refine tr_nil ?_
      refine block_normal ?_
      refine then_normal ?_
      refine tr_seq ?_
      refine tr_seq ?_
      -- region 21
      refine tr_env (es_cons (t := 3) (OT.tmp rfl) es_nil) ?_
      refine tr_region ?_
      refine op_pure (pu_move (OT.tmp rfl)) rfl rfl ?_
      refine op_pure (pu_not (OT.tmp rfl)) rfl rfl ?_
      refine tr_nil ?_
      refine then_normal ?_
      refine tr_cond (OT.tmp rfl) (fun c119 => ?_) (fun c119 => ?_)
      · skip
        refine tr_seq ?_
        -- region 22
        refine tr_env es_nil ?_
        refine tr_region ?_
        refine op_pure (pu_assign OT.const) rfl rfl ?_
        refine tr_nil ?_
        refine then_normal ?_
        refine tr_ret ?_
        refine then_ret ?_
        exact ret_one .ret (.inl rfl) rfl () (OT.val (OT.tmp rfl) (congrArg (Value.int _) (chk0 c14 c34))) trivial (by exact picks_nil)
      · skip
        refine tr_skip ?_
        refine then_normal ?_
        refine tr_seq ?_
        -- region 23
        refine tr_env es_nil ?_
        refine tr_region ?_
        refine op_pure (pu_assign OT.const) rfl rfl ?_
        refine tr_nil ?_
        refine then_normal ?_
        refine tr_ret ?_
        exact ret_one .ret (.inl rfl) rfl () (OT.val (OT.tmp rfl) (congrArg (Value.int _) (absurd c119 (by simp)))) trivial (by exact picks_nil)
set_option maxRecDepth 20000 in
/-- rhizome/join.bad -/
theorem bad_fn (v : Vw) (ho : v.2.2.1.length ≤ maxLen) (ha : v.2.2.2.1.length ≤ maxLen) : Ct Try.prog 25 [kV.T v] ([]) Unit (fun _ => BoolT (!okV v)) (fun _ => []) (fun _ => True) := by
  refine fn_intro Try.func25 rfl rfl ?_
  intro H w
  refine tr_seq ?_
  -- region 0
  refine tr_env (es_cons (t := 0) (OT.tmp rfl) es_nil) ?_
  refine tr_region ?_
  refine op_acts (acts_box (d := kV) (OT.tmp rfl)) (List.Perm.refl _) rfl rfl (fun g0_0 _ => ?_)
  refine op_pure (pu_assign OT.const) rfl rfl ?_
  refine tr_nil ?_
  refine then_normal ?_
  refine tr_seq ?_
  -- region 1
  refine tr_env (es_cons (t := 1) (OT.tmp rfl) es_nil) ?_
  refine tr_region ?_
  refine op_pure (pu_faddr (OT.tmp rfl) (show fieldOk Try.prog 25 1 1 false 1 = true from by decide +kernel)) rfl rfl ?_
  refine op_pure (pu_load_blk (OT.tmp rfl) (by exact mem_at 0 rfl) lv1 (show tyOk Try.prog 3 false 1 = true from by decide +kernel)) rfl rfl ?_
  refine op_pure (pu_neq (OT.tmp rfl) OT.const) rfl rfl ?_
  refine op_pure (pu_move (OT.tmp rfl)) rfl rfl ?_
  refine op_gu rfl rfl rfl (OT.gu_mk (OT.tmp rfl)) (fun hg => by (have hg1 := hg.2; (try simp only [decide_eq_true_eq, decide_eq_false_iff_not] at hg1); exact pu_load_var (by exact OT.tmp rfl) (by exact mem_at 0 rfl) (show tyOk Try.prog 25 true 5 = true from by decide +kernel))) rfl ?_
  refine op_gu_acts () rfl rfl rfl (OT.gu_mk (OT.tmp rfl)) (fun hg => by (have hg1 := hg.2; (try simp only [decide_eq_true_eq, decide_eq_false_iff_not] at hg1); exact acts_call (Check_fn _ (by assumption) (by assumption)) (show enters Try.prog 38 = true from by decide +kernel) (OTs.cons (by exact OT.gu (OT.tmp rfl) hg) OTs.nil) (List.Perm.refl _))) rfl (fun _ _ => ?_)
  refine op_gu rfl rfl rfl (OT.gu_mk (OT.tmp rfl)) (fun hg => by (have hg1 := hg.2; (try simp only [decide_eq_true_eq, decide_eq_false_iff_not] at hg1); exact pu_neq (by exact OT.gu (OT.tmp rfl) hg) OT.const)) rfl ?_
  refine op_pure (pu_pick_or (OT.tmp rfl) (by exact OT.tmp rfl)) rfl rfl ?_
  refine op_pure (pu_assign (OT.tmp rfl)) rfl rfl ?_
  refine tr_nil ?_
  refine then_normal ?_
  refine tr_ret ?_
  exact ret_one .ret (.inl rfl) rfl () (OT.val (OT.tmp rfl) (congrArg Value.bool (bad_expr v))) trivial (by exact picks_nil)
end Go.Proofs.Ytakkjljhjfkkbaa
/- Pairs and edges compared; the kinds of map keys. -/
namespace Go.Proofs.Ytakkjljhjfkkbaa
open Go Go.Gw Go.So Go.Tu Go.Jn Go.MapKept
set_option linter.unusedVariables false
set_option linter.unusedSimpArgs false
abbrev encP (p : Pr) : Value := .agg #[.int .i64 p.1, .int .i64 p.2]
abbrev encS (l : Lab) : Value := .string (bs l)
theorem aggP {H : FH} {u : Pr} {a : Value} (h : (kPP.T u).p H a) : a = encP u := by
  obtain ⟨cs, hK, rfl⟩ := kPP.ofT h
  have hl : cs.length = 2 := kPP.len hK
  obtain ⟨_, _, h2⟩ := hK
  have e0 := h2 0 u.1 rfl
  have e1 := h2 1 u.2 rfl
  match cs, hl with
  | [c0, c1], _ =>
    have f0 : [c0] = [Value.int .i64 u.1] := e0
    have f1 : [c1] = [Value.int .i64 u.2] := e1
    rw [show c0 = Value.int .i64 u.1 from by simpa using f0, show c1 = Value.int .i64 u.2 from by simpa using f1]; rfl
theorem run_equalPd (w : World) (d : Nat) (u v : Pr) : (Op.equalIn (d + 1 + 1) 75 (encP u) (encP v)).run Try.prog w = .ok (decide (u = v)) w := by
  have hu : Try.prog.underlying 75 = some (.array 2 3) := Try.underlying75
  have hk : Try.prog.plainKey 3 = true := by decide +kernel
  have h3 : Try.prog.underlying 3 = some (.int .i64) := Try.underlying3
  have hc : Try.prog.cellsOf 3 = 1 := by decide +kernel
  obtain ⟨i, hi⟩ : ∃ i, Try.prog.info? 3 = some i := Option.isSome_iff_exists.1 (by decide +kernel)
  rw [run_equalIn_array w (d + 1) _ _ hu hi, hc]
  have p : ∀ (xs : Array Value) (o : Nat) (q : Value), xs[o]? = some q → (part 3 xs o).run Try.prog w = .ok q w := fun xs o q h => run_part_plain w hk h
  have e : ∀ (a b : Int), (Op.equalIn (d + 1) 3 (.int .i64 a) (.int .i64 b)).run Try.prog w = .ok (a == b) w := fun a b => run_equalIn_int w d 3 .i64 .i64 a b h3
  have p0 : ∀ a b : Int, (part 3 #[.int .i64 a, .int .i64 b] 0).run Try.prog w = .ok (.int .i64 a) w := fun a b => p _ 0 _ rfl
  have p1 : ∀ a b : Int, (part 3 #[.int .i64 a, .int .i64 b] 1).run Try.prog w = .ok (.int .i64 b) w := fun a b => p _ 1 _ rfl
  obtain ⟨u1, u2⟩ := u
  obtain ⟨v1, v2⟩ := v
  simp only [show List.range 2 = [0, 1] from rfl, Op.eqItems, Sem.run_bind, Nat.mul_one, p0, p1, e, Result.andThen_ok]
  by_cases h1 : u1 = v1
  · by_cases h2 : u2 = v2
    · simp [h1, h2, p1, e]
    · simp [h1, h2, p1, e]
  · simp [h1]
theorem chkP (em : Bool) (k : Pr) (w : World) : (Instr.checkKey em 10000 75 (encP k)).run Try.prog w = .ok () w := by
  have hu : Try.prog.underlying 75 = some (.array 2 3) := Try.underlying75
  have h3 : Try.prog.underlying 3 = some (.int .i64) := Try.underlying3
  have hk : Try.prog.plainKey 3 = true := by decide +kernel
  have hc : Try.prog.cellsOf 3 = 1 := by decide +kernel
  obtain ⟨i, hi⟩ : ∃ i, Try.prog.info? 3 = some i := Option.isSome_iff_exists.1 (by decide +kernel)
  rw [show (10000 : Nat) = 9999 + 1 from rfl, Instr.checkKey]
  simp only [Sem.run_bind, run_underlying hu, Result.andThen_ok]
  simp only [Std.Legacy.Range.forIn_eq_forIn_range', Std.Legacy.Range.size, Nat.sub_zero, Nat.add_one_sub_one, Nat.div_one]
  have p0 : (part 3 #[.int .i64 k.1, .int .i64 k.2] 0).run Try.prog w = .ok (.int .i64 k.1) w := run_part_plain w hk rfl
  have p1 : (part 3 #[.int .i64 k.1, .int .i64 k.2] 1).run Try.prog w = .ok (.int .i64 k.2) w := run_part_plain w hk rfl
  have c : ∀ n : Int, (Instr.checkKey em 9999 3 (.int .i64 n)).run Try.prog w = .ok () w := fun n => run_checkKey h3 (by simp [IsKey]) em 9998
  rw [show List.range' 0 2 = [0, 1] from rfl]
  simp only [List.forIn_cons, List.forIn_nil, Sem.run_bind, run_sizeOf w hi, hc, Result.andThen_ok, Nat.zero_mul, Nat.one_mul, Nat.mul_one, p0, p1, c, Sem.run_pure]
theorem mkP : MKey Try.prog 75 kPP encP :=
  MKey.ofAsk (d := .array 2 3) Try.underlying75 aggP (fun a b => rfl) chkP (fun w a b => by
    rw [show Op.equal 75 (encP a) (encP b) = Op.equalIn 10000 75 (encP a) (encP b) from rfl]; exact run_equalPd w 9998 a b) (fun k => by simp [Instr.sameBits])
theorem mkI : MKey Try.prog 3 kI (Value.int .i64) := mkey_int Try.underlying3
theorem mkS : MKey Try.prog 9 kS encS :=
  MKey.ofNow Try.underlying9 (fun x => by simp [IsKey]) fun a b => by
    show some (bs a == bs b) = _
    congr 1
    rw [Bool.eq_iff_iff, bytes_beq, decide_eq_true_eq]
    exact ⟨fun h => by simpa using congrArg (fun x : ByteArray => x.data.toList) h, fun h => by rw [h]⟩
theorem ev_eq {H : FH} {t : Ed} {a : Value} (h : (kE.T t).p H a) : a = .agg #[.int .i64 t.1, .string (bs t.2.1), .int .i64 t.2.2] := by
  obtain ⟨cs, ⟨c1, c2, h1, ⟨c3, c4, h3, h4, rfl⟩, rfl⟩, rfl⟩ := h
  have e1 : c1 = [Value.int .i64 t.1] := h1
  have e3 : c3 = [Value.string (bs t.2.1)] := h3
  have e4 : c4 = [Value.int .i64 t.2.2] := h4
  subst e1 e3 e4
  rfl
abbrev tvE (t : Ed) : Array Value := #[.int .i64 t.1, .string (bs t.2.1), .int .i64 t.2.2]
theorem run_equalEd (w : World) (d : Nat) (u v : Ed) : (Op.equalIn (d + 1 + 1) 34 (.agg (tvE u)) (.agg (tvE v))).run Try.prog w = .ok (decide (u = v)) w := by
  have hf : Try.prog.underlying 34 = some (.struct (Try.prog.fieldsOf 34)) := by unfold Program.fieldsOf; rw [Try.underlying34]
  have hp : Try.prog.stoodInHeld 34 = false := by decide +kernel
  rw [run_equalIn_agg w (d + 1) 34 _ _ hf hp]
  clear hf
  simp only [Program.fieldsOf, Try.underlying34]
  have kS' : Try.prog.plainKey 9 = true := by decide +kernel
  have kI' : Try.prog.plainKey 3 = true := by decide +kernel
  have uS : Try.prog.underlying 9 = some .string := Try.underlying9
  have uI : Try.prog.underlying 3 = some (.int .i64) := Try.underlying3
  have p0 : ∀ t : Ed, (part 3 (tvE t) 0).run Try.prog w = .ok (.int .i64 t.1) w := fun t => run_part_plain w kI' rfl
  have p1 : ∀ t : Ed, (part 9 (tvE t) 1).run Try.prog w = .ok (.string (bs t.2.1)) w := fun t => run_part_plain w kS' rfl
  have p2 : ∀ t : Ed, (part 3 (tvE t) 2).run Try.prog w = .ok (.int .i64 t.2.2) w := fun t => run_part_plain w kI' rfl
  have e3 : ∀ (a b : Int), (Op.equalIn (d + 1) 3 (.int .i64 a) (.int .i64 b)).run Try.prog w = .ok (a == b) w := fun a b => run_equalIn_int w d 3 .i64 .i64 a b uI
  have e9 : ∀ (a b : List UInt8), (Op.equalIn (d + 1) 9 (.string (bs a)) (.string (bs b))).run Try.prog w = .ok (decide (a = b)) w := fun a b => by rw [run_equalIn_string w d 9 _ _ uS, beq_bs]
  obtain ⟨u0, u1, u2⟩ := u
  obtain ⟨v0, v1, v2⟩ := v
  simp only [Op.eqFields, show ("From" ≠ "_") from by decide, show ("Label" ≠ "_") from by decide, show ("To" ≠ "_") from by decide, if_true, ne_eq, not_false_eq_true, Sem.run_bind, p0, p1, p2, e3, e9, Result.andThen_ok]
  by_cases h0 : u0 = v0
  · by_cases h1 : u1 = v1
    · by_cases h2 : u2 = v2 <;> simp [h0, h1, h2, p1, p2, e3, e9, Op.eqFields]
    · simp [h0, h1, p1, e3, e9]
  · simp [h0]
theorem eqEd : EqOk Try.prog 34 kE := fun H w u v a b x y ha hb => by
  rw [ev_eq ha, ev_eq hb]
  have hg : Try.prog.eqGuardType Try.prog.depth 34 = false := by decide +kernel
  refine ⟨run_eqGuard_agg w .eql 34 x y _ _ hg, run_eqGuard_agg w .neq 34 x y _ _ hg, ?_, ?_⟩
  · rw [run_eql_struct w 34, show (Op.equalIn 10000 34 (.agg (tvE u)) (.agg (tvE v))).run Try.prog w = _ from run_equalEd w 9998 u v]; rfl
  · rw [run_neq_struct w 34, show (Op.equalIn 10000 34 (.agg (tvE u)) (.agg (tvE v))).run Try.prog w = _ from run_equalEd w 9998 u v]; rfl
end Go.Proofs.Ytakkjljhjfkkbaa
/- The memory of an index of edges, as items; an index that is read, as a type. -/
namespace Go.Proofs.Ytakkjljhjfkkbaa
open Go Go.Gw Go.So Go.Tu Go.Jn Go.MapKept
set_option linter.unusedVariables false
set_option linter.unusedSimpArgs false
abbrev kX : Kd (Value × Value × Value) := kpair kraw (kpair kraw kraw)
theorem lx0 {t : Value × Value × Value} : Lens kX kraw 0 t t.1 (fun y => (y, t.2)) := Lens.fst
theorem lx1 {t : Value × Value × Value} : Lens kX kraw 1 t t.2.1 (fun y => (t.1, y, t.2.2)) := Lens.comp (Lens.snd (a := kraw) (b := kpair kraw kraw)) (Lens.fst (a := kraw) (b := kraw))
theorem lx2 {t : Value × Value × Value} : Lens kX kraw 2 t t.2.2 (fun y => (t.1, t.2.1, y)) := Lens.comp (Lens.snd (a := kraw) (b := kpair kraw kraw)) (Lens.snd (a := kraw) (b := kraw))
theorem zX : ZeroOf Try.prog 74 kX (.map none, nilS, .map none) := ⟨.agg #[.map none, nilS, .map none], by kernel_rfl, fun H => ⟨[.map none, nilS, .map none], ⟨[_], [_, _], ⟨rfl, rfl⟩, ⟨[_], [_], ⟨rfl, rfl⟩, ⟨rfl, rfl⟩, rfl⟩, rfl⟩, rfl⟩⟩
abbrev Fr := Int × Value × List Int
structure Rec where
  g : Nat
  gf : Nat
  gh : Nat
  va : Value
  all : List Pr
  has : List (Pr × Int)
  frm : List Fr
def absR (r : Rec) : Ix := (r.frm.map (fun f => (f.1, f.2.2)), r.all, r.has)
def frI (f : Fr) : It := OwnI 3 kI f.2.1 f.2.2
def hdV (frm : List Fr) : List (Int × Value) := frm.map fun f => (f.1, f.2.1)
abbrev encI : Int → Value := Value.int .i64
def recI (r : Rec) : List It := BlkI r.g 74 kX (mp r.gf, r.va, mp r.gh) :: MapI r.gf encI IsV (hdV r.frm) :: MapI r.gh encP kI.T r.has :: OwnI 75 kPP r.va r.all :: r.frm.map frI
def recsI (m : List (Lab × Rec)) : List It := m.flatMap fun p => recI p.2
def ptrs (m : List (Lab × Rec)) : List (Lab × Value) := m.map fun p => (p.1, pt p.2.g 0)
def abss (m : List (Lab × Rec)) : List (Lab × Ix) := m.map fun p => (p.1, absR p.2)
/-- A record's address. -/
def ptrOf (o : Option Rec) : Option Addr := o.map fun r => ⟨r.g, 0, none⟩
theorem ptr_lkp (lab : Lab) (m : List (Lab × Rec)) : (lkp lab (ptrs m)).getD (.pointer none) = .pointer (ptrOf (lkp lab m)) := by
  unfold ptrs
  rw [lkp_map (fun r : Rec => pt r.g 0)]
  cases lkp lab m <;> rfl
theorem abs_lkp (lab : Lab) (m : List (Lab × Rec)) : lkp lab (abss m) = (lkp lab m).map absR := lkp_map absR
theorem abs_ptk (lab : Lab) (r : Rec) (m : List (Lab × Rec)) : abss (ptk lab r m) = ptk lab (absR r) (abss m) := ptk_map absR
theorem ptrs_ptk (lab : Lab) (r : Rec) (m : List (Lab × Rec)) : ptrs (ptk lab r m) = ptk lab (pt r.g 0) (ptrs m) := ptk_map (fun r : Rec => pt r.g 0)
theorem ptk_same {κ α : Type} [DecidableEq κ] {k : κ} {x : α} : ∀ {m : List (κ × α)}, lkp k m = some x → ptk k x m = m
  | [], h => by cases h
  | (a, b) :: m, h => by
    unfold lkp at h
    unfold ptk
    by_cases e : a = k
    · rw [if_pos e] at h ⊢; cases h; rw [← e]
    · rw [if_neg e] at h ⊢; rw [ptk_same h]
theorem recs_perm {lab : Lab} {r : Rec} {m : List (Lab × Rec)} : (recsI (ptk lab r m)).Perm (recI r ++ recsI (dlk lab m)) := by
  have := (ptk_perm (k := lab) (x := r) (m := m)).flatMap_right (fun p : Lab × Rec => recI p.2)
  exact this
theorem frs_perm {n : Int} {x : Value × List Int} {m : List Fr} : ((ptk n x m).map frI).Perm (OwnI 3 kI x.1 x.2 :: (dlk n m).map frI) := (ptk_perm (k := n) (x := x) (m := m)).map frI
theorem hdV_ptk (n : Int) (x : Value × List Int) (m : List Fr) : hdV (ptk n x m) = ptk n x.1 (hdV m) := ptk_map (fun x : Value × List Int => x.1)
theorem frA_ptk (n : Int) (x : Value × List Int) (m : List Fr) : (ptk n x m).map (fun f => (f.1, f.2.2)) = ptk n x.2 (m.map fun f => (f.1, f.2.2)) := ptk_map (fun x : Value × List Int => x.2)
theorem hdV_lkp (n : Int) (m : List Fr) : (lkp n (hdV m)).getD nilS = ((lkp n m).getD (nilS, [])).1 := by
  unfold hdV
  rw [lkp_map (fun x : Value × List Int => x.1)]
  cases lkp n m <;> rfl
theorem frA_lkp (n : Int) (m : List Fr) : (lkp n (m.map fun f => (f.1, f.2.2))).getD [] = ((lkp n m).getD (nilS, [])).2 := by
  rw [lkp_map (fun x : Value × List Int => x.2)]
  cases lkp n m <;> rfl
section
variable {C : Cx} {Γ : Env} {L R : List It} {φ : Act → World → Prop}
/-- The row of a node is picked; none: an empty one. -/
theorem tr_pickF (n : Int) {m : List Fr} (hp : L.Perm (m.map frI ++ R)) (h : Tr C Γ (OwnI 3 kI ((lkp n (hdV m)).getD nilS) ((lkp n m).getD (nilS, [])).2 :: ((dlk n m).map frI ++ R)) φ) : Tr C Γ L φ := by
  refine tr_perm hp ?_
  rw [hdV_lkp] at h
  cases hl : lkp n m with
  | none =>
    rw [hl, dlk_none (lkp_none.1 hl)] at h
    exact tr_nilItem 3 kI h
  | some x =>
    rw [hl] at h
    have h1 : (m.map frI).Perm (OwnI 3 kI x.1 x.2 :: (dlk n m).map frI) := (lkp_perm hl).map frI
    exact tr_perm (h1.append_right R) h
end
/-! ### An index that is read -/
abbrev kFrom : Kd (List (Int × List Int)) := kmap encI (ksl kI).T
abbrev kHas : Kd (List (Pr × Int)) := kmap encP kI.T
abbrev kIx : Kd Ix := kpair kFrom (kpair (ksl kPP) kHas)
theorem ly0 {t : Ix} : Lens kIx kFrom 0 t t.1 (fun y => (y, t.2)) := Lens.fst
theorem ly1 {t : Ix} : Lens kIx (ksl kPP) 1 t t.2.1 (fun y => (t.1, y, t.2.2)) := Lens.comp (Lens.snd (a := kFrom) (b := kpair (ksl kPP) kHas)) (Lens.fst (a := ksl kPP) (b := kHas))
theorem ly2 {t : Ix} : Lens kIx kHas 2 t t.2.2 (fun y => (t.1, t.2.1, y)) := Lens.comp (Lens.snd (a := kFrom) (b := kpair (ksl kPP) kHas)) (Lens.snd (a := ksl kPP) (b := kHas))
theorem recF (r : Rec) : Frz (recI r) fun H => (AtT kIx (absR r)).p H (pt r.g 0) := by
  have h1 : Frz (r.frm.map frI) fun H => ∀ f ∈ r.frm, (SlT kI f.2.2).p H f.2.1 := Frz.map_ (f := frI) (Q := fun f H => (SlT kI f.2.2).p H f.2.1) (fun f => Mono.ty) r.frm fun f => Frz.own
  have h2 := (Frz.blk (g := r.g) (t := 74) (d := kX) (x := (mp r.gf, r.va, mp r.gh))).cons Mono.ty
    ((Frz.mapI (g := r.gf) (enc := encI) (V := IsV) (m := hdV r.frm)).cons Mono.ty
      ((Frz.mapI (g := r.gh) (enc := encP) (V := kI.T) (m := r.has)).cons Mono.ty
        ((Frz.own (t := 75) (d := kPP) (v := r.va) (xs := r.all)).cons Mono.ty h1)))
  refine Frz.imp (J := recI r) h2 ?_
  rintro H ⟨q1, q2, q3, q4, q5⟩
  refine AtT.conv q1 ?_
  rintro cs ⟨c1, c2, k1, ⟨c3, c4, k3, k4, rfl⟩, rfl⟩
  have e1 : c1 = [mp r.gf] := k1.1
  have e3 : c3 = [r.va] := k3.1
  have e4 : c4 = [mp r.gh] := k4.1
  subst e1 e3 e4
  refine ⟨_, _, ⟨mp r.gf, rfl, ?_⟩, ⟨[r.va], [mp r.gh], ⟨r.va, rfl, q4⟩, ⟨mp r.gh, rfl, q3⟩, rfl⟩, rfl⟩
  show (MapT encI (ksl kI).T (r.frm.map fun f => (f.1, f.2.2))).p H (mp r.gf)
  rcases q2 with ⟨h, _⟩ | ⟨g, es, clock, h1, h2, h3⟩
  · cases h
  · refine .inr ⟨g, es, clock, h1, h2, ?_, fun i e p hi hp => ?_, ?_, h3.bn, h3.lt⟩
    · rw [h3.key]; unfold hdV; rw [List.map_map, List.map_map]; rfl
    · rw [List.getElem?_map] at hp
      cases hm : r.frm[i]? with
      | none => rw [hm] at hp; cases hp
      | some f =>
        rw [hm] at hp
        cases hp
        have h4 := h3.val i e (f.1, f.2.1) hi (by unfold hdV; rw [List.getElem?_map, hm]; rfl)
        rw [show e.val = f.2.1 from h4]
        exact q5 f (List.mem_of_getElem? hm)
    · have := h3.nd
      unfold hdV keys at this
      unfold keys
      rw [List.map_map] at this ⊢
      exact this
theorem recsF (g : Nat) (m : List (Lab × Rec)) : Frz (MapI g encS IsV (ptrs m) :: recsI m) fun H => (MapT encS (kpt kIx).T (m.map fun p => (p.1, some (absR p.2)))).p H (mp g) := by
  have h1 : Frz (recsI m) fun H => ∀ p ∈ m, (AtT kIx (absR p.2)).p H (pt p.2.g 0) := Frz.flat (f := fun p : Lab × Rec => recI p.2) (Q := fun p H => (AtT kIx (absR p.2)).p H (pt p.2.g 0)) (fun p => Mono.ty) m fun p _ => recF p.2
  refine ((Frz.mapI (g := g) (enc := encS) (V := IsV) (m := ptrs m)).cons Mono.ty h1).imp ?_
  rintro H ⟨q1, q2⟩
  rcases q1 with ⟨h, _⟩ | ⟨g', es, clock, h1, h2, h3⟩
  · cases h
  · refine .inr ⟨g', es, clock, h1, h2, ?_, fun i e p hi hp => ?_, ?_, h3.bn, h3.lt⟩
    · rw [h3.key]; unfold ptrs; rw [List.map_map, List.map_map]; rfl
    · rw [List.getElem?_map] at hp
      cases hm : m[i]? with
      | none => rw [hm] at hp; cases hp
      | some f =>
        rw [hm] at hp
        cases hp
        have h4 := h3.val i e (f.1, pt f.2.g 0) hi (by unfold ptrs; rw [List.getElem?_map, hm]; rfl)
        rw [show e.val = pt f.2.g 0 from h4]
        exact q2 f (List.mem_of_getElem? hm)
    · have := h3.nd
      unfold ptrs keys at this
      unfold keys
      rw [List.map_map] at this ⊢
      exact this
end Go.Proofs.Ytakkjljhjfkkbaa
/- Steps of byLabel's walk over the index's items. -/
namespace Go.Gw
open Go
theorem picks_all {L : List It} : Picks L L := ⟨[], by simp⟩
theorem picks_drop {L M : List It} {x : It} (h : Picks L M) : Picks (x :: L) M := let ⟨R, hR⟩ := h; ⟨x :: R, (hR.cons x).trans List.perm_middle.symm⟩
theorem picks_trans {L M N : List It} (h : Picks L M) (h' : Picks M N) : Picks L N := by
  obtain ⟨R, hR⟩ := h
  obtain ⟨S, hS⟩ := h'
  exact ⟨S ++ R, hR.trans ((hS.append_right R).trans (by rw [List.append_assoc]))⟩
theorem picks_perm {L M : List It} (h : L.Perm M) : Picks L M := ⟨[], by simpa using h⟩
end Go.Gw
namespace Go.Proofs.Ytakkjljhjfkkbaa
open Go Go.Gw Go.So Go.Tu Go.Jn Go.MapKept
set_option linter.unusedVariables false
set_option linter.unusedSimpArgs false
section
variable {C : Cx} {Γ : Env} {X Y : List It} {φ : Act → World → Prop}
theorem tr_pickF2 (n : Int) {m : List Fr} (h : Tr C Γ (OwnI 3 kI ((lkp n (hdV m)).getD nilS) ((lkp n m).getD (nilS, [])).2 :: (Y ++ ((dlk n m).map frI ++ X))) φ) : Tr C Γ (Y ++ (m.map frI ++ X)) φ := by
  have hp : (Y ++ (m.map frI ++ X)).Perm (m.map frI ++ (Y ++ X)) := by
    rw [← List.append_assoc, ← List.append_assoc]
    exact List.Perm.append_right X List.perm_append_comm
  refine tr_pickF n hp (tr_perm ?_ h)
  refine List.Perm.cons _ ?_
  rw [← List.append_assoc, ← List.append_assoc]
  exact List.Perm.append_right X List.perm_append_comm
theorem tr_pickR2 (lab : Lab) {r : Rec} {m : List (Lab × Rec)} (hl : lkp lab m = some r) (h : Tr C Γ (Y ++ (recI r ++ recsI (dlk lab m))) φ) : Tr C Γ (Y ++ recsI m) φ :=
  tr_perm (List.Perm.append_left Y ((lkp_perm hl).flatMap_right (fun p : Lab × Rec => recI p.2))) h
end
theorem recs_back {g : Nat} {lab : Lab} {r : Rec} {recs : List (Lab × Rec)} : Picks (MapI g encS IsV (ptrs (ptk lab r recs)) :: (recI r ++ recsI (dlk lab recs))) (MapI g encS IsV (ptrs (ptk lab r recs)) :: recsI (ptk lab r recs)) := picks_perm (recs_perm.symm.cons _)
theorem frs_back {n : Int} {x : Value × List Int} {m : List Fr} {X : List It} : Picks (OwnI 3 kI x.1 x.2 :: ((dlk n m).map frI ++ X)) ((ptk n x m).map frI ++ X) := picks_perm ((frs_perm.symm.append_right X))
theorem step_yes {r : Rec} {p : Pr} {v w : Value} (hc : (lkp p r.has).getD 0 + 1 = 1) : absR { r with has := ptk p ((lkp p r.has).getD 0 + 1) r.has, all := r.all ++ [p], va := v, frm := ptk p.1 (w, ((lkp p.1 r.frm).getD (nilS, [])).2 ++ [p.2]) r.frm } = stepI (absR r) p := by
  unfold stepI absR
  simp only [if_pos hc, frA_ptk, frA_lkp]
theorem step_no {r : Rec} {p : Pr} (hc : ¬ (lkp p r.has).getD 0 + 1 = 1) : absR { r with has := ptk p ((lkp p r.has).getD 0 + 1) r.has } = stepI (absR r) p := by
  unfold stepI absR
  simp only [if_neg hc]
theorem lab_step {l : List Ed} {k : Nat} {e : Ed} {recs : List (Lab × Rec)} {r r' : Rec} (h : k < l.length) (he : at' l (k : Int) = e) (hr : abss recs = byLab (l.take k)) (hc : absR r = (lkp e.2.1 (byLab (l.take k))).getD ([], [], [])) (hs : absR r' = stepI (absR r) (e.1, e.2.2)) : abss (ptk e.2.1 r' recs) = byLab (l.take (k + 1)) := by
  rw [abs_ptk, hs, hr, hc]
  rw [at'_nat h] at he
  rw [List.take_succ_eq_append_getElem h, he]
  unfold byLab
  rw [List.foldl_append]; rfl
theorem cur_bound {l : List Ed} {k : Nat} {lab : Lab} {r : Rec} (h : k ≤ l.length) (hc : absR r = (lkp lab (byLab (l.take k))).getD ([], [], [])) (p : Pr) : 0 ≤ (lkp p r.has).getD 0 ∧ (lkp p r.has).getD 0 ≤ l.length ∧ r.all.length ≤ l.length ∧ ((lkp p.1 r.frm).getD (nilS, [])).2.length ≤ l.length := by
  obtain ⟨hx, _⟩ := byLab_ok (l.take k) lab
  rw [← hc] at hx
  have h1 := prs_len (l.take k) lab
  rw [List.length_take] at h1
  have h2 := hx.h0 p
  have h3 := hx.hl p
  have h4 := hx.al
  have h5 := hx.fl p.1
  have e5 : (lkp p.1 (absR r).1).getD [] = ((lkp p.1 r.frm).getD (nilS, [])).2 := frA_lkp p.1 r.frm
  rw [e5] at h5
  have e4 : (absR r).2.1 = r.all := rfl
  rw [e4] at h4
  have e3 : (absR r).2.2 = r.has := rfl
  rw [e3] at h2 h3
  refine ⟨h2, ?_, ?_, ?_⟩ <;> omega
def optM (m : List (Lab × Ix)) : List (Lab × Option Ix) := m.map fun p => (p.1, some p.2)
theorem optM_abs (m : List (Lab × Rec)) : (m.map fun p => (p.1, some (absR p.2))) = optM (abss m) := by unfold optM abss; rw [List.map_map]; rfl
end Go.Proofs.Ytakkjljhjfkkbaa
namespace Go.Proofs.Ytakkjljhjfkkbaa
open Go Go.Gw Go.So Go.Tu Go.Jn Go.MapKept
set_option linter.unusedVariables false
set_option linter.unusedSimpArgs false
section
variable {g : Nat} {lab : Lab} {r : Rec} {recs : List (Lab × Rec)} {T1 T2 : It}
theorem own_yes {n : Int} {w va : Value} {xs : List Int} {all : List Pr} {has : List (Pr × Int)} :
    Picks (MapI r.gf encI IsV (ptk n w (hdV r.frm)) :: OwnI 3 kI w xs :: BlkI r.g 74 kX (mp r.gf, va, mp r.gh) :: OwnI 75 kPP va all :: MapI r.gh encP kI.T has :: T1 :: MapI g encS IsV (ptrs (ptk lab r recs)) :: T2 :: ((dlk n r.frm).map frI ++ recsI (dlk lab recs)))
      (MapI g encS IsV (ptrs (ptk lab { r with has := has, all := all, va := va, frm := ptk n (w, xs) r.frm } recs)) :: recsI (ptk lab { r with has := has, all := all, va := va, frm := ptk n (w, xs) r.frm } recs)) := by
  refine picks_trans ?_ recs_back
  rw [ptrs_ptk, ptrs_ptk]
  unfold recI
  rw [hdV_ptk]
  refine picks_cons 6 rfl (picks_cons 2 rfl (picks_cons 0 rfl (picks_cons 2 rfl (picks_cons 1 rfl ?_))))
  show Picks (OwnI 3 kI w xs :: T1 :: T2 :: ((dlk n r.frm).map frI ++ recsI (dlk lab recs))) ((ptk n (w, xs) r.frm).map frI ++ recsI (dlk lab recs))
  refine picks_trans ?_ frs_back
  exact picks_cons 0 rfl (picks_drop (picks_drop picks_all))
theorem own_no {has : List (Pr × Int)} :
    Picks (MapI r.gh encP kI.T has :: T1 :: MapI g encS IsV (ptrs (ptk lab r recs)) :: T2 :: BlkI r.g 74 kX (mp r.gf, r.va, mp r.gh) :: MapI r.gf encI IsV (hdV r.frm) :: OwnI 75 kPP r.va r.all :: (r.frm.map frI ++ recsI (dlk lab recs)))
      (MapI g encS IsV (ptrs (ptk lab { r with has := has } recs)) :: recsI (ptk lab { r with has := has } recs)) := by
  refine picks_trans ?_ recs_back
  rw [ptrs_ptk, ptrs_ptk]
  unfold recI
  exact picks_cons 2 rfl (picks_cons 3 rfl (picks_cons 3 rfl (picks_cons 0 rfl (picks_cons 2 rfl (picks_drop (picks_drop picks_all))))))
theorem own_new {gx gf gh : Nat} (hn : lkp lab recs = none) :
    Picks (MapI g encS IsV (ptk lab (pt gx 0) (ptrs recs)) :: OwnI 75 kPP nilS [] :: BlkI gx 74 kX (mp gf, nilS, mp gh) :: MapI gh encP kI.T [] :: MapI gf encI IsV [] :: T1 :: recsI recs)
      (MapI g encS IsV (ptrs (ptk lab ⟨gx, gf, gh, nilS, [], [], []⟩ recs)) :: T1 :: (recI ⟨gx, gf, gh, nilS, [], [], []⟩ ++ recsI (dlk lab recs))) := by
  rw [ptrs_ptk, dlk_none (lkp_none.1 hn)]
  exact picks_cons 0 rfl (picks_cons 4 rfl (picks_cons 1 rfl (picks_cons 2 rfl (picks_cons 1 rfl (picks_cons 0 rfl picks_all)))))
theorem own_old (hr : lkp lab recs = some r) :
    Picks (T1 :: MapI g encS IsV (ptrs recs) :: (recI r ++ recsI (dlk lab recs))) (MapI g encS IsV (ptrs (ptk lab r recs)) :: T1 :: (recI r ++ recsI (dlk lab recs))) := by
  rw [ptk_same hr]
  exact picks_cons 1 rfl (picks_cons 0 rfl picks_all)
end
end Go.Proofs.Ytakkjljhjfkkbaa
/- Rows with an atom more, counted as they come. Plain Lean. -/
namespace Go.Jn
open Go Go.Gw Go.Tu
set_option linter.unusedVariables false
set_option linter.unusedSimpArgs false
section
variable {x : Ix} {r : Tp} {f t : Nat} {nx : List Tp}
abbrev goodN (nx : List Tp) (o : Option Ix) (r : Tp) (f t : Nat) : Bool := decide (nx.length + (ext o r f t).length ≤ 3000)
theorem ext_A (h1 : f < r.length) (h2 : t < r.length) : ext (some x) r f t = if (lkp (r.getD f 0, r.getD t 0) x.2.2).getD 0 = 0 then [] else [r] := by rw [ext_some, if_pos ⟨h1, h2⟩]
theorem ext_B (h1 : f < r.length) (h2 : ¬ t < r.length) : ext (some x) r f t = ((lkp (r.getD f 0) x.1).getD []).map (fun b => r ++ [b]) := by rw [ext_some, if_neg (fun e => h2 e.2), if_pos h1]
theorem ext_C (h1 : ¬ f < r.length) : ext (some x) r f t = x.2.1.filterMap (extC r t) := by rw [ext_some, if_neg (fun e => h1 e.1), if_neg h1]
theorem A_yes {b : Bool} (h1 : f < r.length) (h2 : t < r.length) (hc : decide ((lkp (r.getD f 0, r.getD t 0) x.2.2).getD 0 = 0) = false) (hb : b = decide (((nx ++ [r]).length : Int) ≤ 3000)) : (decide ((lkp (r.getD f 0, r.getD t 0) x.2.2).getD 0 = 0) || b) = goodN nx (some x) r f t := by
  unfold goodN
  rw [ext_A h1 h2, if_neg (by simpa using hc), hc, hb, Bool.false_or, Bool.eq_iff_iff]
  simp only [decide_eq_true_eq, List.length_append, List.length_singleton]; omega
theorem A_no {b : Bool} (h1 : f < r.length) (h2 : t < r.length) (hn : nx.length ≤ 3000) (hc : decide ((lkp (r.getD f 0, r.getD t 0) x.2.2).getD 0 = 0) = true) : (decide ((lkp (r.getD f 0, r.getD t 0) x.2.2).getD 0 = 0) || b) = goodN nx (some x) r f t := by
  unfold goodN
  rw [ext_A h1 h2, if_pos (by simpa using hc), hc, Bool.true_or]
  symm; simpa using hn
theorem map_snoc {α β : Type} [Inhabited α] {l : List α} (f : α → β) {k : Nat} (h : k < l.length) : (l.take (k + 1)).map f = (l.take k).map f ++ [f (at' l (k : Int))] := by
  rw [at'_nat h, List.take_succ_eq_append_getElem h, List.map_append]; rfl
theorem fmap_snoc {α β : Type} [Inhabited α] {l : List α} (f : α → Option β) {k : Nat} (h : k < l.length) : (l.take (k + 1)).filterMap f = (l.take k).filterMap f ++ (f (at' l (k : Int))).toList := by
  rw [at'_nat h, List.take_succ_eq_append_getElem h, List.filterMap_append]
  congr 1
theorem B_false {i : Nat} {bl : List Int} (he : (lkp (r.getD f 0) x.1).getD [] = bl) (h1 : f < r.length) (h2 : ¬ t < r.length) (hi : i < bl.length) {s : List Tp} (hs : s.length = nx.length + i + 1) (hc : ¬ ((s.length : Int) ≤ 3000)) : false = goodN nx (some x) r f t := by
  unfold goodN
  rw [ext_B h1 h2, he, List.length_map]
  symm; simp only [decide_eq_false_iff_not]; omega
theorem B_true {bl : List Int} (he : (lkp (r.getD f 0) x.1).getD [] = bl) (h1 : f < r.length) (h2 : ¬ t < r.length) (hn : nx.length + bl.length ≤ 3000) : true = goodN nx (some x) r f t := by
  unfold goodN
  rw [ext_B h1 h2, he, List.length_map]
  symm; simpa using hn
theorem fmap_le {α β : Type} (f : α → Option β) (l : List α) (k : Nat) : ((l.take k).filterMap f).length ≤ (l.filterMap f).length := by
  have h := List.take_append_drop k l
  have h2 : (l.filterMap f).length = ((l.take k).filterMap f).length + ((l.drop k).filterMap f).length := by
    conv => lhs; rw [← h]
    rw [List.filterMap_append, List.length_append]
  omega
theorem C_false {i : Nat} (h1 : ¬ f < r.length) {s : List Tp} (hs : s = nx ++ (x.2.1.take (i + 1)).filterMap (extC r t)) (hc : ¬ ((s.length : Int) ≤ 3000)) : false = goodN nx (some x) r f t := by
  unfold goodN
  rw [ext_C h1]
  have := fmap_le (extC r t) x.2.1 (i + 1)
  rw [hs, List.length_append] at hc
  symm; simp only [decide_eq_false_iff_not]; omega
theorem C_true (h1 : ¬ f < r.length) (hn : (nx ++ x.2.1.filterMap (extC r t)).length ≤ 3000) : true = goodN nx (some x) r f t := by
  unfold goodN
  rw [ext_C h1, ← List.length_append]
  symm; simpa using hn
end
end Go.Jn
/- Walks through the Go functions join.byLabel, as typed contracts. -/
namespace Go.Proofs.Ytakkjljhjfkkbaa
open Go Go.Gw Go.So Go.Tu Go.Jn
set_option linter.unusedVariables false
set_option linter.unusedSimpArgs false

set_option maxRecDepth 20000 in
/-- rhizome/join.byLabel -/
theorem byLabel_fn (l : List Ed) (hm : l.length ≤ 1000000) : Ct Try.prog 26 [SlT kE l] ([]) Unit (fun _ => MapT encS (kpt kIx).T (optM (byLab l))) (fun _ => []) (fun _ => True) := by
  refine fn_intro Try.func26 rfl rfl ?_
  intro H w
  refine tr_seq ?_
  -- region 0
  refine tr_env (es_cons (t := 0) (OT.tmp rfl) es_nil) ?_
  refine tr_region ?_
  refine op_pure (pu_assign OT.const) rfl rfl ?_
  refine tr_nil ?_
  refine then_normal ?_
  refine tr_seq ?_
  -- region 1
  refine tr_env (es_cons (t := 0) (OT.tmp rfl) es_nil) ?_
  refine tr_region ?_
  refine op_acts (acts_makeMap encS IsV) (List.Perm.refl _) rfl rfl (fun g1_0 _ => ?_)
  refine op_pure (pu_assign (OT.tmp rfl)) rfl rfl ?_
  refine tr_nil ?_
  refine then_normal ?_
  refine tr_seq ?_
  refine tr_seq ?_
  -- region 2
  refine tr_env (es_cons (t := 0) (OT.tmp rfl) (es_cons (t := 3) (OT.tmp rfl) es_nil)) ?_
  refine tr_region ?_
  refine op_pure (pu_move (OT.tmp rfl)) rfl rfl ?_
  refine op_pure (pu_len_sl (OT.tmp rfl) Try.underlying26) rfl rfl ?_
  refine op_pure (pu_move OT.const) rfl rfl ?_
  refine tr_nil ?_
  refine then_normal ?_
  refine tr_block ?_
  refine tr_loopK (σ := Nat × List (Lab × Rec)) (es_cons (t := 3) (OT.tmp rfl) (es_cons (t := 9) (OT.tmp rfl) (es_cons (t := 10) (OT.tmp rfl) es_nil))) (fun s => [(11, I64 (s.1 : Int))]) (fun s => (MapI g1_0 encS IsV (ptrs s.2) :: recsI s.2)) (fun s => s.1 ≤ l.length ∧ abss s.2 = byLab (l.take s.1)) (fun s => l.length - s.1) (0, []) ⟨Nat.zero_le _, rfl⟩ ?_ (own_picks picks_all) ?_
  · exact (es_cons (t := 11) (by exact OT.tmp rfl) es_nil)
  · rintro ⟨k, recs⟩ ⟨hk, habs⟩
    dsimp only at hk habs ⊢
    refine tr_seq ?_
    -- region 3
    refine tr_env (es_cons (t := 3) (OT.tmp rfl) (es_cons (t := 9) (OT.tmp rfl) (es_cons (t := 10) (OT.tmp rfl) (es_cons (t := 11) (OT.tmp rfl) es_nil)))) ?_
    refine tr_region ?_
    refine op_pure (pu_lss (OT.tmp rfl) (OT.tmp rfl)) rfl rfl ?_
    refine tr_nil ?_
    refine then_normal ?_
    refine tr_seq ?_
    refine tr_cond (OT.tmp rfl) (fun c12 => ?_) (fun c12 => ?_)
    · skip
      refine tr_skip ?_
      refine then_normal ?_
      refine tr_seq ?_
      refine tr_block ?_
      refine tr_seq ?_
      -- region 4
      refine tr_env (es_cons (t := 3) (OT.tmp rfl) (es_cons (t := 9) (OT.tmp rfl) (es_cons (t := 10) (OT.tmp rfl) (es_cons (t := 11) (OT.tmp rfl) es_nil)))) ?_
      have hkl : k < l.length := by simpa using c12
      obtain ⟨e, he⟩ : ∃ e, at' l (k : Int) = e := ⟨_, rfl⟩
      refine tr_region ?_
      refine op_pure (pu_index (OT.tmp rfl) (OT.tmp rfl) Try.underlying26 (show tyOk Try.prog 34 true 3 = true from by decide +kernel) (by omega) (by omega)) rfl rfl ?_
      refine op_pure (pu_load (OT.tmp rfl) (show tyOk Try.prog 34 true 3 = true from by decide +kernel)) rfl rfl ?_
      refine op_acts (acts_alloc (zE)) (List.Perm.refl _) rfl rfl (fun g4_2 _ => ?_)
      refine op_acts (acts_store_var (OT.tmp rfl) (OT.tmp rfl) (by exact perm_at 0 rfl) (show tyOk Try.prog 34 true 3 = true from by decide +kernel)) (by exact perm_at 0 rfl) rfl rfl (fun _ _ => ?_)
      refine tr_nil ?_
      refine then_normal ?_
      refine tr_seq ?_
      -- region 5
      refine tr_env (es_cons (t := 3) (OT.tmp rfl) (es_cons (t := 5) (OT.tmp rfl) (es_cons (t := 9) (OT.tmp rfl) (es_cons (t := 10) (OT.tmp rfl) (es_cons (t := 11) (OT.tmp rfl) es_nil))))) ?_
      rw [he]
      refine tr_region ?_
      refine op_pure (pu_move (OT.tmp rfl)) rfl rfl ?_
      refine op_pure (pu_faddr (OT.tmp rfl) (show fieldOk Try.prog 34 1 1 false 1 = true from by decide +kernel)) rfl rfl ?_
      refine op_pure (pu_load_blk (OT.tmp rfl) (by exact mem_at 0 rfl) le1 (show tyOk Try.prog 9 false 1 = true from by decide +kernel)) rfl rfl ?_
      refine op_pure (pu_lookup_raw mkS Try.underlying58 (z0 := (.pointer none)) (by kernel_rfl) (OT.tmp rfl) (by exact mem_at 1 rfl) (OT.tmp rfl)) rfl rfl ?_
      refine op_pure (pu_assign (OT.tmp rfl)) rfl rfl ?_
      refine tr_nil ?_
      refine then_normal ?_
      refine tr_joinK (σ := Rec) (es_cons (t := 3) (OT.tmp rfl) (es_cons (t := 5) (OT.tmp rfl) (es_cons (t := 9) (OT.tmp rfl) (es_cons (t := 10) (OT.tmp rfl) (es_cons (t := 11) (OT.tmp rfl) es_nil))))) (fun cur => [(6, IsV (pt cur.g 0))]) (fun cur => MapI g1_0 encS IsV (ptrs (ptk e.2.1 cur recs)) :: BlkI g4_2 34 kE e :: BlkI cur.g 74 kX (mp cur.gf, cur.va, mp cur.gh) :: MapI cur.gf encI IsV (hdV cur.frm) :: MapI cur.gh encP kI.T cur.has :: OwnI 75 kPP cur.va cur.all :: (cur.frm.map frI ++ recsI (dlk e.2.1 recs))) (fun cur => absR cur = (lkp e.2.1 (byLab (l.take k))).getD ([], [], [])) ?_ ?_
      · skip
        refine tr_seq ?_
        -- region 6
        refine tr_env (es_cons (t := 3) (OT.tmp rfl) (es_cons (t := 5) (OT.tmp rfl) (es_cons (t := 6) (OT.tmp rfl) (es_cons (t := 9) (OT.tmp rfl) (es_cons (t := 10) (OT.tmp rfl) (es_cons (t := 11) (OT.tmp rfl) es_nil)))))) ?_
        rw [ptr_lkp]
        refine tr_region ?_
        refine op_pure (pu_move (OT.tmp rfl)) rfl rfl ?_
        refine op_pure (pu_ptr_eql ptr_is (OT.tmp rfl) Try.underlying62) rfl rfl ?_
        refine tr_nil ?_
        refine then_normal ?_
        refine tr_cond (OT.tmp rfl) (fun c20 => ?_) (fun c20 => ?_)
        · skip
          have hnone : lkp e.2.1 recs = none := by
            cases hx : lkp e.2.1 recs with
            | none => rfl
            | some r => rw [hx] at c20; cases c20
          refine tr_seq ?_
          -- region 7
          refine tr_env (es_cons (t := 3) (OT.tmp rfl) (es_cons (t := 5) (OT.tmp rfl) (es_cons (t := 9) (OT.tmp rfl) (es_cons (t := 10) (OT.tmp rfl) (es_cons (t := 11) (OT.tmp rfl) es_nil))))) ?_
          refine tr_region ?_
          refine op_acts (acts_makeMap encI IsV) (List.Perm.refl _) rfl rfl (fun g7_0 _ => ?_)
          refine op_acts (acts_makeMap encP kI.T) (List.Perm.refl _) rfl rfl (fun g7_1 _ => ?_)
          refine op_pure (pu_build (d := kX) (v0 := (.map none, nilS, .map none)) (ps := [(0, 1), (1, 1), (2, 1)]) zX (by kernel_rfl) rfl (fills_cons rfl lx0 (by exact OT.raw (OT.tmp rfl) rfl) (fills_cons rfl lx2 (by exact OT.raw (OT.tmp rfl) rfl) fills_nil))) rfl rfl ?_
          refine op_acts (acts_box (d := kX) (OT.tmp rfl)) (List.Perm.refl _) rfl rfl (fun g7_3 _ => ?_)
          refine op_pure (pu_assign (OT.tmp rfl)) rfl rfl ?_
          refine tr_nil ?_
          refine then_normal ?_
          -- region 8
          refine tr_env (es_cons (t := 3) (OT.tmp rfl) (es_cons (t := 5) (OT.tmp rfl) (es_cons (t := 6) (OT.tmp rfl) (es_cons (t := 9) (OT.tmp rfl) (es_cons (t := 10) (OT.tmp rfl) (es_cons (t := 11) (OT.tmp rfl) es_nil)))))) ?_
          refine tr_nilItem 75 kPP ?_
          refine tr_region ?_
          refine op_pure (pu_move (OT.tmp rfl)) rfl rfl ?_
          refine op_pure (pu_faddr (OT.tmp rfl) (show fieldOk Try.prog 34 1 1 false 1 = true from by decide +kernel)) rfl rfl ?_
          refine op_pure (pu_load_blk (OT.tmp rfl) (by exact mem_at 4 rfl) le1 (show tyOk Try.prog 9 false 1 = true from by decide +kernel)) rfl rfl ?_
          refine op_pure (pu_move (OT.tmp rfl)) rfl rfl ?_
          refine op_acts (acts_update mkS Try.underlying58 (OT.tmp rfl) (by exact perm_at 5 rfl) (OT.tmp rfl) (OT.tmp rfl)) (by exact perm_at 5 rfl) rfl rfl (fun _ _ => ?_)
          refine tr_nil ?_
          refine then_normal ?_
          exact tr_joined ({ g := g7_3, gf := g7_0, gh := g7_1, va := nilS, all := [], has := [], frm := [] }) (by rw [← habs, abs_lkp, hnone]; rfl) (es_append (es_cons (t := 6) (by exact OT.tmp rfl) es_nil) (es_cons (t := 3) (OT.tmp rfl) (es_cons (t := 5) (OT.tmp rfl) (es_cons (t := 9) (OT.tmp rfl) (es_cons (t := 10) (OT.tmp rfl) (es_cons (t := 11) (OT.tmp rfl) es_nil)))))) (own_picks (own_new hnone))
        · skip
          obtain ⟨r, hr⟩ : ∃ r, lkp e.2.1 recs = some r := by
            cases hx : lkp e.2.1 recs with
            | none => rw [hx] at c20; cases c20
            | some r => exact ⟨r, rfl⟩
          refine tr_pickR2 (Y := [_, _]) e.2.1 hr ?_
          rw [hr]
          refine tr_skip ?_
          refine then_normal ?_
          exact tr_joined r (by rw [← habs, abs_lkp, hr]; rfl) (es_append (es_cons (t := 6) (by exact OT.tmp rfl) es_nil) (es_cons (t := 3) (OT.tmp rfl) (es_cons (t := 5) (OT.tmp rfl) (es_cons (t := 9) (OT.tmp rfl) (es_cons (t := 10) (OT.tmp rfl) (es_cons (t := 11) (OT.tmp rfl) es_nil)))))) (own_picks (own_old hr))
      · rintro cur hcur
        refine tr_seq ?_
        -- region 9
        refine tr_env (es_cons (t := 3) (OT.tmp rfl) (es_cons (t := 5) (OT.tmp rfl) (es_cons (t := 6) (OT.tmp rfl) (es_cons (t := 9) (OT.tmp rfl) (es_cons (t := 10) (OT.tmp rfl) (es_cons (t := 11) (OT.tmp rfl) es_nil)))))) ?_
        obtain ⟨hb1, hb2, hb3, hb4⟩ := cur_bound (l := l) (by omega) hcur (e.1, e.2.2)
        refine tr_region ?_
        refine op_pure (pu_faddr (OT.tmp rfl) (show fieldOk Try.prog 34 0 0 false 1 = true from by decide +kernel)) rfl rfl ?_
        refine op_pure (pu_load_blk (OT.tmp rfl) (by exact mem_at 1 rfl) le0 (show tyOk Try.prog 3 false 1 = true from by decide +kernel)) rfl rfl ?_
        refine op_pure (pu_faddr (OT.tmp rfl) (show fieldOk Try.prog 34 2 2 false 1 = true from by decide +kernel)) rfl rfl ?_
        refine op_pure (pu_load_blk (OT.tmp rfl) (by exact mem_at 1 rfl) le2 (show tyOk Try.prog 3 false 1 = true from by decide +kernel)) rfl rfl ?_
        refine op_pure (pu_build_arr (d := kPP) (v0 := (0, 0)) (agg := false) Try.underlying75 (show tyOk Try.prog 3 false 1 = true from by decide +kernel) zP rfl (fills_cons rfl Lens.p0 (OT.tmp rfl) (fills_cons rfl Lens.p1 (OT.tmp rfl) fills_nil))) rfl rfl ?_
        refine op_acts (acts_alloc (zP)) (List.Perm.refl _) rfl rfl (fun g9_5 _ => ?_)
        refine op_acts (acts_store_var (OT.tmp rfl) (OT.tmp rfl) (by exact perm_at 0 rfl) (show tyOk Try.prog 75 true 2 = true from by decide +kernel)) (by exact perm_at 0 rfl) rfl rfl (fun _ _ => ?_)
        refine tr_nil ?_
        refine then_normal ?_
        refine tr_seq ?_
        -- region 10
        refine tr_env (es_cons (t := 3) (OT.tmp rfl) (es_cons (t := 5) (OT.tmp rfl) (es_cons (t := 6) (OT.tmp rfl) (es_cons (t := 7) (OT.tmp rfl) (es_cons (t := 9) (OT.tmp rfl) (es_cons (t := 10) (OT.tmp rfl) (es_cons (t := 11) (OT.tmp rfl) es_nil))))))) ?_
        refine tr_perm (perm_at 5 rfl) (tr_perm (perm_at 1 rfl) ?_)
        apply tr_anyG (ρ := Nat) (φ := fun rr => True) (p := 7) (Lf := fun c rr => cond c (MapE cur.gh encP kI.T (ptk (e.1, e.2.2) ((lkp (e.1, e.2.2) cur.has).getD 0) cur.has) (e.1, e.2.2) rr :: BlkI g9_5 75 kPP (e.1, e.2.2) :: MapI g1_0 encS IsV (ptrs (ptk e.2.1 cur recs)) :: BlkI g4_2 34 kE e :: BlkI cur.g 74 kX (mp cur.gf, cur.va, mp cur.gh) :: MapI cur.gf encI IsV (hdV cur.frm) :: OwnI 75 kPP cur.va cur.all :: (cur.frm.map frI ++ recsI (dlk e.2.1 recs))) (BlkI g9_5 75 kPP (e.1, e.2.2) :: MapI cur.gh encP kI.T cur.has :: MapI g1_0 encS IsV (ptrs (ptk e.2.1 cur recs)) :: BlkI g4_2 34 kE e :: BlkI cur.g 74 kX (mp cur.gf, cur.va, mp cur.gh) :: MapI cur.gf encI IsV (hdV cur.frm) :: OwnI 75 kPP cur.va cur.all :: (cur.frm.map frI ++ recsI (dlk e.2.1 recs)))) 0 (by kernel_rfl) (m := 9) (ns := [[(6, none)], [(34, some 0)], [(35, some 1)], [(36, some 2)], [(7, none)], [(37, some 3), (38, some 4)], [(39, some 5)], [(37, some 3), (38, some 4)], [(41, some 7)]]) (by kernel_rfl) (by kernel_rfl) (Ts := fun rr => [_, _, _, _, _, _, _, TupT [kI.T ((lkp (e.1, e.2.2) cur.has).getD 0), I64 (rr : Int)], I64 (rr : Int)]) (fun _ => rfl)
        case hops =>
          refine ⟨?_, ⟨?_, ⟨?_, ⟨?_, ⟨?_, ⟨?_, ⟨?_, ⟨?_, ⟨?_, trivial⟩⟩⟩⟩⟩⟩⟩⟩⟩
          · refine ⟨?_, ?_⟩
            · intro c r hc; cases c
              · exact ropg_of r rfl (And.intro rfl trivial) (rop_pure rfl (pu_move (OT.tmp rfl)))
              · exact Bool.noConfusion (hc.symm.trans (by kernel_rfl : okFlag _ _ _ _ = false))
            · exact fun _ _ _ _ => rfl
          · refine ⟨?_, ?_⟩
            · intro c r hc; cases c
              · exact ropg_of r rfl (And.intro rfl trivial) (rop_pure rfl (pu_nilCheck (OT.tmp rfl)))
              · exact Bool.noConfusion (hc.symm.trans (by kernel_rfl : okFlag _ _ _ _ = false))
            · exact fun _ _ _ _ => rfl
          · refine ⟨?_, ?_⟩
            · intro c r hc; cases c
              · exact ropg_of r rfl (And.intro rfl trivial) (rop_pure rfl (pu_faddr (OT.tmp rfl) (show fieldOk Try.prog 74 2 2 false 1 = true from by decide +kernel)))
              · exact Bool.noConfusion (hc.symm.trans (by kernel_rfl : okFlag _ _ _ _ = false))
            · exact fun _ _ _ _ => rfl
          · refine ⟨?_, ?_⟩
            · intro c r hc; cases c
              · exact ropg_of r rfl (And.intro rfl trivial) (rop_pure rfl (pu_load_rawf (OT.tmp rfl) (by exact mem_at 4 rfl) lx2 (show tyOk Try.prog 71 false 1 = true from by decide +kernel)))
              · exact Bool.noConfusion (hc.symm.trans (by kernel_rfl : okFlag _ _ _ _ = false))
            · exact fun _ _ _ _ => rfl
          · refine ⟨?_, ?_⟩
            · intro c r hc; cases c
              · exact ropg_of r rfl (And.intro rfl trivial) (rop_pure rfl (pu_load_var (OT.tmp rfl) (by exact mem_at 0 rfl) (show tyOk Try.prog 75 true 2 = true from by decide +kernel)))
              · exact Bool.noConfusion (hc.symm.trans (by kernel_rfl : okFlag _ _ _ _ = false))
            · exact fun _ _ _ _ => rfl
          · refine ⟨?_, ?_⟩
            · intro c r hc; cases c
              · exact ropg_of r rfl (And.intro rfl trivial) (rop_pure rfl (pu_lookup_own mkP Try.underlying71 zI (OT.tmp rfl) (by exact mem_at 1 rfl) (OT.tmp rfl)))
              · exact ropg_of r rfl (And.intro rfl trivial) (rop_pure rfl (pu_lookup_entry mkP Try.underlying71 zI (OT.tmp rfl) (by exact mem_at 0 rfl) (OT.tmp rfl)))
            · exact fun _ _ _ _ => rfl
          · refine ⟨?_, ?_⟩
            · intro c r hc; cases c
              · exact ropg_of r rfl (And.intro rfl trivial) (rop_pure rfl (pu_add' (OT.tmp rfl) OT.const (by omega)))
              · exact ropg_of r rfl (And.intro rfl trivial) (rop_pure rfl (pu_add' (OT.tmp rfl) OT.const (by omega)))
            · exact fun _ _ _ _ => rfl
          · refine ⟨?_, ?_⟩
            · intro c r hc; cases c
              · exact ropg_acts rfl (acts_entry mkP Try.underlying71 zI (OT.tmp rfl) (by exact perm_at 1 rfl) (OT.tmp rfl)) (by exact perm_at 1 rfl) (fun r => (List.Perm.refl _)) (fun _ _ _ => trivial) (fun _ _ _ _ h => h)
              · exact Bool.noConfusion (hc.symm.trans (by kernel_rfl : okFlag _ _ _ _ = false))
            · exact fun _ h => absurd h (by decide)
          · refine ⟨?_, ?_⟩
            · intro c r hc; cases c
              · exact Bool.noConfusion (hc.symm.trans (by kernel_rfl : okFlag _ _ _ _ = false))
              · exact ropg_of r rfl (And.intro rfl trivial) (rop_pure rfl (pu_extract (OT.tmp rfl) rfl))
            · exact fun h => Bool.noConfusion (h.symm.trans (by kernel_rfl : okFlag _ _ _ _ = false))
        case h =>
          intro s10_7 _
          refine op_acts (acts_entryStore (OT.tmp rfl) (by exact perm_at 0 rfl) (OT.tmp rfl) (OT.tmp rfl)) (by exact perm_at 0 rfl) rfl rfl (fun _ _ => ?_)
          refine tr_nil ?_
          rw [ptk_put]
          refine then_normal ?_
          refine tr_seq ?_
          -- region 11
          refine tr_env (es_cons (t := 3) (OT.tmp rfl) (es_cons (t := 5) (OT.tmp rfl) (es_cons (t := 6) (OT.tmp rfl) (es_cons (t := 7) (OT.tmp rfl) (es_cons (t := 9) (OT.tmp rfl) (es_cons (t := 10) (OT.tmp rfl) (es_cons (t := 11) (OT.tmp rfl) es_nil))))))) ?_
          apply tr_any (m := 5) (ns := [[(6, none)], [(43, some 0)], [(44, some 1)], [(45, some 2)], [(7, none)]]) (by kernel_rfl) (by kernel_rfl) (Ts := [_, _, _, _, _]) rfl
          case hops =>
            refine ⟨?_, ⟨?_, ⟨?_, ⟨?_, ⟨?_, trivial⟩⟩⟩⟩⟩
            · exact rop_pure rfl (pu_move (OT.tmp rfl))
            · exact rop_pure rfl (pu_nilCheck (OT.tmp rfl))
            · exact rop_pure rfl (pu_faddr (OT.tmp rfl) (show fieldOk Try.prog 74 2 2 false 1 = true from by decide +kernel))
            · exact rop_pure rfl (pu_load_rawf (OT.tmp rfl) (by exact mem_at 4 rfl) lx2 (show tyOk Try.prog 71 false 1 = true from by decide +kernel))
            · exact rop_pure rfl (pu_load_var (OT.tmp rfl) (by exact mem_at 1 rfl) (show tyOk Try.prog 75 true 2 = true from by decide +kernel))
          case h =>
            refine op_pure (pu_lookup_own mkP Try.underlying71 zI (OT.tmp rfl) (by exact mem_at 0 rfl) (OT.tmp rfl)) rfl rfl ?_
            refine op_pure (pu_eql (OT.tmp rfl) OT.const) rfl rfl ?_
            refine tr_nil ?_
            refine then_normal ?_
            refine tr_cond (OT.tmp rfl) (fun c49 => ?_) (fun c49 => ?_)
            · skip
              have hc : ((lkp (e.1, e.2.2) cur.has).getD 0 + 1) = 1 := by rw [lkp_put, if_pos rfl] at c49; simpa using c49
              refine tr_seq ?_
              -- region 12
              refine tr_env (es_cons (t := 3) (OT.tmp rfl) (es_cons (t := 5) (OT.tmp rfl) (es_cons (t := 6) (OT.tmp rfl) (es_cons (t := 7) (OT.tmp rfl) (es_cons (t := 9) (OT.tmp rfl) (es_cons (t := 10) (OT.tmp rfl) (es_cons (t := 11) (OT.tmp rfl) es_nil))))))) ?_
              apply tr_anyG (ρ := Value) (φ := fun rr => True) (p := 7) (Lf := fun c rr => cond c (OwnI 75 kPP rr (cur.all ++ [(e.1, e.2.2)]) :: MapI cur.gh encP kI.T (ptk (e.1, e.2.2) ((lkp (e.1, e.2.2) cur.has).getD 0 + 1) cur.has) :: BlkI g9_5 75 kPP (e.1, e.2.2) :: MapI g1_0 encS IsV (ptrs (ptk e.2.1 cur recs)) :: BlkI g4_2 34 kE e :: BlkI cur.g 74 kX (mp cur.gf, cur.va, mp cur.gh) :: MapI cur.gf encI IsV (hdV cur.frm) ::  (cur.frm.map frI ++ recsI (dlk e.2.1 recs))) (MapI cur.gh encP kI.T (ptk (e.1, e.2.2) ((lkp (e.1, e.2.2) cur.has).getD 0 + 1) cur.has) :: BlkI g9_5 75 kPP (e.1, e.2.2) :: MapI g1_0 encS IsV (ptrs (ptk e.2.1 cur recs)) :: BlkI g4_2 34 kE e :: BlkI cur.g 74 kX (mp cur.gf, cur.va, mp cur.gh) :: MapI cur.gf encI IsV (hdV cur.frm) :: OwnI 75 kPP cur.va cur.all :: (cur.frm.map frI ++ recsI (dlk e.2.1 recs)))) nilS (by kernel_rfl) (m := 8) (ns := [[(6, none)], [(6, none)], [(51, some 1)], [(52, some 2)], [(53, some 3)], [(7, none)], [(55, some 5)], [(54, some 4), (56, some 6)]]) (by kernel_rfl) (by kernel_rfl) (Ts := fun rr => [_, _, _, _, _, _, _, IsV rr]) (fun _ => rfl)
              case hops =>
                refine ⟨?_, ⟨?_, ⟨?_, ⟨?_, ⟨?_, ⟨?_, ⟨?_, ⟨?_, trivial⟩⟩⟩⟩⟩⟩⟩⟩
                · refine ⟨?_, ?_⟩
                  · intro c r hc; cases c
                    · exact ropg_of r rfl (And.intro rfl trivial) (rop_pure rfl (pu_move (OT.tmp rfl)))
                    · exact ropg_of r rfl (And.intro rfl trivial) (rop_pure rfl (pu_move (OT.tmp rfl)))
                  · exact fun _ _ _ _ => rfl
                · refine ⟨?_, ?_⟩
                  · intro c r hc; cases c
                    · exact ropg_of r rfl (And.intro rfl trivial) (rop_pure rfl (pu_move (OT.tmp rfl)))
                    · exact Bool.noConfusion (hc.symm.trans (by kernel_rfl : okFlag _ _ _ _ = false))
                  · exact fun _ _ _ _ => rfl
                · refine ⟨?_, ?_⟩
                  · intro c r hc; cases c
                    · exact ropg_of r rfl (And.intro rfl trivial) (rop_pure rfl (pu_nilCheck (OT.tmp rfl)))
                    · exact Bool.noConfusion (hc.symm.trans (by kernel_rfl : okFlag _ _ _ _ = false))
                  · exact fun _ _ _ _ => rfl
                · refine ⟨?_, ?_⟩
                  · intro c r hc; cases c
                    · exact ropg_of r rfl (And.intro rfl trivial) (rop_pure rfl (pu_faddr (OT.tmp rfl) (show fieldOk Try.prog 74 1 1 false 1 = true from by decide +kernel)))
                    · exact Bool.noConfusion (hc.symm.trans (by kernel_rfl : okFlag _ _ _ _ = false))
                  · exact fun _ _ _ _ => rfl
                · refine ⟨?_, ?_⟩
                  · intro c r hc; cases c
                    · exact ropg_of r rfl (And.intro rfl trivial) (rop_pure rfl (pu_load_rawf (OT.tmp rfl) (by exact mem_at 4 rfl) lx1 (show tyOk Try.prog 72 false 1 = true from by decide +kernel)))
                    · exact Bool.noConfusion (hc.symm.trans (by kernel_rfl : okFlag _ _ _ _ = false))
                  · exact fun _ _ _ _ => rfl
                · refine ⟨?_, ?_⟩
                  · intro c r hc; cases c
                    · exact ropg_of r rfl (And.intro rfl trivial) (rop_pure rfl (pu_load_var (OT.tmp rfl) (by exact mem_at 1 rfl) (show tyOk Try.prog 75 true 2 = true from by decide +kernel)))
                    · exact Bool.noConfusion (hc.symm.trans (by kernel_rfl : okFlag _ _ _ _ = false))
                  · exact fun _ _ _ _ => rfl
                · refine ⟨?_, ?_⟩
                  · intro c r hc; cases c
                    · exact ropg_of r rfl (And.intro rfl trivial) (rop_acts rfl (acts_lit (d := kPP) (v0 := (0, 0)) (show slTy Try.prog 72 75 2 16 = true from by decide +kernel) (show tyOk Try.prog 75 true 2 = true from by decide +kernel) zP (show 1 * 2 ≤ 16777216 from by decide) (by decide) (fills_arr rfl rfl (by decide) (OT.tmp rfl) fills_nil)) (fun _ _ _ _ h => h))
                    · exact Bool.noConfusion (hc.symm.trans (by kernel_rfl : okFlag _ _ _ _ = false))
                  · exact fun _ _ _ _ => rfl
                · refine ⟨?_, ?_⟩
                  · intro c r hc; cases c
                    · exact ropg_acts rfl (acts_append (OT.tmp rfl) (by exact perm_at 6 rfl) (OT.tmp rfl) (show slTy Try.prog 72 75 2 16 = true from by decide +kernel) (by (simp; omega)) (by (simp [maxLen]; omega))) (by exact perm_at 6 rfl) (fun r => (List.Perm.refl _)) (fun _ _ _ => trivial) (fun _ _ _ _ h => h)
                    · exact Bool.noConfusion (hc.symm.trans (by kernel_rfl : okFlag _ _ _ _ = false))
                  · exact fun _ h => absurd h (by decide)
              case h =>
                intro v12_7 _
                refine op_pure (pu_nilCheck (OT.tmp rfl)) rfl rfl ?_
                refine op_pure (pu_faddr (OT.tmp rfl) (show fieldOk Try.prog 74 1 1 false 1 = true from by decide +kernel)) rfl rfl ?_
                refine tr_fact (mem_at 0 rfl) own_cell fun hone => ?_
                refine op_acts (acts_store_rawf (OT.tmp rfl) (OT.tmp rfl) (by assumption) (by exact perm_at 5 rfl) lx1 (show tyOk Try.prog 72 false 1 = true from by decide +kernel)) (by exact perm_at 5 rfl) rfl rfl (fun _ _ => ?_)
                refine tr_nil ?_
                refine then_normal ?_
                -- region 13
                refine tr_env (es_cons (t := 3) (OT.tmp rfl) (es_cons (t := 5) (OT.tmp rfl) (es_cons (t := 6) (OT.tmp rfl) (es_cons (t := 9) (OT.tmp rfl) (es_cons (t := 10) (OT.tmp rfl) (es_cons (t := 11) (OT.tmp rfl) es_nil)))))) ?_
                refine tr_pickF2 (Y := [_, _, _, _, _, _, _]) e.1 ?_
                apply tr_anyG (ρ := Value) (φ := fun rr => True) (p := 16) (Lf := fun c rr => cond c (OwnI 3 kI rr (((lkp e.1 cur.frm).getD (nilS, [])).2 ++ [e.2.2]) :: BlkI cur.g 74 kX (mp cur.gf, v12_7, mp cur.gh) :: OwnI 75 kPP v12_7 (cur.all ++ [(e.1, e.2.2)]) :: MapI cur.gh encP kI.T (ptk (e.1, e.2.2) ((lkp (e.1, e.2.2) cur.has).getD 0 + 1) cur.has) :: BlkI g9_5 75 kPP (e.1, e.2.2) :: MapI g1_0 encS IsV (ptrs (ptk e.2.1 cur recs)) :: BlkI g4_2 34 kE e :: MapI cur.gf encI IsV (hdV cur.frm) :: ((dlk e.1 cur.frm).map frI ++ recsI (dlk e.2.1 recs))) (OwnI 3 kI ((lkp e.1 (hdV cur.frm)).getD nilS) ((lkp e.1 cur.frm).getD (nilS, [])).2 :: BlkI cur.g 74 kX (mp cur.gf, v12_7, mp cur.gh) :: OwnI 75 kPP v12_7 (cur.all ++ [(e.1, e.2.2)]) :: MapI cur.gh encP kI.T (ptk (e.1, e.2.2) ((lkp (e.1, e.2.2) cur.has).getD 0 + 1) cur.has) :: BlkI g9_5 75 kPP (e.1, e.2.2) :: MapI g1_0 encS IsV (ptrs (ptk e.2.1 cur recs)) :: BlkI g4_2 34 kE e :: MapI cur.gf encI IsV (hdV cur.frm) :: ((dlk e.1 cur.frm).map frI ++ recsI (dlk e.2.1 recs)))) nilS (by kernel_rfl) (m := 17) (ns := [[(6, none)], [(60, some 0)], [(61, some 1)], [(62, some 2)], [(5, none)], [(64, some 4)], [(6, none)], [(66, some 6)], [(67, some 7)], [(68, some 8)], [(5, none)], [(70, some 10)], [(69, some 9), (71, some 11)], [(5, none)], [(73, some 13)], [(74, some 14)], [(72, some 12), (75, some 15)]]) (by kernel_rfl) (by kernel_rfl) (Ts := fun rr => [_, _, _, _, _, _, _, _, _, _, _, _, _, _, _, _, IsV rr]) (fun _ => rfl)
                case hops =>
                  refine ⟨?_, ⟨?_, ⟨?_, ⟨?_, ⟨?_, ⟨?_, ⟨?_, ⟨?_, ⟨?_, ⟨?_, ⟨?_, ⟨?_, ⟨?_, ⟨?_, ⟨?_, ⟨?_, ⟨?_, trivial⟩⟩⟩⟩⟩⟩⟩⟩⟩⟩⟩⟩⟩⟩⟩⟩⟩
                  · refine ⟨?_, ?_⟩
                    · intro c r hc; cases c
                      · exact ropg_of r rfl (And.intro rfl trivial) (rop_pure rfl (pu_move (OT.tmp rfl)))
                      · exact ropg_of r rfl (And.intro rfl trivial) (rop_pure rfl (pu_move (OT.tmp rfl)))
                    · exact fun _ _ _ _ => rfl
                  · refine ⟨?_, ?_⟩
                    · intro c r hc; cases c
                      · exact ropg_of r rfl (And.intro rfl trivial) (rop_pure rfl (pu_nilCheck (OT.tmp rfl)))
                      · exact ropg_of r rfl (And.intro rfl trivial) (rop_pure rfl (pu_nilCheck (OT.tmp rfl)))
                    · exact fun _ _ _ _ => rfl
                  · refine ⟨?_, ?_⟩
                    · intro c r hc; cases c
                      · exact ropg_of r rfl (And.intro rfl trivial) (rop_pure rfl (pu_faddr (OT.tmp rfl) (show fieldOk Try.prog 74 0 0 false 1 = true from by decide +kernel)))
                      · exact ropg_of r rfl (And.intro rfl trivial) (rop_pure rfl (pu_faddr (OT.tmp rfl) (show fieldOk Try.prog 74 0 0 false 1 = true from by decide +kernel)))
                    · exact fun _ _ _ _ => rfl
                  · refine ⟨?_, ?_⟩
                    · intro c r hc; cases c
                      · exact ropg_of r rfl (And.intro rfl trivial) (rop_pure rfl (pu_load_rawf (OT.tmp rfl) (by exact mem_at 1 rfl) lx0 (show tyOk Try.prog 70 false 1 = true from by decide +kernel)))
                      · exact ropg_of r rfl (And.intro rfl trivial) (rop_pure rfl (pu_load_rawf (OT.tmp rfl) (by exact mem_at 1 rfl) lx0 (show tyOk Try.prog 70 false 1 = true from by decide +kernel)))
                    · exact fun _ _ _ _ => rfl
                  · refine ⟨?_, ?_⟩
                    · intro c r hc; cases c
                      · exact ropg_of r rfl (And.intro rfl trivial) (rop_pure rfl (pu_faddr (OT.tmp rfl) (show fieldOk Try.prog 34 0 0 false 1 = true from by decide +kernel)))
                      · exact ropg_of r rfl (And.intro rfl trivial) (rop_pure rfl (pu_faddr (OT.tmp rfl) (show fieldOk Try.prog 34 0 0 false 1 = true from by decide +kernel)))
                    · exact fun _ _ _ _ => rfl
                  · refine ⟨?_, ?_⟩
                    · intro c r hc; cases c
                      · exact ropg_of r rfl (And.intro rfl trivial) (rop_pure rfl (pu_load_blk (OT.tmp rfl) (by exact mem_at 6 rfl) le0 (show tyOk Try.prog 3 false 1 = true from by decide +kernel)))
                      · exact ropg_of r rfl (And.intro rfl trivial) (rop_pure rfl (pu_load_blk (OT.tmp rfl) (by exact mem_at 6 rfl) le0 (show tyOk Try.prog 3 false 1 = true from by decide +kernel)))
                    · exact fun _ _ _ _ => rfl
                  · refine ⟨?_, ?_⟩
                    · intro c r hc; cases c
                      · exact ropg_of r rfl (And.intro rfl trivial) (rop_pure rfl (pu_move (OT.tmp rfl)))
                      · exact Bool.noConfusion (hc.symm.trans (by kernel_rfl : okFlag _ _ _ _ = false))
                    · exact fun _ _ _ _ => rfl
                  · refine ⟨?_, ?_⟩
                    · intro c r hc; cases c
                      · exact ropg_of r rfl (And.intro rfl trivial) (rop_pure rfl (pu_nilCheck (OT.tmp rfl)))
                      · exact Bool.noConfusion (hc.symm.trans (by kernel_rfl : okFlag _ _ _ _ = false))
                    · exact fun _ _ _ _ => rfl
                  · refine ⟨?_, ?_⟩
                    · intro c r hc; cases c
                      · exact ropg_of r rfl (And.intro rfl trivial) (rop_pure rfl (pu_faddr (OT.tmp rfl) (show fieldOk Try.prog 74 0 0 false 1 = true from by decide +kernel)))
                      · exact Bool.noConfusion (hc.symm.trans (by kernel_rfl : okFlag _ _ _ _ = false))
                    · exact fun _ _ _ _ => rfl
                  · refine ⟨?_, ?_⟩
                    · intro c r hc; cases c
                      · exact ropg_of r rfl (And.intro rfl trivial) (rop_pure rfl (pu_load_rawf (OT.tmp rfl) (by exact mem_at 1 rfl) lx0 (show tyOk Try.prog 70 false 1 = true from by decide +kernel)))
                      · exact Bool.noConfusion (hc.symm.trans (by kernel_rfl : okFlag _ _ _ _ = false))
                    · exact fun _ _ _ _ => rfl
                  · refine ⟨?_, ?_⟩
                    · intro c r hc; cases c
                      · exact ropg_of r rfl (And.intro rfl trivial) (rop_pure rfl (pu_faddr (OT.tmp rfl) (show fieldOk Try.prog 34 0 0 false 1 = true from by decide +kernel)))
                      · exact Bool.noConfusion (hc.symm.trans (by kernel_rfl : okFlag _ _ _ _ = false))
                    · exact fun _ _ _ _ => rfl
                  · refine ⟨?_, ?_⟩
                    · intro c r hc; cases c
                      · exact ropg_of r rfl (And.intro rfl trivial) (rop_pure rfl (pu_load_blk (OT.tmp rfl) (by exact mem_at 6 rfl) le0 (show tyOk Try.prog 3 false 1 = true from by decide +kernel)))
                      · exact Bool.noConfusion (hc.symm.trans (by kernel_rfl : okFlag _ _ _ _ = false))
                    · exact fun _ _ _ _ => rfl
                  · refine ⟨?_, ?_⟩
                    · intro c r hc; cases c
                      · exact ropg_of r rfl (And.intro rfl trivial) (rop_pure rfl (pu_lookup_raw mkI Try.underlying70 (z0 := nilS) (by kernel_rfl) (OT.tmp rfl) (by exact mem_at 7 rfl) (OT.tmp rfl)))
                      · exact Bool.noConfusion (hc.symm.trans (by kernel_rfl : okFlag _ _ _ _ = false))
                    · exact fun _ _ _ _ => rfl
                  · refine ⟨?_, ?_⟩
                    · intro c r hc; cases c
                      · exact ropg_of r rfl (And.intro rfl trivial) (rop_pure rfl (pu_faddr (OT.tmp rfl) (show fieldOk Try.prog 34 2 2 false 1 = true from by decide +kernel)))
                      · exact Bool.noConfusion (hc.symm.trans (by kernel_rfl : okFlag _ _ _ _ = false))
                    · exact fun _ _ _ _ => rfl
                  · refine ⟨?_, ?_⟩
                    · intro c r hc; cases c
                      · exact ropg_of r rfl (And.intro rfl trivial) (rop_pure rfl (pu_load_blk (OT.tmp rfl) (by exact mem_at 6 rfl) le2 (show tyOk Try.prog 3 false 1 = true from by decide +kernel)))
                      · exact Bool.noConfusion (hc.symm.trans (by kernel_rfl : okFlag _ _ _ _ = false))
                    · exact fun _ _ _ _ => rfl
                  · refine ⟨?_, ?_⟩
                    · intro c r hc; cases c
                      · exact ropg_of r rfl (And.intro rfl trivial) (rop_acts rfl (acts_lit (d := kI) (v0 := 0) (show slTy Try.prog 36 3 1 8 = true from by decide +kernel) (show tyOk Try.prog 3 false 1 = true from by decide +kernel) zI (show 1 * 1 ≤ 16777216 from by decide) (by decide) (fills_arr rfl rfl (by decide) (OT.tmp rfl) fills_nil)) (fun _ _ _ _ h => h))
                      · exact Bool.noConfusion (hc.symm.trans (by kernel_rfl : okFlag _ _ _ _ = false))
                    · exact fun _ _ _ _ => rfl
                  · refine ⟨?_, ?_⟩
                    · intro c r hc; cases c
                      · exact ropg_acts rfl (acts_append (OT.tmp rfl) (by exact perm_at 0 rfl) (OT.tmp rfl) (show slTy Try.prog 36 3 1 8 = true from by decide +kernel) (by (simp [maxLen] at *; omega)) (by (simp [maxLen] at *; omega))) (by exact perm_at 0 rfl) (fun r => (List.Perm.refl _)) (fun _ _ _ => trivial) (fun _ _ _ _ h => h)
                      · exact Bool.noConfusion (hc.symm.trans (by kernel_rfl : okFlag _ _ _ _ = false))
                    · exact fun _ h => absurd h (by decide)
                case h =>
                  intro v13_16 _
                  refine op_acts (acts_update mkI Try.underlying70 (OT.tmp rfl) (by exact perm_at 7 rfl) (OT.tmp rfl) (OT.tmp rfl)) (by exact perm_at 7 rfl) rfl rfl (fun _ _ => ?_)
                  refine tr_nil ?_
                  refine block_normal ?_
                  refine then_normal ?_
                  -- region 14
                  refine tr_env (es_cons (t := 3) (OT.tmp rfl) (es_cons (t := 9) (OT.tmp rfl) (es_cons (t := 10) (OT.tmp rfl) (es_cons (t := 11) (OT.tmp rfl) es_nil)))) ?_
                  refine tr_region ?_
                  refine op_pure (pu_add' (OT.tmp rfl) OT.const (by omega)) rfl rfl ?_
                  refine op_pure (pu_move (OT.tmp rfl)) rfl rfl ?_
                  refine tr_nil ?_
                  refine then_normal ?_
                  exact tr_again (k + 1, ptk e.2.1 { cur with has := (ptk (e.1, e.2.2) ((lkp (e.1, e.2.2) cur.has).getD 0 + 1) cur.has), all := cur.all ++ [(e.1, e.2.2)], va := v12_7, frm := ptk e.1 (v13_16, ((lkp e.1 cur.frm).getD (nilS, [])).2 ++ [e.2.2]) cur.frm } recs) ⟨(by show k + 1 ≤ l.length; omega), lab_step hkl he habs hcur (step_yes hc)⟩ (by omega) (es_append (es_cons (t := 11) (by exact OT.tmp rfl) es_nil) (es_cons (t := 3) (OT.tmp rfl) (es_cons (t := 9) (OT.tmp rfl) (es_cons (t := 10) (OT.tmp rfl) es_nil)))) (own_picks own_yes)
            · skip
              have hc : ¬ ((lkp (e.1, e.2.2) cur.has).getD 0 + 1) = 1 := by rw [lkp_put, if_pos rfl] at c49; simpa using c49
              refine tr_skip ?_
              refine block_normal ?_
              refine then_normal ?_
              -- region 14
              refine tr_env (es_cons (t := 3) (OT.tmp rfl) (es_cons (t := 9) (OT.tmp rfl) (es_cons (t := 10) (OT.tmp rfl) (es_cons (t := 11) (OT.tmp rfl) es_nil)))) ?_
              refine tr_region ?_
              refine op_pure (pu_add' (OT.tmp rfl) OT.const (by omega)) rfl rfl ?_
              refine op_pure (pu_move (OT.tmp rfl)) rfl rfl ?_
              refine tr_nil ?_
              refine then_normal ?_
              exact tr_again (k + 1, ptk e.2.1 { cur with has := (ptk (e.1, e.2.2) ((lkp (e.1, e.2.2) cur.has).getD 0 + 1) cur.has) } recs) ⟨(by show k + 1 ≤ l.length; omega), lab_step hkl he habs hcur (step_no hc)⟩ (by omega) (es_append (es_cons (t := 11) (by exact OT.tmp rfl) es_nil) (es_cons (t := 3) (OT.tmp rfl) (es_cons (t := 9) (OT.tmp rfl) (es_cons (t := 10) (OT.tmp rfl) es_nil)))) (own_picks own_no)
    · skip
      refine tr_exit ?_
      refine then_exit ?_
      refine then_exit ?_
      refine block_hit ?_
      refine then_normal ?_
      refine tr_seq ?_
      -- region 15
      refine tr_env (es_cons (t := 3) (OT.tmp rfl) es_nil) ?_
      have hkl : k = l.length := by simp only [decide_eq_false_iff_not] at c12; omega
      rw [hkl, List.take_length] at habs
      refine tr_region ?_
      refine op_pure (pu_move (OT.tmp rfl)) rfl rfl ?_
      refine op_pure (pu_assign (OT.tmp rfl)) rfl rfl ?_
      refine tr_nil ?_
      refine tr_frz (recsF g1_0 recs) (R := []) (by rw [List.append_nil]) 2 (OT.tmp rfl) (fun H q => by rw [optM_abs, habs] at q; exact q) ?_
      refine then_normal ?_
      refine tr_ret ?_
      exact ret_one .ret (.inl rfl) rfl () (OT.tmp rfl) trivial (by exact picks_nil)
end Go.Proofs.Ytakkjljhjfkkbaa
/- Walks through the Go functions api.Tuple,int], join.Rows$1, join.extend, as typed contracts. -/
namespace Go.Proofs.Ytakkjljhjfkkbaa
open Go Go.Gw Go.So Go.Tu Go.Jn
set_option linter.unusedVariables false
set_option linter.unusedSimpArgs false
abbrev takeV (g : Nat) : Value := .func (.func 27) #[] #[pt g 0]
theorem zLI : ZeroOf Try.prog 36 (ksl kI) [] := ⟨nilS, by kernel_rfl, fun H => nil_sl⟩
theorem zPt : ZeroOf Try.prog 62 (kpt kIx) none := ⟨.pointer none, by kernel_rfl, fun H => rfl⟩
theorem zr : ZeroOf Try.prog 35 kraw nilS := ⟨nilS, by kernel_rfl, fun H => ⟨rfl, rfl⟩⟩

set_option maxRecDepth 20000 in
/-- slices.Clone[rhizome/api.Tuple,int] -/
theorem CloneO_fn (xs : Tp) (hm : xs.length ≤ 1000000) : Ct Try.prog 39 [SlT kI xs] ([]) Value (fun v => IsV v) (fun v => [OwnI 3 kI v xs]) (fun _ => True) := by
  refine fn_intro Try.func39 rfl rfl ?_
  intro H w
  refine tr_seq ?_
  -- region 0
  refine tr_env (es_cons (t := 0) (OT.tmp rfl) es_nil) ?_
  refine tr_region ?_
  refine op_pure (pu_assign OT.const) rfl rfl ?_
  refine tr_nil ?_
  refine then_normal ?_
  refine tr_seq ?_
  refine tr_seq ?_
  -- region 1
  refine tr_env (es_cons (t := 0) (OT.tmp rfl) es_nil) ?_
  refine tr_region ?_
  refine op_pure (pu_move (OT.tmp rfl)) rfl rfl ?_
  refine op_acts (acts_isnil (OT.tmp rfl) Try.underlying45) (List.Perm.refl _) rfl rfl (fun b1 hb1 => ?_)
  refine tr_nil ?_
  refine then_normal ?_
  refine tr_cond (OT.tmp rfl) (fun c4 => ?_) (fun c4 => ?_)
  · try simp only [decide_eq_true_eq, decide_eq_false_iff_not, Bool.or_eq_true, Bool.and_eq_true, Bool.or_eq_false_iff, Bool.and_eq_false_iff, Bool.not_eq_true', Bool.not_eq_false', ne_eq, Classical.not_not] at c4
    obtain rfl := hb1 c4
    refine tr_nilItem 3 kI ?_
    refine tr_seq ?_
    -- region 2
    refine tr_env es_nil ?_
    refine tr_region ?_
    refine op_pure (pu_assign OT.const) rfl rfl ?_
    refine tr_nil ?_
    refine then_normal ?_
    refine tr_ret ?_
    refine then_ret ?_
    exact ret_one .ret (.inl rfl) rfl nilS (OT.tmp rfl) trivial (by repeat (first | exact picks_nil | refine picks_cons 0 rfl ?_ | refine picks_cons 1 rfl ?_ | refine picks_cons 2 rfl ?_ | refine picks_cons 3 rfl ?_ | refine picks_cons 4 rfl ?_ | refine picks_cons 5 rfl ?_ | refine picks_cons 6 rfl ?_ | refine picks_cons 7 rfl ?_ | refine picks_cons 8 rfl ?_))
  · try simp only [decide_eq_true_eq, decide_eq_false_iff_not, Bool.or_eq_true, Bool.and_eq_true, Bool.or_eq_false_iff, Bool.and_eq_false_iff, Bool.not_eq_true', Bool.not_eq_false', ne_eq, Classical.not_not] at c4
    refine tr_skip ?_
    refine then_normal ?_
    refine tr_seq ?_
    -- region 3
    refine tr_env (es_cons (t := 0) (OT.tmp rfl) es_nil) ?_
    refine tr_region ?_
    refine op_acts (acts_lit_own (d := kI) (v0 := 0) (show slTy Try.prog 45 3 1 8 = true from by decide +kernel) (show tyOk Try.prog 3 false 1 = true from by decide +kernel) zI (show 0 * 1 ≤ 16777216 from by decide) (by decide) fills_nil) (List.Perm.refl _) rfl rfl (fun v3_0 _ => ?_)
    refine op_pure (pu_move (OT.tmp rfl)) rfl rfl ?_
    refine op_acts (acts_append (OT.tmp rfl) (by exact perm_at 0 rfl) (OT.tmp rfl) (show slTy Try.prog 45 3 1 8 = true from by decide +kernel) (by (simp; omega)) (by (simp [maxLen]; omega))) (by exact perm_at 0 rfl) rfl rfl (fun v3_2 _ => ?_)
    refine op_pure (pu_assign (OT.tmp rfl)) rfl rfl ?_
    refine tr_nil ?_
    refine then_normal ?_
    refine tr_ret ?_
    exact ret_one .ret (.inl rfl) rfl _ (OT.tmp rfl) trivial (by repeat (first | exact picks_nil | refine picks_cons 0 rfl ?_ | refine picks_cons 1 rfl ?_ | refine picks_cons 2 rfl ?_ | refine picks_cons 3 rfl ?_ | refine picks_cons 4 rfl ?_ | refine picks_cons 5 rfl ?_ | refine picks_cons 6 rfl ?_ | refine picks_cons 7 rfl ?_ | refine picks_cons 8 rfl ?_))
set_option maxRecDepth 20000 in
/-- rhizome/join.Rows$1 -/
theorem Rows1_fn (t : Tp) (g : Nat) (v : Value) (nx : List Tp) (hm : nx.length ≤ 1000000) : Ct Try.prog 27 [SlT kI t, IsV (pt g 0)] ([BlkI g 35 kraw v, OwnI 45 kT v (nx)]) Value (fun r => BoolT (decide (((nx ++ [t]).length : Int) ≤ 3000))) (fun r => [BlkI g 35 kraw r, OwnI 45 kT r (nx ++ [t])]) (fun _ => True) := by
  refine fn_intro Try.func27 rfl rfl ?_
  intro H w
  refine tr_seq ?_
  -- region 0
  refine tr_env (es_cons (t := 0) (OT.tmp rfl) (es_cons (t := 1) (OT.tmp rfl) es_nil)) ?_
  refine tr_region ?_
  refine op_pure (pu_assign OT.const) rfl rfl ?_
  refine tr_nil ?_
  refine then_normal ?_
  refine tr_seq ?_
  -- region 1
  refine tr_env (es_cons (t := 0) (OT.tmp rfl) (es_cons (t := 1) (OT.tmp rfl) es_nil)) ?_
  refine tr_region ?_
  refine op_pure (pu_load_rawv (OT.tmp rfl) (by exact mem_at 0 rfl) (show tyOk Try.prog 35 false 1 = true from by decide +kernel)) rfl rfl ?_
  refine op_pure (pu_move (OT.tmp rfl)) rfl rfl ?_
  refine op_acts (acts_lit (d := kT) (v0 := []) (show slTy Try.prog 35 45 1 24 = true from by decide +kernel) (show tyOk Try.prog 45 false 1 = true from by decide +kernel) zT (show 1 * 1 ≤ 16777216 from by decide) (by decide) (fills_arr rfl rfl (by decide) (OT.tmp rfl) fills_nil)) (List.Perm.refl _) rfl rfl (fun _ _ => ?_)
  refine op_acts (acts_append (OT.tmp rfl) (by exact perm_at 1 rfl) (OT.tmp rfl) (show slTy Try.prog 35 45 1 24 = true from by decide +kernel) (by (simp; omega)) (by (simp [maxLen]; omega))) (by exact perm_at 1 rfl) rfl rfl (fun v1_3 _ => ?_)
  refine tr_fact (mem_at 0 rfl) own_cell fun hone => ?_
  refine op_acts (acts_store_rawv (OT.tmp rfl) (OT.tmp rfl) (by assumption) (by exact perm_at 1 rfl) (show tyOk Try.prog 35 false 1 = true from by decide +kernel)) (by exact perm_at 1 rfl) rfl rfl (fun _ _ => ?_)
  refine tr_nil ?_
  refine then_normal ?_
  refine tr_seq ?_
  -- region 2
  refine tr_env (es_cons (t := 1) (OT.tmp rfl) es_nil) ?_
  refine tr_region ?_
  refine op_pure (pu_load_rawv (OT.tmp rfl) (by exact mem_at 0 rfl) (show tyOk Try.prog 35 false 1 = true from by decide +kernel)) rfl rfl ?_
  refine op_pure (pu_len_own (OT.tmp rfl) (by exact mem_at 1 rfl) Try.underlying35) rfl rfl ?_
  refine op_pure (pu_leq (OT.tmp rfl) OT.const) rfl rfl ?_
  refine op_pure (pu_assign (OT.tmp rfl)) rfl rfl ?_
  refine tr_nil ?_
  refine then_normal ?_
  refine tr_ret ?_
  exact ret_one .ret (.inl rfl) rfl v1_3 (OT.tmp rfl) trivial (by repeat (first | exact picks_nil | refine picks_cons 0 rfl ?_ | refine picks_cons 1 rfl ?_ | refine picks_cons 2 rfl ?_ | refine picks_cons 3 rfl ?_ | refine picks_cons 4 rfl ?_ | refine picks_cons 5 rfl ?_ | refine picks_cons 6 rfl ?_ | refine picks_cons 7 rfl ?_ | refine picks_cons 8 rfl ?_))
set_option maxRecDepth 20000 in
/-- rhizome/join.extend -/
theorem extend_fn (o : Option Ix) (r : Tp) (f t : Nat) (g : Nat) (v : Value) (nx : List Tp) (hf : f ≤ r.length) (ht : t ≤ r.length + 1) (hft : f < r.length → t ≤ r.length) (hn : nx.length ≤ 3000) (hr : r.length ≤ 1000) (hx : ∀ x, o = some x → x.2.1.length ≤ 1000000 ∧ ∀ n, ((lkp n x.1).getD []).length ≤ 1000000) : Ct Try.prog 28 [PtrT kIx o, SlT kI r, I64 (f : Int), I64 (t : Int), IsV (takeV g)] ([BlkI g 35 kraw v, OwnI 45 kT v (nx)]) (Value × List Tp) (fun p => BoolT (goodN nx o r f t)) (fun p => [BlkI g 35 kraw p.1, OwnI 45 kT p.1 (p.2)]) (fun p => nx.length + (ext o r f t).length ≤ 3000 → p.2 = nx ++ ext o r f t) := by
  refine fn_intro Try.func28 rfl rfl ?_
  intro H w
  refine tr_seq ?_
  -- region 0
  refine tr_env (es_cons (t := 0) (OT.tmp rfl) (es_cons (t := 1) (OT.tmp rfl) (es_cons (t := 2) (OT.tmp rfl) (es_cons (t := 3) (OT.tmp rfl) (es_cons (t := 4) (OT.tmp rfl) es_nil))))) ?_
  refine tr_region ?_
  refine op_pure (pu_assign OT.const) rfl rfl ?_
  refine tr_nil ?_
  refine then_normal ?_
  refine tr_seq ?_
  refine tr_seq ?_
  -- region 1
  refine tr_env (es_cons (t := 0) (OT.tmp rfl) (es_cons (t := 1) (OT.tmp rfl) (es_cons (t := 2) (OT.tmp rfl) (es_cons (t := 3) (OT.tmp rfl) (es_cons (t := 4) (OT.tmp rfl) es_nil))))) ?_
  refine tr_region ?_
  refine op_pure (pu_move (OT.tmp rfl)) rfl rfl ?_
  refine op_pure (pu_opt_eql (OT.tmp rfl) Try.underlying62) rfl rfl ?_
  refine tr_nil ?_
  refine then_normal ?_
  refine tr_cond (OT.tmp rfl) (fun c18 => ?_) (fun c18 => ?_)
  · skip
    obtain rfl : o = none := by cases o with
      | none => rfl
      | some x => cases c18
    refine tr_seq ?_
    -- region 2
    refine tr_env es_nil ?_
    refine tr_region ?_
    refine op_pure (pu_assign OT.const) rfl rfl ?_
    refine tr_nil ?_
    refine then_normal ?_
    refine tr_ret ?_
    refine then_ret ?_
    exact ret_one .ret (.inl rfl) rfl (v, nx) (OT.val (OT.tmp rfl) (congrArg Value.bool ((decide_eq_true (by show nx.length + 0 ≤ 3000; omega)).symm))) (fun _ => (List.append_nil nx).symm) (by repeat (first | exact picks_nil | refine picks_cons 0 rfl ?_ | refine picks_cons 1 rfl ?_ | refine picks_cons 2 rfl ?_ | refine picks_cons 3 rfl ?_ | refine picks_cons 4 rfl ?_ | refine picks_cons 5 rfl ?_ | refine picks_cons 6 rfl ?_ | refine picks_cons 7 rfl ?_ | refine picks_cons 8 rfl ?_))
  · skip
    obtain ⟨x, rfl⟩ : ∃ x, o = some x := by cases o with
      | none => cases c18
      | some x => exact ⟨x, rfl⟩
    obtain ⟨hx1, hx2⟩ := hx x rfl
    refine tr_as 0 (T := AtT kIx x) (OT.tmp rfl) ?_
    refine tr_skip ?_
    refine then_normal ?_
    refine tr_seq ?_
    refine tr_seq ?_
    -- region 3
    refine tr_env (es_cons (t := 0) (OT.tmp rfl) (es_cons (t := 1) (OT.tmp rfl) (es_cons (t := 2) (OT.tmp rfl) (es_cons (t := 3) (OT.tmp rfl) (es_cons (t := 4) (OT.tmp rfl) es_nil))))) ?_
    refine tr_region ?_
    refine op_pure (pu_move (OT.tmp rfl)) rfl rfl ?_
    refine op_pure (pu_len_sl (OT.tmp rfl) Try.underlying45) rfl rfl ?_
    refine op_pure (pu_assign (OT.tmp rfl)) rfl rfl ?_
    refine tr_nil ?_
    refine then_normal ?_
    refine tr_block ?_
    refine tr_seq ?_
    -- region 14
    refine tr_env (es_cons (t := 0) (OT.tmp rfl) (es_cons (t := 1) (OT.tmp rfl) (es_cons (t := 2) (OT.tmp rfl) (es_cons (t := 3) (OT.tmp rfl) (es_cons (t := 4) (OT.tmp rfl) (es_cons (t := 11) (OT.tmp rfl) es_nil)))))) ?_
    refine tr_region ?_
    refine op_pure (pu_move (OT.tmp rfl)) rfl rfl ?_
    refine op_pure (pu_move (OT.tmp rfl)) rfl rfl ?_
    refine op_pure (pu_lss (OT.tmp rfl) (OT.tmp rfl)) rfl rfl ?_
    refine op_pure (pu_move (OT.tmp rfl)) rfl rfl ?_
    refine op_gu rfl rfl rfl (OT.gu_mk (OT.tmp rfl)) (fun hg => by (have hg1 := hg.2; (try simp only [decide_eq_true_eq, decide_eq_false_iff_not] at hg1); exact pu_move (by exact OT.tmp rfl))) rfl ?_
    refine op_gu rfl rfl rfl (OT.gu_mk (OT.tmp rfl)) (fun hg => by (have hg1 := hg.2; (try simp only [decide_eq_true_eq, decide_eq_false_iff_not] at hg1); exact pu_move (by exact OT.tmp rfl))) rfl ?_
    refine op_gu rfl rfl rfl (OT.gu_mk (OT.tmp rfl)) (fun hg => by (have hg1 := hg.2; (try simp only [decide_eq_true_eq, decide_eq_false_iff_not] at hg1); exact pu_lss (by exact OT.gu (OT.tmp rfl) hg) (by exact OT.gu (OT.tmp rfl) hg))) rfl ?_
    refine op_pure (pu_pick_and (OT.tmp rfl) (by exact OT.tmp rfl)) rfl rfl ?_
    refine op_pure (pu_assign (OT.tmp rfl)) rfl rfl ?_
    refine tr_nil ?_
    refine then_normal ?_
    refine tr_cond (OT.tmp rfl) (fun c57 => ?_) (fun c57 => ?_)
    · skip
      obtain ⟨hA1, hA2⟩ : f < r.length ∧ t < r.length := by simp only [Bool.and_eq_true, decide_eq_true_eq] at c57; omega
      refine tr_seq ?_
      -- region 15
      refine tr_env (es_cons (t := 0) (OT.tmp rfl) (es_cons (t := 1) (OT.tmp rfl) (es_cons (t := 2) (OT.tmp rfl) (es_cons (t := 3) (OT.tmp rfl) (es_cons (t := 4) (OT.tmp rfl) es_nil))))) ?_
      apply tr_any (m := 18) (ns := [[(0, none)], [(66, some 0)], [(67, some 1)], [(68, some 2)], [(1, none)], [(2, none)], [(70, some 4), (71, some 5)], [(72, some 6)], [(1, none)], [(3, none)], [(74, some 8), (75, some 9)], [(76, some 10)], [(73, some 7), (77, some 11)], [(69, some 3), (78, some 12)], [(79, some 13)], [(80, some 14)], [(4, none), (81, some 15)], [(1, none), (81, some 15)]]) (by kernel_rfl) (by kernel_rfl) (Ts := [_, _, _, _, _, _, _, _, _, _, _, _, _, _, _, _, _, _]) rfl
      case hops =>
        refine ⟨?_, ⟨?_, ⟨?_, ⟨?_, ⟨?_, ⟨?_, ⟨?_, ⟨?_, ⟨?_, ⟨?_, ⟨?_, ⟨?_, ⟨?_, ⟨?_, ⟨?_, ⟨?_, ⟨?_, ⟨?_, trivial⟩⟩⟩⟩⟩⟩⟩⟩⟩⟩⟩⟩⟩⟩⟩⟩⟩⟩
        · exact rop_pure rfl (pu_move (OT.tmp rfl))
        · exact rop_pure rfl (pu_nilCheck_at (OT.tmp rfl))
        · exact rop_pure rfl (pu_faddr_at (OT.tmp rfl) ly2 (show fieldOk Try.prog 74 2 2 false 1 = true from by decide +kernel))
        · exact rop_pure rfl (pu_load (OT.tmp rfl) (show tyOk Try.prog 71 false 1 = true from by decide +kernel))
        · exact rop_pure rfl (pu_move (OT.tmp rfl))
        · exact rop_pure rfl (pu_move (OT.tmp rfl))
        · exact rop_pure rfl (pu_index (OT.tmp rfl) (OT.tmp rfl) Try.underlying45 (show tyOk Try.prog 3 false 1 = true from by decide +kernel) (by omega) (by omega))
        · exact rop_pure rfl (pu_load (OT.tmp rfl) (show tyOk Try.prog 3 false 1 = true from by decide +kernel))
        · exact rop_pure rfl (pu_move (OT.tmp rfl))
        · exact rop_pure rfl (pu_move (OT.tmp rfl))
        · exact rop_pure rfl (pu_index (OT.tmp rfl) (OT.tmp rfl) Try.underlying45 (show tyOk Try.prog 3 false 1 = true from by decide +kernel) (by omega) (by omega))
        · exact rop_pure rfl (pu_load (OT.tmp rfl) (show tyOk Try.prog 3 false 1 = true from by decide +kernel))
        · exact rop_pure rfl (pu_build_arr (d := kPP) (v0 := (0, 0)) (agg := false) Try.underlying75 (show tyOk Try.prog 3 false 1 = true from by decide +kernel) zP rfl (fills_cons rfl Lens.p0 (OT.tmp rfl) (fills_cons rfl Lens.p1 (OT.tmp rfl) fills_nil)))
        · exact rop_pure rfl (pu_lookup mkP Try.underlying71 zI (OT.tmp rfl) (OT.tmp rfl))
        · exact rop_pure rfl (pu_eql (OT.tmp rfl) OT.const)
        · exact rop_pure rfl (pu_move (OT.tmp rfl))
        · exact rop_gu rfl rfl rfl (OT.gu_mk (OT.tmp rfl)) (fun hg => by (have hg1 := hg.2; exact rop_pure rfl (pu_move (by exact OT.tmp rfl))))
        · exact rop_gu rfl rfl rfl (OT.gu_mk (OT.tmp rfl)) (fun hg => by (have hg1 := hg.2; exact rop_pure rfl (pu_move (by exact OT.tmp rfl))))
      case h =>
        refine op_gu_split rfl rfl rfl rfl (OT.tmp rfl) (fun hsp => ?_) (fun hsp => ?_)
        · skip
          refine op_acts (acts_callv (OT.gu (OT.tmp rfl) ⟨trivial, hsp⟩) (CtV.of [pt g 0] (Rows1_fn (r) g (v) (nx) (by omega)) (by kernel_rfl)) (OTs.cons (OT.gu (OT.tmp rfl) ⟨trivial, hsp⟩) OTs.nil) (perm2_at 0 0 rfl rfl)) (perm2_at 0 0 rfl rfl) rfl rfl (fun v15_18 _ => ?_)
          refine op_pure (pu_pick_or (OT.tmp rfl) (by exact OT.gu_in (OT.tmp rfl) ⟨trivial, by assumption⟩)) rfl rfl ?_
          refine op_pure (pu_assign (OT.tmp rfl)) rfl rfl ?_
          refine tr_nil ?_
          refine then_normal ?_
          refine tr_ret ?_
          refine block_ret ?_
          refine then_ret ?_
          exact ret_one .ret (.inl rfl) rfl (v15_18, nx ++ [r]) (OT.val (OT.tmp rfl) (congrArg Value.bool (A_yes hA1 hA2 hsp rfl))) (fun _ => by show nx ++ [r] = nx ++ ext (some x) r f t; rw [ext_A hA1 hA2]; exact congrArg (nx ++ ·) (if_neg (of_decide_eq_false hsp)).symm) (by repeat (first | exact picks_nil | refine picks_cons 0 rfl ?_ | refine picks_cons 1 rfl ?_ | refine picks_cons 2 rfl ?_ | refine picks_cons 3 rfl ?_ | refine picks_cons 4 rfl ?_ | refine picks_cons 5 rfl ?_ | refine picks_cons 6 rfl ?_ | refine picks_cons 7 rfl ?_ | refine picks_cons 8 rfl ?_))
        · skip
          refine op_pure (pu_pick_or (OT.tmp rfl) (by exact OT.gu_out (T := BoolT true) (OT.tmp rfl) (by simp_all))) rfl rfl ?_
          refine op_pure (pu_assign (OT.tmp rfl)) rfl rfl ?_
          refine tr_nil ?_
          refine then_normal ?_
          refine tr_ret ?_
          refine block_ret ?_
          refine then_ret ?_
          exact ret_one .ret (.inl rfl) rfl (v, nx) (OT.val (OT.tmp rfl) (congrArg Value.bool (A_no hA1 hA2 hn hsp))) (fun _ => by show nx = nx ++ ext (some x) r f t; rw [ext_A hA1 hA2]; exact (List.append_nil nx).symm.trans (congrArg (nx ++ ·) (if_pos (of_decide_eq_true hsp)).symm)) (by repeat (first | exact picks_nil | refine picks_cons 0 rfl ?_ | refine picks_cons 1 rfl ?_ | refine picks_cons 2 rfl ?_ | refine picks_cons 3 rfl ?_ | refine picks_cons 4 rfl ?_ | refine picks_cons 5 rfl ?_ | refine picks_cons 6 rfl ?_ | refine picks_cons 7 rfl ?_ | refine picks_cons 8 rfl ?_))
    · skip
      have hnA : ¬ (f < r.length ∧ t < r.length) := by rintro ⟨h1, h2⟩; simp only [Bool.and_eq_false_iff, decide_eq_false_iff_not] at c57; omega
      refine tr_seq ?_
      -- region 16
      refine tr_env (es_cons (t := 0) (OT.tmp rfl) (es_cons (t := 1) (OT.tmp rfl) (es_cons (t := 2) (OT.tmp rfl) (es_cons (t := 3) (OT.tmp rfl) (es_cons (t := 4) (OT.tmp rfl) (es_cons (t := 11) (OT.tmp rfl) es_nil)))))) ?_
      refine tr_region ?_
      refine op_pure (pu_move (OT.tmp rfl)) rfl rfl ?_
      refine op_pure (pu_move (OT.tmp rfl)) rfl rfl ?_
      refine op_pure (pu_lss (OT.tmp rfl) (OT.tmp rfl)) rfl rfl ?_
      refine op_pure (pu_assign (OT.tmp rfl)) rfl rfl ?_
      refine tr_nil ?_
      refine then_normal ?_
      refine tr_cond (OT.tmp rfl) (fun c86 => ?_) (fun c86 => ?_)
      · skip
        have hB1 : f < r.length := by simpa using c86
        have hB2 : ¬ t < r.length := fun e => hnA ⟨hB1, e⟩
        obtain ⟨bl, he1⟩ : ∃ bl, (lkp (at' r (f : Int)) x.1).getD [] = bl := ⟨_, rfl⟩
        have he : (lkp (r.getD f 0) x.1).getD [] = bl := he1
        have hbl : bl.length ≤ 1000000 := he ▸ hx2 (r.getD f 0)
        refine tr_seq ?_
        -- region 17
        refine tr_env (es_cons (t := 0) (OT.tmp rfl) (es_cons (t := 1) (OT.tmp rfl) (es_cons (t := 2) (OT.tmp rfl) (es_cons (t := 4) (OT.tmp rfl) es_nil)))) ?_
        apply tr_any (m := 11) (ns := [[(0, none)], [(90, some 0)], [(91, some 1)], [(92, some 2)], [(1, none)], [(2, none)], [(94, some 4), (95, some 5)], [(96, some 6)], [(93, some 3), (97, some 7)], [(98, some 8)], []]) (by kernel_rfl) (by kernel_rfl) (Ts := [_, _, _, _, _, _, _, _, _, _, _]) rfl
        case hops =>
          refine ⟨?_, ⟨?_, ⟨?_, ⟨?_, ⟨?_, ⟨?_, ⟨?_, ⟨?_, ⟨?_, ⟨?_, ⟨?_, trivial⟩⟩⟩⟩⟩⟩⟩⟩⟩⟩⟩
          · exact rop_pure rfl (pu_move (OT.tmp rfl))
          · exact rop_pure rfl (pu_nilCheck_at (OT.tmp rfl))
          · exact rop_pure rfl (pu_faddr_at (OT.tmp rfl) ly0 (show fieldOk Try.prog 74 0 0 false 1 = true from by decide +kernel))
          · exact rop_pure rfl (pu_load (OT.tmp rfl) (show tyOk Try.prog 70 false 1 = true from by decide +kernel))
          · exact rop_pure rfl (pu_move (OT.tmp rfl))
          · exact rop_pure rfl (pu_move (OT.tmp rfl))
          · exact rop_pure rfl (pu_index (OT.tmp rfl) (OT.tmp rfl) Try.underlying45 (show tyOk Try.prog 3 false 1 = true from by decide +kernel) (by omega) (by omega))
          · exact rop_pure rfl (pu_load (OT.tmp rfl) (show tyOk Try.prog 3 false 1 = true from by decide +kernel))
          · exact rop_pure rfl (pu_lookup mkI Try.underlying70 zLI (OT.tmp rfl) (OT.tmp rfl))
          · exact rop_pure rfl (pu_len_sl (OT.tmp rfl) Try.underlying36)
          · exact rop_pure rfl (pu_move OT.const)
        case h =>
          refine tr_nil ?_
          rw [he1]
          refine then_normal ?_
          refine tr_block ?_
          refine tr_loopK (σ := Nat × Value) (es_cons (t := 1) (OT.tmp rfl) (es_cons (t := 4) (OT.tmp rfl) (es_cons (t := 98) (OT.tmp rfl) (es_cons (t := 99) (OT.tmp rfl) es_nil)))) (fun s => [(100, I64 (s.1 : Int))]) (fun s => [BlkI g 35 kraw s.2, OwnI 45 kT s.2 (nx ++ (bl.take s.1).map (fun b => r ++ [b]))]) (fun s => s.1 ≤ bl.length ∧ nx.length + s.1 ≤ 3000) (fun s => bl.length - s.1) (0, v) ⟨Nat.zero_le _, hn⟩ ?_ (own_picks (by rw [List.take_zero, List.map_nil, List.append_nil]; exact picks_all)) ?_
          · exact (es_cons (t := 100) (by exact OT.tmp rfl) es_nil)
          · rintro ⟨i, vi⟩ ⟨hi, hin⟩
            dsimp only at hi hin ⊢
            refine tr_seq ?_
            -- region 18
            refine tr_env (es_cons (t := 1) (OT.tmp rfl) (es_cons (t := 4) (OT.tmp rfl) (es_cons (t := 98) (OT.tmp rfl) (es_cons (t := 99) (OT.tmp rfl) (es_cons (t := 100) (OT.tmp rfl) es_nil))))) ?_
            have hil : (nx ++ ((bl.take i).map (fun b => r ++ [b]))).length = nx.length + i := by rw [List.length_append, List.length_map, List.length_take]; omega
            refine tr_region ?_
            refine op_pure (pu_lss (OT.tmp rfl) (OT.tmp rfl)) rfl rfl ?_
            refine tr_nil ?_
            refine then_normal ?_
            refine tr_seq ?_
            refine tr_cond (OT.tmp rfl) (fun c101 => ?_) (fun c101 => ?_)
            · skip
              refine tr_skip ?_
              refine then_normal ?_
              refine tr_seq ?_
              refine tr_block ?_
              refine tr_seq ?_
              -- region 19
              refine tr_env (es_cons (t := 1) (OT.tmp rfl) (es_cons (t := 4) (OT.tmp rfl) (es_cons (t := 98) (OT.tmp rfl) (es_cons (t := 99) (OT.tmp rfl) (es_cons (t := 100) (OT.tmp rfl) es_nil))))) ?_
              have hst := map_snoc (fun b => r ++ [b]) (l := bl) (k := i) (by simpa using c101)
              refine tr_region ?_
              refine op_pure (pu_index (OT.tmp rfl) (OT.tmp rfl) Try.underlying36 (show tyOk Try.prog 3 false 1 = true from by decide +kernel) (by omega) (by (simp [maxLen] at *; omega))) rfl rfl ?_
              refine op_pure (pu_load (OT.tmp rfl) (show tyOk Try.prog 3 false 1 = true from by decide +kernel)) rfl rfl ?_
              refine op_pure (pu_assign (OT.tmp rfl)) rfl rfl ?_
              refine tr_nil ?_
              refine then_normal ?_
              refine tr_seq ?_
              -- region 20
              refine tr_env (es_cons (t := 1) (OT.tmp rfl) (es_cons (t := 4) (OT.tmp rfl) (es_cons (t := 13) (OT.tmp rfl) (es_cons (t := 98) (OT.tmp rfl) (es_cons (t := 99) (OT.tmp rfl) (es_cons (t := 100) (OT.tmp rfl) es_nil)))))) ?_
              refine tr_region ?_
              refine op_pure (pu_move (OT.tmp rfl)) rfl rfl ?_
              refine op_pure (pu_move (OT.tmp rfl)) rfl rfl ?_
              refine op_acts (acts_call (CloneO_fn _ (by omega)) (show enters Try.prog 39 = true from by decide +kernel) (OTs.cons (OT.tmp rfl) OTs.nil) (List.Perm.refl _)) (List.Perm.refl _) rfl rfl (fun v20_2 _ => ?_)
              refine op_pure (pu_move (OT.tmp rfl)) rfl rfl ?_
              refine op_acts (acts_lit (d := kI) (v0 := 0) (show slTy Try.prog 45 3 1 8 = true from by decide +kernel) (show tyOk Try.prog 3 false 1 = true from by decide +kernel) zI (show 1 * 1 ≤ 16777216 from by decide) (by decide) (fills_arr rfl rfl (by decide) (OT.tmp rfl) fills_nil)) (List.Perm.refl _) rfl rfl (fun _ _ => ?_)
              refine op_acts (acts_append (OT.tmp rfl) (by exact perm_at 0 rfl) (OT.tmp rfl) (show slTy Try.prog 45 3 1 8 = true from by decide +kernel) (by (simp; omega)) (by (simp [maxLen]; omega))) (by exact perm_at 0 rfl) rfl rfl (fun v20_5 _ => ?_)
              refine tr_freeze (perm_at 0 rfl) 109 (OT.tmp rfl) ?_
              refine op_acts (acts_callv (OT.tmp rfl) (CtV.of [pt g 0] (Rows1_fn (r ++ [at' bl (i : Int)]) g (vi) (nx ++ (bl.take i).map (fun b => r ++ [b])) (by omega)) (by kernel_rfl)) (OTs.cons (OT.tmp rfl) OTs.nil) (perm2_at 0 0 rfl rfl)) (perm2_at 0 0 rfl rfl) rfl rfl (fun v20_6 _ => ?_)
              refine op_pure (pu_not (OT.tmp rfl)) rfl rfl ?_
              refine tr_nil ?_
              refine then_normal ?_
              refine tr_cond (OT.tmp rfl) (fun c111 => ?_) (fun c111 => ?_)
              · skip
                refine tr_seq ?_
                -- region 21
                refine tr_env es_nil ?_
                refine tr_region ?_
                refine op_pure (pu_assign OT.const) rfl rfl ?_
                refine tr_nil ?_
                refine then_normal ?_
                refine tr_ret ?_
                refine block_ret ?_
                refine then_ret ?_
                refine then_ret ?_
                refine block_ret ?_
                refine block_ret ?_
                refine then_ret ?_
                have hbf := B_false (nx := nx) (t := t) he hB1 hB2 (i := i) (by simpa using c101) (s := nx ++ (bl.take i).map (fun b => r ++ [b]) ++ [r ++ [at' bl (i : Int)]]) (by rw [List.length_append, hil]; rfl) (by have h9 := c111; simp only [Bool.not_eq_true', decide_eq_false_iff_not] at h9; exact h9)
                exact ret_one .ret (.inl rfl) rfl (v20_6, _) (OT.val (OT.tmp rfl) (congrArg Value.bool (hbf))) (fun hq => absurd hbf (by unfold goodN; rw [decide_eq_true hq]; simp)) (by repeat (first | exact picks_nil | refine picks_cons 0 rfl ?_ | refine picks_cons 1 rfl ?_ | refine picks_cons 2 rfl ?_ | refine picks_cons 3 rfl ?_ | refine picks_cons 4 rfl ?_ | refine picks_cons 5 rfl ?_ | refine picks_cons 6 rfl ?_ | refine picks_cons 7 rfl ?_ | refine picks_cons 8 rfl ?_))
              · skip
                refine tr_skip ?_
                refine block_normal ?_
                refine then_normal ?_
                -- region 22
                refine tr_env (es_cons (t := 1) (OT.tmp rfl) (es_cons (t := 4) (OT.tmp rfl) (es_cons (t := 98) (OT.tmp rfl) (es_cons (t := 99) (OT.tmp rfl) (es_cons (t := 100) (OT.tmp rfl) es_nil))))) ?_
                refine tr_region ?_
                refine op_pure (pu_add' (OT.tmp rfl) OT.const (by omega)) rfl rfl ?_
                refine op_pure (pu_move (OT.tmp rfl)) rfl rfl ?_
                refine tr_nil ?_
                refine then_normal ?_
                exact tr_again (i + 1, v20_6) ⟨by show i + 1 ≤ _; simp only [decide_eq_true_eq] at c101; omega, by show nx.length + (i + 1) ≤ 3000; have h9 := c111; simp only [Bool.not_eq_false', decide_eq_true_eq, List.length_append, List.length_singleton] at h9; rw [List.length_append] at hil; omega⟩ (by simp only [decide_eq_true_eq] at c101; show bl.length - (i + 1) < bl.length - i; omega) (es_append (es_cons (t := 100) (by exact OT.tmp rfl) es_nil) (es_cons (t := 1) (OT.tmp rfl) (es_cons (t := 4) (OT.tmp rfl) (es_cons (t := 98) (OT.tmp rfl) (es_cons (t := 99) (OT.tmp rfl) es_nil))))) (own_picks (by rw [hst, ← List.append_assoc]; exact (by repeat (first | exact picks_nil | refine picks_cons 0 rfl ?_ | refine picks_cons 1 rfl ?_ | refine picks_cons 2 rfl ?_ | refine picks_cons 3 rfl ?_ | refine picks_cons 4 rfl ?_ | refine picks_cons 5 rfl ?_ | refine picks_cons 6 rfl ?_ | refine picks_cons 7 rfl ?_ | refine picks_cons 8 rfl ?_))))
            · skip
              refine tr_exit ?_
              refine then_exit ?_
              refine then_exit ?_
              refine block_hit ?_
              refine block_normal ?_
              refine then_normal ?_
              refine tr_seq ?_
              -- region 23
              refine tr_env es_nil ?_
              refine tr_region ?_
              refine op_pure (pu_assign OT.const) rfl rfl ?_
              refine tr_nil ?_
              refine then_normal ?_
              refine tr_ret ?_
              obtain rfl : i = bl.length := by simp only [decide_eq_false_iff_not] at c101; omega
              exact ret_one .ret (.inl rfl) rfl (vi, nx ++ (bl.take bl.length).map (fun b => r ++ [b])) (OT.val (OT.tmp rfl) (congrArg Value.bool (B_true he hB1 hB2 (by omega)))) (fun _ => by show nx ++ _ = nx ++ ext (some x) r f t; rw [ext_B hB1 hB2, he, List.take_length]) (by repeat (first | exact picks_nil | refine picks_cons 0 rfl ?_ | refine picks_cons 1 rfl ?_ | refine picks_cons 2 rfl ?_ | refine picks_cons 3 rfl ?_ | refine picks_cons 4 rfl ?_ | refine picks_cons 5 rfl ?_ | refine picks_cons 6 rfl ?_ | refine picks_cons 7 rfl ?_ | refine picks_cons 8 rfl ?_))
      · skip
        have hC1 : ¬ f < r.length := by simpa using c86
        refine tr_seq ?_
        -- region 4
        refine tr_env (es_cons (t := 0) (OT.tmp rfl) (es_cons (t := 1) (OT.tmp rfl) (es_cons (t := 3) (OT.tmp rfl) (es_cons (t := 4) (OT.tmp rfl) (es_cons (t := 11) (OT.tmp rfl) es_nil))))) ?_
        refine tr_region ?_
        refine op_pure (pu_move (OT.tmp rfl)) rfl rfl ?_
        refine op_pure (pu_nilCheck_at (OT.tmp rfl)) rfl rfl ?_
        refine op_pure (pu_faddr_at (OT.tmp rfl) ly1 (show fieldOk Try.prog 74 1 1 false 1 = true from by decide +kernel)) rfl rfl ?_
        refine op_pure (pu_load (OT.tmp rfl) (show tyOk Try.prog 72 false 1 = true from by decide +kernel)) rfl rfl ?_
        refine op_pure (pu_len_sl (OT.tmp rfl) Try.underlying72) rfl rfl ?_
        refine op_pure (pu_move OT.const) rfl rfl ?_
        refine tr_nil ?_
        refine then_normal ?_
        refine tr_block ?_
        refine tr_loopK (σ := Nat × Value) (es_cons (t := 1) (OT.tmp rfl) (es_cons (t := 3) (OT.tmp rfl) (es_cons (t := 4) (OT.tmp rfl) (es_cons (t := 11) (OT.tmp rfl) (es_cons (t := 24) (OT.tmp rfl) (es_cons (t := 25) (OT.tmp rfl) es_nil)))))) (fun s => [(26, I64 (s.1 : Int))]) (fun s => [BlkI g 35 kraw s.2, OwnI 45 kT s.2 (nx ++ (x.2.1.take s.1).filterMap (extC r t))]) (fun s => s.1 ≤ x.2.1.length ∧ (nx ++ (x.2.1.take s.1).filterMap (extC r t)).length ≤ 3000) (fun s => x.2.1.length - s.1) (0, v) ⟨Nat.zero_le _, by simpa using hn⟩ ?_ (own_picks (by rw [List.take_zero, List.filterMap_nil, List.append_nil]; exact picks_all)) ?_
        · exact (es_cons (t := 26) (by exact OT.tmp rfl) es_nil)
        · rintro ⟨i, vi⟩ ⟨hi, hin⟩
          dsimp only at hi hin ⊢
          refine tr_seq ?_
          -- region 5
          refine tr_env (es_cons (t := 1) (OT.tmp rfl) (es_cons (t := 3) (OT.tmp rfl) (es_cons (t := 4) (OT.tmp rfl) (es_cons (t := 11) (OT.tmp rfl) (es_cons (t := 24) (OT.tmp rfl) (es_cons (t := 25) (OT.tmp rfl) (es_cons (t := 26) (OT.tmp rfl) es_nil))))))) ?_
          refine tr_region ?_
          refine op_pure (pu_lss (OT.tmp rfl) (OT.tmp rfl)) rfl rfl ?_
          refine tr_nil ?_
          refine then_normal ?_
          refine tr_seq ?_
          refine tr_cond (OT.tmp rfl) (fun c27 => ?_) (fun c27 => ?_)
          · skip
            refine tr_skip ?_
            refine then_normal ?_
            refine tr_seq ?_
            refine tr_block ?_
            refine tr_seq ?_
            -- region 6
            refine tr_env (es_cons (t := 1) (OT.tmp rfl) (es_cons (t := 3) (OT.tmp rfl) (es_cons (t := 4) (OT.tmp rfl) (es_cons (t := 11) (OT.tmp rfl) (es_cons (t := 24) (OT.tmp rfl) (es_cons (t := 25) (OT.tmp rfl) (es_cons (t := 26) (OT.tmp rfl) es_nil))))))) ?_
            obtain ⟨p, hp⟩ : ∃ p, at' x.2.1 (i : Int) = p := ⟨_, rfl⟩
            have hil : i < x.2.1.length := by simpa using c27
            have hst := fmap_snoc (extC r t) (l := x.2.1) (k := i) hil
            rw [hp] at hst
            refine tr_region ?_
            refine op_pure (pu_index (OT.tmp rfl) (OT.tmp rfl) Try.underlying72 (show tyOk Try.prog 75 true 2 = true from by decide +kernel) (by omega) (by omega)) rfl rfl ?_
            refine op_pure (pu_load (OT.tmp rfl) (show tyOk Try.prog 75 true 2 = true from by decide +kernel)) rfl rfl ?_
            refine op_acts (acts_alloc (zP)) (List.Perm.refl _) rfl rfl (fun g6_2 _ => ?_)
            refine op_acts (acts_store_var (OT.tmp rfl) (OT.tmp rfl) (by exact perm_at 0 rfl) (show tyOk Try.prog 75 true 2 = true from by decide +kernel)) (by exact perm_at 0 rfl) rfl rfl (fun _ _ => ?_)
            refine tr_nil ?_
            refine then_normal ?_
            refine tr_seq ?_
            -- region 7
            refine tr_env (es_cons (t := 1) (OT.tmp rfl) (es_cons (t := 3) (OT.tmp rfl) (es_cons (t := 4) (OT.tmp rfl) (es_cons (t := 11) (OT.tmp rfl) (es_cons (t := 15) (OT.tmp rfl) (es_cons (t := 24) (OT.tmp rfl) (es_cons (t := 25) (OT.tmp rfl) (es_cons (t := 26) (OT.tmp rfl) es_nil)))))))) ?_
            rw [hp]
            apply tr_anyG (ρ := Value) (φ := fun rr => True) (p := 1) (Lf := fun c rr => cond c (OwnI 3 kI rr r :: BlkI g6_2 75 kPP p :: BlkI g 35 kraw vi :: OwnI 45 kT vi (nx ++ (x.2.1.take i).filterMap (extC r t)) :: []) (BlkI g6_2 75 kPP p :: BlkI g 35 kraw vi :: OwnI 45 kT vi (nx ++ (x.2.1.take i).filterMap (extC r t)) :: [])) nilS (by kernel_rfl) (m := 5) (ns := [[(1, none)], [(30, some 0)], [(15, none)], [(32, some 2)], [(33, some 3)]]) (by kernel_rfl) (by kernel_rfl) (Ts := fun rr => [_, IsV rr, _, kI.T p.1, SlT kI [p.1]]) (fun _ => rfl)
            case hops =>
              refine ⟨?_, ⟨?_, ⟨?_, ⟨?_, ⟨?_, trivial⟩⟩⟩⟩⟩
              · refine ⟨?_, ?_⟩
                · intro c r hc; cases c
                  · exact ropg_of r rfl (And.intro rfl trivial) (rop_pure rfl (pu_move (OT.tmp rfl)))
                  · exact Bool.noConfusion (hc.symm.trans (by kernel_rfl : okFlag _ _ _ _ = false))
                · exact fun _ _ _ _ => rfl
              · refine ⟨?_, ?_⟩
                · intro c r hc; cases c
                  · exact ropg_acts rfl (acts_call (CloneO_fn _ (by omega)) (show enters Try.prog 39 = true from by decide +kernel) (OTs.cons (OT.tmp rfl) OTs.nil) (List.Perm.refl _)) (List.Perm.refl _) (fun r => (List.Perm.refl _)) (fun _ _ _ => trivial) (fun _ _ _ _ h => h)
                  · exact Bool.noConfusion (hc.symm.trans (by kernel_rfl : okFlag _ _ _ _ = false))
                · exact fun _ h => absurd h (by decide)
              · refine ⟨?_, ?_⟩
                · intro c r hc; cases c
                  · exact ropg_of r rfl (And.intro rfl trivial) (rop_pure rfl (pu_pair_var0 (OT.tmp rfl) (by exact mem_at 0 rfl) Try.underlying75 (show tyOk Try.prog 3 false 1 = true from by decide +kernel)))
                  · exact ropg_of r rfl (And.intro rfl trivial) (rop_pure rfl (pu_pair_var0 (OT.tmp rfl) (by exact mem_at 1 rfl) Try.underlying75 (show tyOk Try.prog 3 false 1 = true from by decide +kernel)))
                · exact fun _ _ _ _ => rfl
              · refine ⟨?_, ?_⟩
                · intro c r hc; cases c
                  · exact ropg_of r rfl (And.intro rfl trivial) (rop_pure rfl (pu_load_p0 (d := kI) (v := p) (OT.tmp rfl) (by exact mem_at 0 rfl) (show tyOk Try.prog 3 false 1 = true from by decide +kernel)))
                  · exact ropg_of r rfl (And.intro rfl trivial) (rop_pure rfl (pu_load_p0 (d := kI) (v := p) (OT.tmp rfl) (by exact mem_at 1 rfl) (show tyOk Try.prog 3 false 1 = true from by decide +kernel)))
                · exact fun _ _ _ _ => rfl
              · refine ⟨?_, ?_⟩
                · intro c r hc; cases c
                  · exact ropg_of r rfl (And.intro rfl trivial) (rop_acts rfl (acts_lit (d := kI) (v0 := 0) (show slTy Try.prog 45 3 1 8 = true from by decide +kernel) (show tyOk Try.prog 3 false 1 = true from by decide +kernel) zI (show 1 * 1 ≤ 16777216 from by decide) (by decide) (fills_arr rfl rfl (by decide) (OT.tmp rfl) fills_nil)) (fun _ _ _ _ h => h))
                  · exact ropg_of r rfl (And.intro rfl trivial) (rop_acts rfl (acts_lit (d := kI) (v0 := 0) (show slTy Try.prog 45 3 1 8 = true from by decide +kernel) (show tyOk Try.prog 3 false 1 = true from by decide +kernel) zI (show 1 * 1 ≤ 16777216 from by decide) (by decide) (fills_arr rfl rfl (by decide) (OT.tmp rfl) fills_nil)) (fun _ _ _ _ h => h))
                · exact fun _ _ _ _ => rfl
            case h =>
              intro v7_1 _
              refine op_acts (acts_append (OT.tmp rfl) (by exact perm_at 0 rfl) (OT.tmp rfl) (show slTy Try.prog 45 3 1 8 = true from by decide +kernel) (by (simp; omega)) (by (simp [maxLen]; omega))) (by exact perm_at 0 rfl) rfl rfl (fun v7_5 _ => ?_)
              refine op_pure (pu_assign (OT.tmp rfl)) rfl rfl ?_
              refine tr_nil ?_
              refine then_normal ?_
              refine tr_seq ?_
              refine tr_seq ?_
              -- region 8
              refine tr_env (es_cons (t := 1) (OT.tmp rfl) (es_cons (t := 3) (OT.tmp rfl) (es_cons (t := 4) (OT.tmp rfl) (es_cons (t := 11) (OT.tmp rfl) (es_cons (t := 15) (OT.tmp rfl) (es_cons (t := 16) (OT.tmp rfl) (es_cons (t := 24) (OT.tmp rfl) (es_cons (t := 25) (OT.tmp rfl) (es_cons (t := 26) (OT.tmp rfl) es_nil))))))))) ?_
              refine tr_region ?_
              refine op_pure (pu_move (OT.tmp rfl)) rfl rfl ?_
              refine op_pure (pu_move (OT.tmp rfl)) rfl rfl ?_
              refine op_pure (pu_add' (OT.tmp rfl) OT.const (by omega)) rfl rfl ?_
              refine op_pure (pu_eql (OT.tmp rfl) (OT.tmp rfl)) rfl rfl ?_
              refine tr_nil ?_
              refine then_normal ?_
              refine tr_cond (OT.tmp rfl) (fun c39 => ?_) (fun c39 => ?_)
              · skip
                have ht1 : t = r.length + 1 := by simp only [decide_eq_true_eq] at c39; omega
                have hrow : extC r t p = some (r ++ [p.1] ++ [p.2]) := by unfold extC; rw [if_pos ht1]
                -- region 9
                refine tr_env (es_cons (t := 1) (OT.tmp rfl) (es_cons (t := 3) (OT.tmp rfl) (es_cons (t := 4) (OT.tmp rfl) (es_cons (t := 11) (OT.tmp rfl) (es_cons (t := 15) (OT.tmp rfl) (es_cons (t := 16) (OT.tmp rfl) (es_cons (t := 24) (OT.tmp rfl) (es_cons (t := 25) (OT.tmp rfl) (es_cons (t := 26) (OT.tmp rfl) es_nil))))))))) ?_
                refine tr_region ?_
                refine op_pure (pu_move (OT.tmp rfl)) rfl rfl ?_
                refine op_pure (pu_pair_var1 (OT.tmp rfl) (by exact mem_at 1 rfl) Try.underlying75 (show tyOk Try.prog 3 false 1 = true from by decide +kernel)) rfl rfl ?_
                refine op_pure (pu_load_p1 (d := kI) (v := p) (OT.tmp rfl) (by exact mem_at 1 rfl) (show tyOk Try.prog 3 false 1 = true from by decide +kernel)) rfl rfl ?_
                refine op_acts (acts_lit (d := kI) (v0 := 0) (show slTy Try.prog 45 3 1 8 = true from by decide +kernel) (show tyOk Try.prog 3 false 1 = true from by decide +kernel) zI (show 1 * 1 ≤ 16777216 from by decide) (by decide) (fills_arr rfl rfl (by decide) (OT.tmp rfl) fills_nil)) (List.Perm.refl _) rfl rfl (fun _ _ => ?_)
                refine op_acts (acts_append (OT.tmp rfl) (by exact perm_at 0 rfl) (OT.tmp rfl) (show slTy Try.prog 45 3 1 8 = true from by decide +kernel) (by (simp; omega)) (by (simp [maxLen]; omega))) (by exact perm_at 0 rfl) rfl rfl (fun v9_4 _ => ?_)
                refine op_pure (pu_assign (OT.tmp rfl)) rfl rfl ?_
                refine tr_nil ?_
                refine then_normal ?_
                refine tr_seq ?_
                -- region 11
                refine tr_env (es_cons (t := 1) (OT.tmp rfl) (es_cons (t := 3) (OT.tmp rfl) (es_cons (t := 4) (OT.tmp rfl) (es_cons (t := 11) (OT.tmp rfl) (es_cons (t := 16) (OT.tmp rfl) (es_cons (t := 24) (OT.tmp rfl) (es_cons (t := 25) (OT.tmp rfl) (es_cons (t := 26) (OT.tmp rfl) es_nil)))))))) ?_
                refine tr_region ?_
                refine op_pure (pu_move (OT.tmp rfl)) rfl rfl ?_
                refine op_pure (pu_move (OT.tmp rfl)) rfl rfl ?_
                refine tr_freeze (perm_at 0 rfl) 53 (OT.tmp rfl) ?_
                refine op_acts (acts_callv (OT.tmp rfl) (CtV.of [pt g 0] (Rows1_fn (_) g (vi) (nx ++ (x.2.1.take i).filterMap (extC r t)) (by omega)) (by kernel_rfl)) (OTs.cons (OT.tmp rfl) OTs.nil) (perm2_at 1 1 rfl rfl)) (perm2_at 1 1 rfl rfl) rfl rfl (fun v11_2 _ => ?_)
                refine op_pure (pu_not (OT.tmp rfl)) rfl rfl ?_
                refine tr_nil ?_
                refine then_normal ?_
                refine tr_cond (OT.tmp rfl) (fun c55 => ?_) (fun c55 => ?_)
                · skip
                  refine tr_seq ?_
                  -- region 12
                  refine tr_env es_nil ?_
                  refine tr_region ?_
                  refine op_pure (pu_assign OT.const) rfl rfl ?_
                  refine tr_nil ?_
                  refine then_normal ?_
                  refine tr_ret ?_
                  refine block_ret ?_
                  refine then_ret ?_
                  refine then_ret ?_
                  refine block_ret ?_
                  refine block_ret ?_
                  refine then_ret ?_
                  have hbf := C_false (nx := nx) (t := t) hC1 (i := i) (s := nx ++ (x.2.1.take i).filterMap (extC r t) ++ [_]) (by rw [hst, hrow, Option.toList_some, List.append_assoc]) (by have h9 := c55; simp only [Bool.not_eq_true', decide_eq_false_iff_not] at h9; exact h9)
                  exact ret_one .ret (.inl rfl) rfl (v11_2, _) (OT.val (OT.tmp rfl) (congrArg Value.bool (hbf))) (fun hq => absurd hbf (by unfold goodN; rw [decide_eq_true hq]; simp)) (by repeat (first | exact picks_nil | refine picks_cons 0 rfl ?_ | refine picks_cons 1 rfl ?_ | refine picks_cons 2 rfl ?_ | refine picks_cons 3 rfl ?_ | refine picks_cons 4 rfl ?_ | refine picks_cons 5 rfl ?_ | refine picks_cons 6 rfl ?_ | refine picks_cons 7 rfl ?_ | refine picks_cons 8 rfl ?_))
                · skip
                  refine tr_skip ?_
                  refine block_normal ?_
                  refine then_normal ?_
                  -- region 13
                  refine tr_env (es_cons (t := 1) (OT.tmp rfl) (es_cons (t := 3) (OT.tmp rfl) (es_cons (t := 4) (OT.tmp rfl) (es_cons (t := 11) (OT.tmp rfl) (es_cons (t := 24) (OT.tmp rfl) (es_cons (t := 25) (OT.tmp rfl) (es_cons (t := 26) (OT.tmp rfl) es_nil))))))) ?_
                  refine tr_region ?_
                  refine op_pure (pu_add' (OT.tmp rfl) OT.const (by omega)) rfl rfl ?_
                  refine op_pure (pu_move (OT.tmp rfl)) rfl rfl ?_
                  refine tr_nil ?_
                  refine then_normal ?_
                  exact tr_again (i + 1, v11_2) ⟨(by show i + 1 ≤ _; omega), (by show (nx ++ (x.2.1.take (i + 1)).filterMap (extC r t)).length ≤ 3000; have h9 := c55; simp only [Bool.not_eq_false', decide_eq_true_eq] at h9; rw [hst, hrow, Option.toList_some, ← List.append_assoc]; simp only [List.length_append, List.length_singleton] at h9 ⊢; omega)⟩ (by show x.2.1.length - (i + 1) < x.2.1.length - i; omega) (es_append (es_cons (t := 26) (by exact OT.tmp rfl) es_nil) (es_cons (t := 1) (OT.tmp rfl) (es_cons (t := 3) (OT.tmp rfl) (es_cons (t := 4) (OT.tmp rfl) (es_cons (t := 11) (OT.tmp rfl) (es_cons (t := 24) (OT.tmp rfl) (es_cons (t := 25) (OT.tmp rfl) es_nil))))))) (own_picks (by rw [hst, hrow, Option.toList_some, ← List.append_assoc]; exact (by repeat (first | exact picks_nil | refine picks_cons 0 rfl ?_ | refine picks_cons 1 rfl ?_ | refine picks_cons 2 rfl ?_ | refine picks_cons 3 rfl ?_ | refine picks_cons 4 rfl ?_ | refine picks_cons 5 rfl ?_ | refine picks_cons 6 rfl ?_ | refine picks_cons 7 rfl ?_ | refine picks_cons 8 rfl ?_))))
              · skip
                have ht1 : ¬ t = r.length + 1 := by simp only [decide_eq_false_iff_not] at c39; omega
                refine tr_seq ?_
                -- region 10
                refine tr_env (es_cons (t := 1) (OT.tmp rfl) (es_cons (t := 3) (OT.tmp rfl) (es_cons (t := 4) (OT.tmp rfl) (es_cons (t := 11) (OT.tmp rfl) (es_cons (t := 15) (OT.tmp rfl) (es_cons (t := 16) (OT.tmp rfl) (es_cons (t := 24) (OT.tmp rfl) (es_cons (t := 25) (OT.tmp rfl) (es_cons (t := 26) (OT.tmp rfl) es_nil))))))))) ?_
                apply tr_any (m := 6) (ns := [[(16, none)], [(3, none)], [(45, some 0), (46, some 1)], [(47, some 2)], [(15, none)], [(49, some 4)]]) (by kernel_rfl) (by kernel_rfl) (Ts := [_, _, _, _, _, _]) rfl
                case hops =>
                  refine ⟨?_, ⟨?_, ⟨?_, ⟨?_, ⟨?_, ⟨?_, trivial⟩⟩⟩⟩⟩⟩
                  · exact rop_pure rfl (pu_move (OT.tmp rfl))
                  · exact rop_pure rfl (pu_move (OT.tmp rfl))
                  · exact rop_pure rfl (pu_index_own (OT.tmp rfl) (by exact mem_at 0 rfl) (OT.tmp rfl) Try.underlying45 (show tyOk Try.prog 3 false 1 = true from by decide +kernel) (by omega) (by (simp; omega)))
                  · exact rop_pure rfl (pu_load_own0 (OT.tmp rfl) (by exact mem_at 0 rfl) (by omega) (by (simp; omega)) (show tyOk Try.prog 3 false 1 = true from by decide +kernel))
                  · exact rop_pure rfl (pu_pair_var1 (OT.tmp rfl) (by exact mem_at 1 rfl) Try.underlying75 (show tyOk Try.prog 3 false 1 = true from by decide +kernel))
                  · exact rop_pure rfl (pu_load_p1 (d := kI) (v := p) (OT.tmp rfl) (by exact mem_at 1 rfl) (show tyOk Try.prog 3 false 1 = true from by decide +kernel))
                case h =>
                  refine op_pure (pu_neq (OT.tmp rfl) (OT.tmp rfl)) rfl rfl ?_
                  refine tr_nil ?_
                  refine then_normal ?_
                  refine tr_cond (OT.tmp rfl) (fun c51 => ?_) (fun c51 => ?_)
                  · skip
                    have hrow : extC r t p = none := by unfold extC; rw [if_neg ht1]; exact if_neg (of_decide_eq_true c51)
                    refine tr_exit ?_
                    refine then_exit ?_
                    refine block_hit ?_
                    refine then_normal ?_
                    -- region 13
                    refine tr_env (es_cons (t := 1) (OT.tmp rfl) (es_cons (t := 3) (OT.tmp rfl) (es_cons (t := 4) (OT.tmp rfl) (es_cons (t := 11) (OT.tmp rfl) (es_cons (t := 24) (OT.tmp rfl) (es_cons (t := 25) (OT.tmp rfl) (es_cons (t := 26) (OT.tmp rfl) es_nil))))))) ?_
                    refine tr_region ?_
                    refine op_pure (pu_add' (OT.tmp rfl) OT.const (by omega)) rfl rfl ?_
                    refine op_pure (pu_move (OT.tmp rfl)) rfl rfl ?_
                    refine tr_nil ?_
                    refine then_normal ?_
                    exact tr_again (i + 1, vi) ⟨(by show i + 1 ≤ _; omega), (by show (nx ++ (x.2.1.take (i + 1)).filterMap (extC r t)).length ≤ 3000; rw [hst, hrow, Option.toList_none, List.append_nil]; exact hin)⟩ (by show x.2.1.length - (i + 1) < x.2.1.length - i; omega) (es_append (es_cons (t := 26) (by exact OT.tmp rfl) es_nil) (es_cons (t := 1) (OT.tmp rfl) (es_cons (t := 3) (OT.tmp rfl) (es_cons (t := 4) (OT.tmp rfl) (es_cons (t := 11) (OT.tmp rfl) (es_cons (t := 24) (OT.tmp rfl) (es_cons (t := 25) (OT.tmp rfl) es_nil))))))) (own_picks (by rw [hst, hrow, Option.toList_none, List.append_nil]; exact (by repeat (first | exact picks_nil | refine picks_cons 0 rfl ?_ | refine picks_cons 1 rfl ?_ | refine picks_cons 2 rfl ?_ | refine picks_cons 3 rfl ?_ | refine picks_cons 4 rfl ?_ | refine picks_cons 5 rfl ?_ | refine picks_cons 6 rfl ?_ | refine picks_cons 7 rfl ?_ | refine picks_cons 8 rfl ?_))))
                  · skip
                    have hrow : extC r t p = some (r ++ [p.1]) := by unfold extC; rw [if_neg ht1]; exact if_pos (Classical.not_not.1 (of_decide_eq_false c51))
                    refine tr_skip ?_
                    refine then_normal ?_
                    refine tr_seq ?_
                    -- region 11
                    refine tr_env (es_cons (t := 1) (OT.tmp rfl) (es_cons (t := 3) (OT.tmp rfl) (es_cons (t := 4) (OT.tmp rfl) (es_cons (t := 11) (OT.tmp rfl) (es_cons (t := 16) (OT.tmp rfl) (es_cons (t := 24) (OT.tmp rfl) (es_cons (t := 25) (OT.tmp rfl) (es_cons (t := 26) (OT.tmp rfl) es_nil)))))))) ?_
                    refine tr_region ?_
                    refine op_pure (pu_move (OT.tmp rfl)) rfl rfl ?_
                    refine op_pure (pu_move (OT.tmp rfl)) rfl rfl ?_
                    refine tr_freeze (perm_at 0 rfl) 53 (OT.tmp rfl) ?_
                    refine op_acts (acts_callv (OT.tmp rfl) (CtV.of [pt g 0] (Rows1_fn (_) g (vi) (nx ++ (x.2.1.take i).filterMap (extC r t)) (by omega)) (by kernel_rfl)) (OTs.cons (OT.tmp rfl) OTs.nil) (perm2_at 1 1 rfl rfl)) (perm2_at 1 1 rfl rfl) rfl rfl (fun v11_2 _ => ?_)
                    refine op_pure (pu_not (OT.tmp rfl)) rfl rfl ?_
                    refine tr_nil ?_
                    refine then_normal ?_
                    refine tr_cond (OT.tmp rfl) (fun c55 => ?_) (fun c55 => ?_)
                    · skip
                      refine tr_seq ?_
                      -- region 12
                      refine tr_env es_nil ?_
                      refine tr_region ?_
                      refine op_pure (pu_assign OT.const) rfl rfl ?_
                      refine tr_nil ?_
                      refine then_normal ?_
                      refine tr_ret ?_
                      refine block_ret ?_
                      refine then_ret ?_
                      refine then_ret ?_
                      refine block_ret ?_
                      refine block_ret ?_
                      refine then_ret ?_
                      have hbf := C_false (nx := nx) (t := t) hC1 (i := i) (s := nx ++ (x.2.1.take i).filterMap (extC r t) ++ [_]) (by rw [hst, hrow, Option.toList_some, List.append_assoc]) (by have h9 := c55; simp only [Bool.not_eq_true', decide_eq_false_iff_not] at h9; exact h9)
                      exact ret_one .ret (.inl rfl) rfl (v11_2, _) (OT.val (OT.tmp rfl) (congrArg Value.bool (hbf))) (fun hq => absurd hbf (by unfold goodN; rw [decide_eq_true hq]; simp)) (by repeat (first | exact picks_nil | refine picks_cons 0 rfl ?_ | refine picks_cons 1 rfl ?_ | refine picks_cons 2 rfl ?_ | refine picks_cons 3 rfl ?_ | refine picks_cons 4 rfl ?_ | refine picks_cons 5 rfl ?_ | refine picks_cons 6 rfl ?_ | refine picks_cons 7 rfl ?_ | refine picks_cons 8 rfl ?_))
                    · skip
                      refine tr_skip ?_
                      refine block_normal ?_
                      refine then_normal ?_
                      -- region 13
                      refine tr_env (es_cons (t := 1) (OT.tmp rfl) (es_cons (t := 3) (OT.tmp rfl) (es_cons (t := 4) (OT.tmp rfl) (es_cons (t := 11) (OT.tmp rfl) (es_cons (t := 24) (OT.tmp rfl) (es_cons (t := 25) (OT.tmp rfl) (es_cons (t := 26) (OT.tmp rfl) es_nil))))))) ?_
                      refine tr_region ?_
                      refine op_pure (pu_add' (OT.tmp rfl) OT.const (by omega)) rfl rfl ?_
                      refine op_pure (pu_move (OT.tmp rfl)) rfl rfl ?_
                      refine tr_nil ?_
                      refine then_normal ?_
                      exact tr_again (i + 1, v11_2) ⟨(by show i + 1 ≤ _; omega), (by show (nx ++ (x.2.1.take (i + 1)).filterMap (extC r t)).length ≤ 3000; have h9 := c55; simp only [Bool.not_eq_false', decide_eq_true_eq] at h9; rw [hst, hrow, Option.toList_some, ← List.append_assoc]; simp only [List.length_append, List.length_singleton] at h9 ⊢; omega)⟩ (by show x.2.1.length - (i + 1) < x.2.1.length - i; omega) (es_append (es_cons (t := 26) (by exact OT.tmp rfl) es_nil) (es_cons (t := 1) (OT.tmp rfl) (es_cons (t := 3) (OT.tmp rfl) (es_cons (t := 4) (OT.tmp rfl) (es_cons (t := 11) (OT.tmp rfl) (es_cons (t := 24) (OT.tmp rfl) (es_cons (t := 25) (OT.tmp rfl) es_nil))))))) (own_picks (by rw [hst, hrow, Option.toList_some, ← List.append_assoc]; exact (by repeat (first | exact picks_nil | refine picks_cons 0 rfl ?_ | refine picks_cons 1 rfl ?_ | refine picks_cons 2 rfl ?_ | refine picks_cons 3 rfl ?_ | refine picks_cons 4 rfl ?_ | refine picks_cons 5 rfl ?_ | refine picks_cons 6 rfl ?_ | refine picks_cons 7 rfl ?_ | refine picks_cons 8 rfl ?_))))
          · skip
            refine tr_exit ?_
            refine then_exit ?_
            refine then_exit ?_
            refine block_hit ?_
            refine block_normal ?_
            refine then_normal ?_
            refine tr_seq ?_
            -- region 23
            refine tr_env es_nil ?_
            refine tr_region ?_
            refine op_pure (pu_assign OT.const) rfl rfl ?_
            refine tr_nil ?_
            refine then_normal ?_
            refine tr_ret ?_
            obtain rfl : i = x.2.1.length := by simp only [decide_eq_false_iff_not] at c27; omega
            exact ret_one .ret (.inl rfl) rfl (vi, nx ++ (x.2.1.take x.2.1.length).filterMap (extC r t)) (OT.val (OT.tmp rfl) (congrArg Value.bool (C_true hC1 (by rw [List.take_length] at hin; exact hin)))) (fun _ => by show nx ++ _ = nx ++ ext (some x) r f t; rw [ext_C hC1, List.take_length]) (by repeat (first | exact picks_nil | refine picks_cons 0 rfl ?_ | refine picks_cons 1 rfl ?_ | refine picks_cons 2 rfl ?_ | refine picks_cons 3 rfl ?_ | refine picks_cons 4 rfl ?_ | refine picks_cons 5 rfl ?_ | refine picks_cons 6 rfl ?_ | refine picks_cons 7 rfl ?_ | refine picks_cons 8 rfl ?_))
end Go.Proofs.Ytakkjljhjfkkbaa
/- Rows' loops: steps. Plain Lean. -/
namespace Go.Jn
open Go Go.Gw Go.Tu Go.Proofs.Ytakkjljhjfkkbaa
set_option linter.unusedVariables false
set_option linter.unusedSimpArgs false
theorem optM_lkp (lab : Lab) (m : List (Lab × Ix)) : (lkp lab (optM m)).getD none = lkp lab m := by
  unfold optM
  rw [lkp_map (fun x : Ix => some x)]
  cases lkp lab m <;> rfl
theorem flat_snoc {α β : Type} [Inhabited α] {l : List α} (f : α → List β) {k : Nat} (h : k < l.length) : (l.take (k + 1)).flatMap f = (l.take k).flatMap f ++ f (at' l (k : Int)) := by
  rw [at'_nat h, List.take_succ_eq_append_getElem h, List.flatMap_append]; simp
theorem flat_take_le {α β : Type} (f : α → List β) (l : List α) (k : Nat) : ((l.take k).flatMap f).length ≤ (l.flatMap f).length := by
  have h := List.take_append_drop k l
  have h2 : (l.flatMap f).length = ((l.take k).flatMap f).length + ((l.drop k).flatMap f).length := by
    conv => lhs; rw [← h]
    rw [List.flatMap_append, List.length_append]
  omega
theorem rows_take {m : List (Lab × Ix)} {V : List Lab} {al : List Atm} {k : Nat} (h : k < al.length) : rowsK m V (al.take (k + 1)) = stepR m V (rowsK m V (al.take k)) (at' al (k : Int)) := by
  rw [at'_nat h, List.take_succ_eq_append_getElem h, rowsK_snoc]
/-- The rows of the first k atoms have so many places. -/
theorem rows_len (l : List Ed) {al : List Atm} {k : Nat} {r : Tp} (h : r ∈ rowsK (byLab l) (varsL al) (al.take k)) : r.length = (varsL (al.take k)).length := (((rows_spec l (al.take k) (varsL_take al k)).2 r).1 h).1
theorem rows_lies {al : List Atm} {k : Nat} {a : Atm} (h : k < al.length) (ha : at' al (k : Int) = a) : Lies (varsL (al.take k)).length (varsL (al.take (k + 1))).length (ix (varsL al) a.1) (ix (varsL al) a.2.2) := by
  have h1 := varsL_at h
  rw [ha] at h1
  exact lies (varsL_nodup _) h1 (varsL_take al (k + 1))
theorem atom_vars {al : List Atm} {k : Nat} {a : Atm} (h : k < al.length) (ha : at' al (k : Int) = a) : ixI (varsL al) a.1 = (ix (varsL al) a.1 : Int) ∧ ixI (varsL al) a.2.2 = (ix (varsL al) a.2.2 : Int) := by
  rw [at'_nat h] at ha
  have hm : a ∈ al := ha ▸ List.getElem_mem h
  exact ⟨ixI_in (varsL_mem.2 ⟨a, hm, .inl rfl⟩), ixI_in (varsL_mem.2 ⟨a, hm, .inr rfl⟩)⟩
theorem idx_small (l : List Ed) (hl : l.length ≤ 1000000) (lab : Lab) : ∀ x, lkp lab (byLab l) = some x → x.2.1.length ≤ 1000000 ∧ ∀ n, ((lkp n x.1).getD []).length ≤ 1000000 := by
  intro x hx
  obtain ⟨h, _⟩ := byLab_ok l lab
  rw [hx] at h
  simp only [Option.getD_some] at h
  have h1 := prs_len l lab
  have h2 := h.al
  refine ⟨by omega, fun n => ?_⟩
  have h3 := h.fl n
  omega
theorem at_mem {α : Type} [Inhabited α] {l : List α} {k : Nat} (h : k < l.length) : at' l (k : Int) ∈ l := by rw [at'_nat h]; exact List.getElem_mem h
theorem okV_pat {v : Vw} (h : (!okV v) = false) : okV v = true ∧ v.2.2.1.length ≤ 6 ∧ 1 ≤ v.2.2.2.1.length ∧ v.2.2.2.1.length ≤ 8 := by
  have h1 : okV v = true := by simpa using h
  refine ⟨h1, ?_⟩
  unfold okV patB at h1
  simp only [Bool.and_eq_true, decide_eq_true_eq] at h1
  omega
theorem rows_all_len (l : List Ed) {al : List Atm} (h8 : al.length ≤ 8) (k : Nat) : ∀ r ∈ rowsK (byLab l) (varsL al) (al.take k), r.length ≤ 16 := by
  intro r hr
  have h1 := rows_len l hr
  have h2 := varsL_len (al.take k)
  rw [List.length_take] at h2
  omega
theorem caps0 {m : List (Lab × Ix)} {V : List Lab} {al : List Atm} : ∀ j, j ≤ 0 → (rowsK m V (al.take j)).length ≤ 3000 := fun j hj => by
  obtain rfl : j = 0 := by omega
  show 1 ≤ 3000; omega
theorem caps_next {m : List (Lab × Ix)} {V : List Lab} {al : List Atm} {k : Nat} (h : ∀ j, j ≤ k → (rowsK m V (al.take j)).length ≤ 3000) (h1 : (rowsK m V (al.take (k + 1))).length ≤ 3000) : ∀ j, j ≤ k + 1 → (rowsK m V (al.take j)).length ≤ 3000 := fun j hj => by
  rcases Nat.lt_or_ge j (k + 1) with h2 | h2
  · exact h j (by omega)
  · obtain rfl : j = k + 1 := by omega
    exact h1
theorem many_at {l : List Ed} {al : List Atm} {k i : Nat} {a : Atm} {rows : List Tp} {r : Tp} (hk : k < al.length) (ha : at' al (k : Int) = a) (hr : rowsK (byLab l) (varsL al) (al.take k) = rows) (hi : i < rows.length) (hrr : at' rows (i : Int) = r)
    (h : ¬ ((rows.take i).flatMap (fun r => ext (lkp a.2.1 (byLab l)) r (ix (varsL al) a.1) (ix (varsL al) a.2.2))).length + (ext (lkp a.2.1 (byLab l)) r (ix (varsL al) a.1) (ix (varsL al) a.2.2)).length ≤ 3000) : tooMany l al := by
  refine ⟨k + 1, hk, ?_⟩
  rw [rows_take hk, ha, hr]
  unfold stepR
  have h1 := flat_take_le (fun r => ext (lkp a.2.1 (byLab l)) r (ix (varsL al) a.1) (ix (varsL al) a.2.2)) rows (i + 1)
  have h2 := flat_snoc (fun r => ext (lkp a.2.1 (byLab l)) r (ix (varsL al) a.1) (ix (varsL al) a.2.2)) hi
  rw [hrr] at h2
  rw [h2, List.length_append] at h1
  omega
theorem not_many {l : List Ed} {al : List Atm} (h : ∀ j, j ≤ al.length → (rowsK (byLab l) (varsL al) (al.take j)).length ≤ 3000) : ¬ tooMany l al := by
  rintro ⟨k, hk, h1⟩
  have := h k hk
  omega
end Go.Jn
/- Walks through the Go functions join.Rows, as typed contracts. -/
namespace Go.Proofs.Ytakkjljhjfkkbaa
open Go Go.Gw Go.So Go.Tu Go.Jn
set_option linter.unusedVariables false
set_option linter.unusedSimpArgs false

set_option maxRecDepth 20000 in
/-- rhizome/join.Rows -/
theorem Rows_fn (v : Vw) (l : List Ed) (ho : v.2.2.1.length ≤ maxLen) (ha : v.2.2.2.1.length ≤ maxLen) (hm : l.length ≤ 1000000) : Ct Try.prog 13 [kV.T v, SlT kE l] ([]) (List Tp × Int) (fun r => TupT [SlT kT r.1, I64 r.2]) (fun _ => []) (fun r => RowsSay v l r) := by
  refine fn_intro Try.func13 rfl rfl ?_
  intro H w
  have ho0 := ho; have ha0 := ha; unfold maxLen at ho ha
  refine tr_seq ?_
  -- region 0
  refine tr_env (es_cons (t := 0) (OT.tmp rfl) (es_cons (t := 1) (OT.tmp rfl) es_nil)) ?_
  refine tr_region ?_
  refine op_acts (acts_box (d := kV) (OT.tmp rfl)) (List.Perm.refl _) rfl rfl (fun g0_0 _ => ?_)
  refine op_pure (pu_assign OT.const) rfl rfl ?_
  refine op_pure (pu_assign OT.const) rfl rfl ?_
  refine tr_nil ?_
  refine then_normal ?_
  refine tr_seq ?_
  refine tr_seq ?_
  -- region 1
  refine tr_env (es_cons (t := 1) (OT.tmp rfl) (es_cons (t := 2) (OT.tmp rfl) es_nil)) ?_
  refine tr_region ?_
  refine op_pure (pu_load_var (OT.tmp rfl) (by exact mem_at 0 rfl) (show tyOk Try.prog 25 true 5 = true from by decide +kernel)) rfl rfl ?_
  refine op_acts (acts_call (bad_fn _ ho0 ha0) (show enters Try.prog 25 = true from by decide +kernel) (OTs.cons (OT.tmp rfl) OTs.nil) (List.Perm.refl _)) (List.Perm.refl _) rfl rfl (fun _ _ => ?_)
  refine tr_nil ?_
  refine then_normal ?_
  refine tr_cond (OT.tmp rfl) (fun c16 => ?_) (fun c16 => ?_)
  · skip
    refine tr_seq ?_
    -- region 2
    refine tr_env es_nil ?_
    refine tr_region ?_
    refine op_pure (pu_assign OT.const) rfl rfl ?_
    refine op_pure (pu_assign OT.const) rfl rfl ?_
    refine tr_nil ?_
    refine then_normal ?_
    refine tr_ret ?_
    refine then_ret ?_
    exact ret_two .ret (.inl rfl) rfl ([], 1) (OT.conv (OT.tmp rfl) (fun H u h => nil_slt h)) (OT.tmp rfl) (fun _ _ h => h) (.inl ⟨by simpa using c16, rfl⟩) (by exact picks_nil)
  · skip
    obtain ⟨hok, hol, hal1, hal8⟩ := okV_pat c16
    refine tr_skip ?_
    refine then_normal ?_
    refine tr_seq ?_
    -- region 3
    refine tr_env (es_cons (t := 1) (OT.tmp rfl) (es_cons (t := 2) (OT.tmp rfl) es_nil)) ?_
    refine tr_region ?_
    refine op_pure (pu_load_var (OT.tmp rfl) (by exact mem_at 0 rfl) (show tyOk Try.prog 25 true 5 = true from by decide +kernel)) rfl rfl ?_
    refine op_acts (acts_call (Vars_fn _ (by omega)) (show enters Try.prog 18 = true from by decide +kernel) (OTs.cons (OT.tmp rfl) OTs.nil) (List.Perm.refl _)) (List.Perm.refl _) rfl rfl (fun _ _ => ?_)
    refine op_pure (pu_move (OT.tmp rfl)) rfl rfl ?_
    refine op_acts (acts_call (byLabel_fn _ (by omega)) (show enters Try.prog 26 = true from by decide +kernel) (OTs.cons (OT.tmp rfl) OTs.nil) (List.Perm.refl _)) (List.Perm.refl _) rfl rfl (fun _ _ => ?_)
    refine op_pure (pu_assign (OT.tmp rfl)) rfl rfl ?_
    refine op_pure (pu_assign (OT.tmp rfl)) rfl rfl ?_
    refine tr_nil ?_
    refine then_normal ?_
    refine tr_seq ?_
    -- region 4
    refine tr_env (es_cons (t := 2) (OT.tmp rfl) (es_cons (t := 6) (OT.tmp rfl) (es_cons (t := 7) (OT.tmp rfl) es_nil))) ?_
    refine tr_region ?_
    refine op_acts (acts_lit (d := kT) (v0 := []) (show slTy Try.prog 35 45 1 24 = true from by decide +kernel) (show tyOk Try.prog 45 false 1 = true from by decide +kernel) zT (show 1 * 1 ≤ 16777216 from by decide) (by decide) (fills_arr rfl rfl (by decide) (OT.conv OT.const (fun H u h => nil_slt h)) fills_nil)) (List.Perm.refl _) rfl rfl (fun _ _ => ?_)
    refine op_pure (pu_assign (OT.tmp rfl)) rfl rfl ?_
    refine tr_nil ?_
    refine tr_as 8 (T := SlT kT (rowsK (byLab l) (varsL v.2.2.2.1) (v.2.2.2.1.take 0))) (OT.eq (OT.tmp rfl) rfl) ?_
    refine then_normal ?_
    refine tr_seq ?_
    refine tr_seq ?_
    -- region 5
    refine tr_env (es_cons (t := 2) (OT.tmp rfl) (es_cons (t := 6) (OT.tmp rfl) (es_cons (t := 7) (OT.tmp rfl) (es_cons (t := 8) (OT.tmp rfl) es_nil)))) ?_
    refine tr_region ?_
    refine op_pure (pu_faddr (OT.tmp rfl) (show fieldOk Try.prog 25 3 3 false 1 = true from by decide +kernel)) rfl rfl ?_
    refine op_pure (pu_load_blk (OT.tmp rfl) (by exact mem_at 0 rfl) lv3 (show tyOk Try.prog 23 false 1 = true from by decide +kernel)) rfl rfl ?_
    refine op_pure (pu_len_sl (OT.tmp rfl) Try.underlying23) rfl rfl ?_
    refine op_pure (pu_move OT.const) rfl rfl ?_
    refine tr_nil ?_
    refine then_normal ?_
    refine tr_block ?_
    refine tr_loopK (σ := Nat) (es_cons (t := 6) (OT.tmp rfl) (es_cons (t := 7) (OT.tmp rfl) (es_cons (t := 23) (OT.tmp rfl) (es_cons (t := 24) (OT.tmp rfl) es_nil)))) (fun k => [(25, I64 (k : Int)), (8, SlT kT (rowsK (byLab l) (varsL v.2.2.2.1) (v.2.2.2.1.take k)))]) (fun k => [BlkI g0_0 25 kV v]) (fun k => k ≤ v.2.2.2.1.length ∧ ∀ j, j ≤ k → (rowsK (byLab l) (varsL v.2.2.2.1) (v.2.2.2.1.take j)).length ≤ 3000) (fun k => v.2.2.2.1.length - k) 0 ⟨Nat.zero_le _, caps0⟩ ?_ (own_picks (by repeat (first | exact picks_nil | refine picks_cons 0 rfl ?_ | refine picks_cons 1 rfl ?_ | refine picks_cons 2 rfl ?_ | refine picks_cons 3 rfl ?_ | refine picks_cons 4 rfl ?_ | refine picks_cons 5 rfl ?_ | refine picks_cons 6 rfl ?_ | refine picks_cons 7 rfl ?_ | refine picks_cons 8 rfl ?_))) ?_
    · exact (es_cons (t := 25) (by exact OT.tmp rfl) (es_cons (t := 8) (OT.tmp rfl) es_nil))
    · rintro k ⟨hk, hcaps⟩
      refine tr_seq ?_
      -- region 6
      refine tr_env (es_cons (t := 6) (OT.tmp rfl) (es_cons (t := 7) (OT.tmp rfl) (es_cons (t := 8) (OT.tmp rfl) (es_cons (t := 23) (OT.tmp rfl) (es_cons (t := 24) (OT.tmp rfl) (es_cons (t := 25) (OT.tmp rfl) es_nil)))))) ?_
      refine tr_region ?_
      refine op_pure (pu_lss (OT.tmp rfl) (OT.tmp rfl)) rfl rfl ?_
      refine tr_nil ?_
      refine then_normal ?_
      refine tr_seq ?_
      refine tr_cond (OT.tmp rfl) (fun c26 => ?_) (fun c26 => ?_)
      · skip
        refine tr_skip ?_
        refine then_normal ?_
        refine tr_seq ?_
        refine tr_block ?_
        refine tr_seq ?_
        -- region 7
        refine tr_env (es_cons (t := 6) (OT.tmp rfl) (es_cons (t := 7) (OT.tmp rfl) (es_cons (t := 8) (OT.tmp rfl) (es_cons (t := 23) (OT.tmp rfl) (es_cons (t := 24) (OT.tmp rfl) (es_cons (t := 25) (OT.tmp rfl) es_nil)))))) ?_
        have hka : k < v.2.2.2.1.length := by simpa using c26
        obtain ⟨a, haa⟩ : ∃ a, at' v.2.2.2.1 (k : Int) = a := ⟨_, rfl⟩
        obtain ⟨rows, hrows⟩ : ∃ rows, rowsK (byLab l) (varsL v.2.2.2.1) (v.2.2.2.1.take k) = rows := ⟨_, rfl⟩
        have hlies := rows_lies hka haa
        obtain ⟨hix1, hix2⟩ := atom_vars hka haa
        have hvl := varsL_len v.2.2.2.1
        have hcap := hcaps k (Nat.le_refl k)
        rw [hrows] at hcap ⊢
        refine tr_region ?_
        refine op_pure (pu_index (OT.tmp rfl) (OT.tmp rfl) Try.underlying23 (show tyOk Try.prog 31 true 3 = true from by decide +kernel) (by omega) (by omega)) rfl rfl ?_
        refine op_pure (pu_load (OT.tmp rfl) (show tyOk Try.prog 31 true 3 = true from by decide +kernel)) rfl rfl ?_
        refine op_acts (acts_alloc (zA)) (List.Perm.refl _) rfl rfl (fun g7_2 _ => ?_)
        refine op_acts (acts_store_var (OT.tmp rfl) (OT.tmp rfl) (by exact perm_at 0 rfl) (show tyOk Try.prog 31 true 3 = true from by decide +kernel)) (by exact perm_at 0 rfl) rfl rfl (fun _ _ => ?_)
        refine tr_nil ?_
        refine then_normal ?_
        refine tr_seq ?_
        -- region 8
        refine tr_env (es_cons (t := 6) (OT.tmp rfl) (es_cons (t := 7) (OT.tmp rfl) (es_cons (t := 8) (OT.tmp rfl) (es_cons (t := 10) (OT.tmp rfl) (es_cons (t := 23) (OT.tmp rfl) (es_cons (t := 24) (OT.tmp rfl) (es_cons (t := 25) (OT.tmp rfl) es_nil))))))) ?_
        rw [haa]
        refine tr_region ?_
        refine op_acts (acts_alloc zr) (List.Perm.refl _) rfl rfl (fun g8_0 _ => ?_)
        refine tr_nil ?_
        refine tr_nilItem 45 kT ?_
        refine then_normal ?_
        refine tr_seq ?_
        -- region 9
        refine tr_env (es_cons (t := 6) (OT.tmp rfl) (es_cons (t := 7) (OT.tmp rfl) (es_cons (t := 8) (OT.tmp rfl) (es_cons (t := 10) (OT.tmp rfl) (es_cons (t := 11) (OT.tmp rfl) (es_cons (t := 23) (OT.tmp rfl) (es_cons (t := 24) (OT.tmp rfl) (es_cons (t := 25) (OT.tmp rfl) es_nil)))))))) ?_
        refine tr_region ?_
        refine op_pure (pu_makeFunc (caps_cons (OT.tmp rfl) caps_nil)) rfl rfl ?_
        refine op_pure (pu_assign (OT.tmp rfl)) rfl rfl ?_
        refine tr_nil ?_
        refine then_normal ?_
        refine tr_seq ?_
        refine tr_seq ?_
        -- region 10
        refine tr_env (es_cons (t := 6) (OT.tmp rfl) (es_cons (t := 7) (OT.tmp rfl) (es_cons (t := 8) (OT.tmp rfl) (es_cons (t := 10) (OT.tmp rfl) (es_cons (t := 11) (OT.tmp rfl) (es_cons (t := 12) (OT.tmp rfl) (es_cons (t := 23) (OT.tmp rfl) (es_cons (t := 24) (OT.tmp rfl) (es_cons (t := 25) (OT.tmp rfl) es_nil))))))))) ?_
        refine tr_region ?_
        refine op_pure (pu_move (OT.tmp rfl)) rfl rfl ?_
        refine op_pure (pu_len_sl (OT.tmp rfl) Try.underlying35) rfl rfl ?_
        refine op_pure (pu_move OT.const) rfl rfl ?_
        refine tr_nil ?_
        refine then_normal ?_
        refine tr_block ?_
        refine tr_loopK (σ := Nat × Value) (es_cons (t := 6) (OT.tmp rfl) (es_cons (t := 7) (OT.tmp rfl) (es_cons (t := 10) (OT.tmp rfl) (es_cons (t := 11) (OT.tmp rfl) (es_cons (t := 12) (OT.tmp rfl) (es_cons (t := 23) (OT.tmp rfl) (es_cons (t := 24) (OT.tmp rfl) (es_cons (t := 25) (OT.tmp rfl) (es_cons (t := 30) (OT.tmp rfl) (es_cons (t := 31) (OT.tmp rfl) es_nil)))))))))) (fun s => [(32, I64 (s.1 : Int))]) (fun s => [BlkI g8_0 35 kraw s.2, OwnI 45 kT s.2 ((rows.take s.1).flatMap (fun r => ext (lkp a.2.1 (byLab l)) r (ix (varsL v.2.2.2.1) a.1) (ix (varsL v.2.2.2.1) a.2.2))), BlkI g7_2 31 kA a, BlkI g0_0 25 kV v]) (fun s => s.1 ≤ rows.length ∧ ((rows.take s.1).flatMap (fun r => ext (lkp a.2.1 (byLab l)) r (ix (varsL v.2.2.2.1) a.1) (ix (varsL v.2.2.2.1) a.2.2))).length ≤ 3000) (fun s => rows.length - s.1) (0, nilS) ⟨Nat.zero_le _, by simp⟩ ?_ (own_picks (by repeat (first | exact picks_nil | refine picks_cons 0 rfl ?_ | refine picks_cons 1 rfl ?_ | refine picks_cons 2 rfl ?_ | refine picks_cons 3 rfl ?_ | refine picks_cons 4 rfl ?_ | refine picks_cons 5 rfl ?_ | refine picks_cons 6 rfl ?_ | refine picks_cons 7 rfl ?_ | refine picks_cons 8 rfl ?_))) ?_
        · exact (es_cons (t := 32) (by exact OT.tmp rfl) es_nil)
        · rintro ⟨i, vi⟩ ⟨hi, hin⟩
          dsimp only at hi hin ⊢
          refine tr_seq ?_
          -- region 11
          refine tr_env (es_cons (t := 6) (OT.tmp rfl) (es_cons (t := 7) (OT.tmp rfl) (es_cons (t := 10) (OT.tmp rfl) (es_cons (t := 11) (OT.tmp rfl) (es_cons (t := 12) (OT.tmp rfl) (es_cons (t := 23) (OT.tmp rfl) (es_cons (t := 24) (OT.tmp rfl) (es_cons (t := 25) (OT.tmp rfl) (es_cons (t := 30) (OT.tmp rfl) (es_cons (t := 31) (OT.tmp rfl) (es_cons (t := 32) (OT.tmp rfl) es_nil))))))))))) ?_
          refine tr_region ?_
          refine op_pure (pu_lss (OT.tmp rfl) (OT.tmp rfl)) rfl rfl ?_
          refine tr_nil ?_
          refine then_normal ?_
          refine tr_seq ?_
          refine tr_cond (OT.tmp rfl) (fun c33 => ?_) (fun c33 => ?_)
          · skip
            refine tr_skip ?_
            refine then_normal ?_
            refine tr_seq ?_
            refine tr_block ?_
            refine tr_seq ?_
            -- region 12
            refine tr_env (es_cons (t := 6) (OT.tmp rfl) (es_cons (t := 7) (OT.tmp rfl) (es_cons (t := 10) (OT.tmp rfl) (es_cons (t := 11) (OT.tmp rfl) (es_cons (t := 12) (OT.tmp rfl) (es_cons (t := 23) (OT.tmp rfl) (es_cons (t := 24) (OT.tmp rfl) (es_cons (t := 25) (OT.tmp rfl) (es_cons (t := 30) (OT.tmp rfl) (es_cons (t := 31) (OT.tmp rfl) (es_cons (t := 32) (OT.tmp rfl) es_nil))))))))))) ?_
            have hir : i < rows.length := by simpa using c33
            obtain ⟨r, hrr⟩ : ∃ r, at' rows (i : Int) = r := ⟨_, rfl⟩
            have hrl : r.length = _ := rows_len l (k := k) (al := v.2.2.2.1) (by rw [hrows, ← hrr]; exact at_mem hir)
            have hvlk := varsL_len (v.2.2.2.1.take k)
            rw [List.length_take] at hvlk
            have hst := flat_snoc (fun r => ext (lkp a.2.1 (byLab l)) r (ix (varsL v.2.2.2.1) a.1) (ix (varsL v.2.2.2.1) a.2.2)) hir
            rw [hrr] at hst
            rw [← hrl] at hlies
            have hl1 := hlies.f1
            have hl2 := hlies.t1
            have hl3 := hlies.t2
            refine tr_region ?_
            refine op_pure (pu_index (OT.tmp rfl) (OT.tmp rfl) Try.underlying35 (show tyOk Try.prog 45 false 1 = true from by decide +kernel) (by omega) (by omega)) rfl rfl ?_
            refine op_pure (pu_load (OT.tmp rfl) (show tyOk Try.prog 45 false 1 = true from by decide +kernel)) rfl rfl ?_
            refine op_pure (pu_assign (OT.tmp rfl)) rfl rfl ?_
            refine tr_nil ?_
            refine then_normal ?_
            refine tr_seq ?_
            -- region 13
            refine tr_env (es_cons (t := 6) (OT.tmp rfl) (es_cons (t := 7) (OT.tmp rfl) (es_cons (t := 10) (OT.tmp rfl) (es_cons (t := 11) (OT.tmp rfl) (es_cons (t := 12) (OT.tmp rfl) (es_cons (t := 14) (OT.tmp rfl) (es_cons (t := 23) (OT.tmp rfl) (es_cons (t := 24) (OT.tmp rfl) (es_cons (t := 25) (OT.tmp rfl) (es_cons (t := 30) (OT.tmp rfl) (es_cons (t := 31) (OT.tmp rfl) (es_cons (t := 32) (OT.tmp rfl) es_nil)))))))))))) ?_
            rw [hrr]
            apply tr_any (m := 14) (ns := [[(7, none)], [(10, none)], [(37, some 1)], [(36, some 0), (38, some 2)], [(14, none)], [(6, none)], [(10, none)], [(42, some 6)], [(41, some 5), (43, some 7)], [(6, none)], [(10, none)], [(46, some 10)], [(45, some 9), (47, some 11)], [(12, none)]]) (by kernel_rfl) (by kernel_rfl) (Ts := [_, _, _, _, _, _, _, _, _, _, _, _, _, _]) rfl
            case hops =>
              refine ⟨?_, ⟨?_, ⟨?_, ⟨?_, ⟨?_, ⟨?_, ⟨?_, ⟨?_, ⟨?_, ⟨?_, ⟨?_, ⟨?_, ⟨?_, ⟨?_, trivial⟩⟩⟩⟩⟩⟩⟩⟩⟩⟩⟩⟩⟩⟩
              · exact rop_pure rfl (pu_move (OT.tmp rfl))
              · exact rop_pure rfl (pu_faddr (OT.tmp rfl) (show fieldOk Try.prog 31 1 1 false 1 = true from by decide +kernel))
              · exact rop_pure rfl (pu_load_blk (OT.tmp rfl) (by exact mem_at 2 rfl) la1 (show tyOk Try.prog 9 false 1 = true from by decide +kernel))
              · exact rop_pure rfl (pu_lookup mkS Try.underlying58 zPt (OT.tmp rfl) (OT.tmp rfl))
              · exact rop_pure rfl (pu_move (OT.tmp rfl))
              · exact rop_pure rfl (pu_move (OT.tmp rfl))
              · exact rop_pure rfl (pu_faddr (OT.tmp rfl) (show fieldOk Try.prog 31 0 0 false 1 = true from by decide +kernel))
              · exact rop_pure rfl (pu_load_blk (OT.tmp rfl) (by exact mem_at 2 rfl) la0 (show tyOk Try.prog 9 false 1 = true from by decide +kernel))
              · exact rop_acts rfl (acts_call (IndexS_fn _ _ (by omega)) (show enters Try.prog 19 = true from by decide +kernel) (OTs.cons (OT.tmp rfl) (OTs.cons (OT.tmp rfl) OTs.nil)) (List.Perm.refl _)) (fun _ _ _ _ h => h)
              · exact rop_pure rfl (pu_move (OT.tmp rfl))
              · exact rop_pure rfl (pu_faddr (OT.tmp rfl) (show fieldOk Try.prog 31 2 2 false 1 = true from by decide +kernel))
              · exact rop_pure rfl (pu_load_blk (OT.tmp rfl) (by exact mem_at 2 rfl) la2 (show tyOk Try.prog 9 false 1 = true from by decide +kernel))
              · exact rop_acts rfl (acts_call (IndexS_fn _ _ (by omega)) (show enters Try.prog 19 = true from by decide +kernel) (OTs.cons (OT.tmp rfl) (OTs.cons (OT.tmp rfl) OTs.nil)) (List.Perm.refl _)) (fun _ _ _ _ h => h)
              · exact rop_pure rfl (pu_move (OT.tmp rfl))
            case h =>
              rw [optM_lkp, hix1, hix2]
              refine op_acts (acts_call (extend_fn (lkp a.2.1 (byLab l)) r (ix (varsL v.2.2.2.1) a.1) (ix (varsL v.2.2.2.1) a.2.2) g8_0 vi ((rows.take i).flatMap (fun r => ext (lkp a.2.1 (byLab l)) r (ix (varsL v.2.2.2.1) a.1) (ix (varsL v.2.2.2.1) a.2.2))) hl1 hl2 hl3 (by omega) (by omega) (idx_small l (by omega) a.2.1)) (show enters Try.prog 28 = true from by decide +kernel) (OTs.cons (OT.tmp rfl) (OTs.cons (OT.tmp rfl) (OTs.cons (OT.tmp rfl) (OTs.cons (OT.tmp rfl) (OTs.cons (OT.tmp rfl) OTs.nil))))) (perm2_at 0 0 rfl rfl)) (perm2_at 0 0 rfl rfl) rfl rfl (fun p hp => ?_)
              refine op_pure (pu_not (OT.tmp rfl)) rfl rfl ?_
              refine tr_nil ?_
              refine then_normal ?_
              refine tr_cond (OT.tmp rfl) (fun c51 => ?_) (fun c51 => ?_)
              · skip
                have hg : ¬ ((rows.take i).flatMap (fun r => ext (lkp a.2.1 (byLab l)) r (ix (varsL v.2.2.2.1) a.1) (ix (varsL v.2.2.2.1) a.2.2))).length + ((fun r => ext (lkp a.2.1 (byLab l)) r (ix (varsL v.2.2.2.1) a.1) (ix (varsL v.2.2.2.1) a.2.2)) r).length ≤ 3000 := by simpa [goodN] using c51
                refine tr_seq ?_
                -- region 14
                refine tr_env es_nil ?_
                refine tr_region ?_
                refine op_pure (pu_assign OT.const) rfl rfl ?_
                refine op_pure (pu_assign OT.const) rfl rfl ?_
                refine tr_nil ?_
                refine then_normal ?_
                refine tr_ret ?_
                refine block_ret ?_
                refine then_ret ?_
                refine then_ret ?_
                refine block_ret ?_
                refine then_ret ?_
                refine block_ret ?_
                refine then_ret ?_
                refine then_ret ?_
                refine block_ret ?_
                refine then_ret ?_
                exact ret_two .ret (.inl rfl) rfl ([], 5) (OT.conv (OT.tmp rfl) (fun H u h => nil_slt h)) (OT.tmp rfl) (fun _ _ h => h) (.inr (.inl ⟨hok, many_at hka haa hrows hir hrr hg, rfl⟩)) (by exact picks_nil)
              · skip
                have hg : ((rows.take i).flatMap (fun r => ext (lkp a.2.1 (byLab l)) r (ix (varsL v.2.2.2.1) a.1) (ix (varsL v.2.2.2.1) a.2.2))).length + ((fun r => ext (lkp a.2.1 (byLab l)) r (ix (varsL v.2.2.2.1) a.1) (ix (varsL v.2.2.2.1) a.2.2)) r).length ≤ 3000 := by simpa [goodN] using c51
                refine tr_skip ?_
                refine block_normal ?_
                refine then_normal ?_
                -- region 15
                refine tr_env (es_cons (t := 6) (OT.tmp rfl) (es_cons (t := 7) (OT.tmp rfl) (es_cons (t := 10) (OT.tmp rfl) (es_cons (t := 11) (OT.tmp rfl) (es_cons (t := 12) (OT.tmp rfl) (es_cons (t := 23) (OT.tmp rfl) (es_cons (t := 24) (OT.tmp rfl) (es_cons (t := 25) (OT.tmp rfl) (es_cons (t := 30) (OT.tmp rfl) (es_cons (t := 31) (OT.tmp rfl) (es_cons (t := 32) (OT.tmp rfl) es_nil))))))))))) ?_
                refine tr_region ?_
                refine op_pure (pu_add' (OT.tmp rfl) OT.const (by omega)) rfl rfl ?_
                refine op_pure (pu_move (OT.tmp rfl)) rfl rfl ?_
                refine tr_nil ?_
                refine then_normal ?_
                exact tr_again (i + 1, p.1) ⟨by show i + 1 ≤ rows.length; omega, by rw [hst, List.length_append]; exact hg⟩ (by show rows.length - (i + 1) < rows.length - i; omega) (es_append (es_cons (t := 32) (by exact OT.tmp rfl) es_nil) (es_cons (t := 6) (OT.tmp rfl) (es_cons (t := 7) (OT.tmp rfl) (es_cons (t := 10) (OT.tmp rfl) (es_cons (t := 11) (OT.tmp rfl) (es_cons (t := 12) (OT.tmp rfl) (es_cons (t := 23) (OT.tmp rfl) (es_cons (t := 24) (OT.tmp rfl) (es_cons (t := 25) (OT.tmp rfl) (es_cons (t := 30) (OT.tmp rfl) (es_cons (t := 31) (OT.tmp rfl) es_nil))))))))))) (own_picks (by rw [hst, ← hp hg]; exact (by repeat (first | exact picks_nil | refine picks_cons 0 rfl ?_ | refine picks_cons 1 rfl ?_ | refine picks_cons 2 rfl ?_ | refine picks_cons 3 rfl ?_ | refine picks_cons 4 rfl ?_ | refine picks_cons 5 rfl ?_ | refine picks_cons 6 rfl ?_ | refine picks_cons 7 rfl ?_ | refine picks_cons 8 rfl ?_))))
          · skip
            refine tr_exit ?_
            refine then_exit ?_
            refine then_exit ?_
            refine block_hit ?_
            refine then_normal ?_
            -- region 16
            refine tr_env (es_cons (t := 6) (OT.tmp rfl) (es_cons (t := 7) (OT.tmp rfl) (es_cons (t := 11) (OT.tmp rfl) (es_cons (t := 23) (OT.tmp rfl) (es_cons (t := 24) (OT.tmp rfl) (es_cons (t := 25) (OT.tmp rfl) es_nil)))))) ?_
            obtain rfl : i = rows.length := by simp only [decide_eq_false_iff_not] at c33; omega
            rw [List.take_length] at hin ⊢
            have hnx : rowsK (byLab l) (varsL v.2.2.2.1) (v.2.2.2.1.take (k + 1)) = rows.flatMap (fun r => ext (lkp a.2.1 (byLab l)) r (ix (varsL v.2.2.2.1) a.1) (ix (varsL v.2.2.2.1) a.2.2)) := by rw [rows_take hka, haa, hrows]; rfl
            refine tr_region ?_
            refine op_pure (pu_load_rawv (OT.tmp rfl) (by exact mem_at 0 rfl) (show tyOk Try.prog 35 false 1 = true from by decide +kernel)) rfl rfl ?_
            refine op_pure (pu_assign (OT.tmp rfl)) rfl rfl ?_
            refine tr_nil ?_
            refine tr_freeze (perm_at 1 rfl) 8 (OT.tmp rfl) ?_
            refine block_normal ?_
            refine then_normal ?_
            -- region 17
            refine tr_env (es_cons (t := 6) (OT.tmp rfl) (es_cons (t := 7) (OT.tmp rfl) (es_cons (t := 8) (OT.tmp rfl) (es_cons (t := 23) (OT.tmp rfl) (es_cons (t := 24) (OT.tmp rfl) (es_cons (t := 25) (OT.tmp rfl) es_nil)))))) ?_
            refine tr_region ?_
            refine op_pure (pu_add' (OT.tmp rfl) OT.const (by omega)) rfl rfl ?_
            refine op_pure (pu_move (OT.tmp rfl)) rfl rfl ?_
            refine tr_nil ?_
            refine then_normal ?_
            exact tr_again (k + 1) ⟨by omega, caps_next hcaps (by rw [hnx]; exact hin)⟩ (by omega) (es_append (es_cons (t := 25) (by exact OT.tmp rfl) (es_cons (t := 8) (OT.eq (OT.tmp rfl) (congrArg (SlT kT) hnx.symm)) es_nil)) (es_cons (t := 6) (OT.tmp rfl) (es_cons (t := 7) (OT.tmp rfl) (es_cons (t := 23) (OT.tmp rfl) (es_cons (t := 24) (OT.tmp rfl) es_nil))))) (own_picks (by repeat (first | exact picks_nil | refine picks_cons 0 rfl ?_ | refine picks_cons 1 rfl ?_ | refine picks_cons 2 rfl ?_ | refine picks_cons 3 rfl ?_ | refine picks_cons 4 rfl ?_ | refine picks_cons 5 rfl ?_ | refine picks_cons 6 rfl ?_ | refine picks_cons 7 rfl ?_ | refine picks_cons 8 rfl ?_)))
      · skip
        refine tr_exit ?_
        refine then_exit ?_
        refine then_exit ?_
        refine block_hit ?_
        refine then_normal ?_
        refine tr_seq ?_
        -- region 18
        refine tr_env (es_cons (t := 8) (OT.tmp rfl) es_nil) ?_
        obtain rfl : k = v.2.2.2.1.length := by simp only [decide_eq_false_iff_not] at c26; omega
        have hsm : Small (rowsK (byLab l) (varsL v.2.2.2.1) v.2.2.2.1) := ⟨by have := hcaps _ (Nat.le_refl _); rw [List.take_length] at this; omega, fun r hr => by have := rows_all_len l hal8 v.2.2.2.1.length r (by rw [List.take_length]; exact hr); omega⟩
        rw [List.take_length]
        refine tr_region ?_
        refine op_pure (pu_move (OT.tmp rfl)) rfl rfl ?_
        refine op_acts (acts_callM (Set_fn (K0 := noK) (n0 := 0) _ hsm) mk_none (show enters Try.prog 22 = true from by decide +kernel) (OTs.cons (OT.tmp rfl) OTs.nil) (List.Perm.refl _)) (List.Perm.refl _) rfl rfl (fun _ _ => ?_)
        refine op_pure (pu_assign (OT.tmp rfl)) rfl rfl ?_
        refine op_pure (pu_assign OT.const) rfl rfl ?_
        refine tr_nil ?_
        refine then_normal ?_
        refine tr_ret ?_
        exact ret_two .ret (.inl rfl) rfl (setR (rowsK (byLab l) (varsL v.2.2.2.1) v.2.2.2.1), 0) (OT.unfr2 (OT.tmp rfl)) (OT.tmp rfl) (fun _ _ h => h) (.inr (.inr ⟨hok, not_many hcaps, rfl⟩)) (by exact picks_nil)
end Go.Proofs.Ytakkjljhjfkkbaa
/- How often each tuple comes in a list that rises. Plain Lean. -/
namespace Go.Jn
open Go Go.Gw Go.Tu
set_option linter.unusedVariables false
set_option linter.unusedSimpArgs false
abbrev SortL (xs : List Tp) : Prop := xs.Pairwise fun x y => cmpL x y ≤ 0
def cntL (xs : List Tp) : List Int := (dd xs).map fun t => (xs.count t : Int)
theorem cntL_len (xs : List Tp) : (cntL xs).length = (dd xs).length := by unfold cntL; rw [List.length_map]
section
variable {xs : List Tp} {k : Nat}
theorem sort_at (hs : SortL xs) {i j : Nat} (hi : i < j) (hj : j < xs.length) : cmpL (at' xs (i : Int)) (at' xs (j : Int)) ≤ 0 := by
  rw [at'_nat (show i < xs.length by omega), at'_nat hj]
  exact List.pairwise_iff_getElem.1 hs i j (by omega) hj hi
theorem cmp_anti {a b : Tp} (h1 : cmpL a b ≤ 0) (h2 : cmpL b a ≤ 0) : a = b := by
  have := cmp_neg a b
  exact cmp_eq.1 (by omega)
theorem sort_take (hs : SortL xs) (k : Nat) : SortL (xs.take k) := hs.sublist (List.take_sublist _ _)
theorem dd_nodup (hs : SortL xs) : (dd xs).Nodup := (dd_rises hs).imp fun {a b} h e => by subst e; rw [cmp_self] at h; omega
theorem prev_at (h : k + 1 < xs.length) : at' xs (((k + 1 : Nat) : Int) - 1) = at' xs (k : Int) := by congr 1; omega
/-- The last of them is the last tuple. -/
theorem dd_last : ∀ {k : Nat}, k < xs.length → dd (xs.take (k + 1)) ≠ [] ∧ at' (dd (xs.take (k + 1))) (((dd (xs.take (k + 1))).length : Int) - 1) = at' xs (k : Int)
  | 0, h => by
    have e : xs.take (0 + 1) = [at' xs ((0 : Nat) : Int)] := by rw [at'_nat h, List.take_succ_eq_append_getElem h]; simp
    rw [e, dd_one (by simp)]
    exact ⟨by simp, rfl⟩
  | k + 1, h => by
    obtain ⟨h1, h2⟩ := dd_last (k := k) (by omega)
    have hst := dd_step (xs := xs) (m := k + 1) (by omega) h
    rw [prev_at h] at hst
    split at hst
    · rename_i he
      rw [hst]; exact ⟨h1, h2.trans he⟩
    · rw [hst]
      refine ⟨by simp, ?_⟩
      rw [List.length_append, List.length_singleton]
      have e : (((dd (xs.take (k + 1))).length + 1 : Nat) : Int) - 1 = ((dd (xs.take (k + 1))).length : Int) := by omega
      rw [e, at'_nat (by simp)]
      simp
theorem count_take {t : Tp} (h : k < xs.length) : (xs.take (k + 1)).count t = (xs.take k).count t + if at' xs (k : Int) = t then 1 else 0 := by
  rw [at'_nat h, List.take_succ_eq_append_getElem h, List.count_append]
  congr 1
  rw [List.count_singleton]
  simp
theorem cnt_new (hs : SortL xs) (h : k < xs.length) (hne : k = 0 ∨ at' xs ((k : Int) - 1) ≠ at' xs (k : Int)) : dd (xs.take (k + 1)) = dd (xs.take k) ++ [at' xs (k : Int)] ∧ cntL (xs.take (k + 1)) = cntL (xs.take k) ++ [1] := by
  have hno : at' xs (k : Int) ∉ xs.take k := by
    intro hm
    obtain ⟨i, hi, he⟩ := List.getElem_of_mem hm
    rw [List.length_take] at hi
    have hik : i < k := by omega
    have he2 : at' xs (i : Int) = at' xs (k : Int) := by
      rw [List.getElem_take] at he
      rw [at'_nat (show i < xs.length by omega)]; exact he
    rcases hne with h0 | h0
    · omega
    · have e1 : ((k : Int) - 1) = ((k - 1 : Nat) : Int) := by omega
      rw [e1] at h0
      refine h0 (cmp_anti (sort_at hs (by omega) h) ?_)
      rcases Nat.lt_or_ge i (k - 1) with h1 | h1
      · rw [← he2]; exact sort_at hs h1 (by omega)
      · have : i = k - 1 := by omega
        subst this
        rw [← he2, cmp_self]; exact Int.le_refl _
  have hdd : dd (xs.take (k + 1)) = dd (xs.take k) ++ [at' xs (k : Int)] := by
    rcases Nat.eq_zero_or_pos k with h0 | h0
    · subst h0
      rw [at'_nat h, List.take_succ_eq_append_getElem h]
      simp only [List.take_zero, List.nil_append]
      rw [dd_one (by simp)]; rfl
    · have hst := dd_step (xs := xs) (m := k) h0 h
      rw [if_neg (hne.resolve_left (by omega))] at hst
      exact hst
  refine ⟨hdd, ?_⟩
  unfold cntL
  rw [hdd, List.map_append]
  have c0 : (xs.take k).count (at' xs (k : Int)) = 0 := List.count_eq_zero.2 hno
  congr 1
  · refine List.map_congr_left fun t ht => ?_
    rw [count_take h, if_neg (show ¬ at' xs (k : Int) = t from fun e => hno (by rw [e]; exact dd_mem.1 ht))]; rfl
  · simp [count_take h, c0]
theorem cnt_same (hs : SortL xs) (h : k + 1 < xs.length) (he : at' xs (k : Int) = at' xs ((k + 1 : Nat) : Int)) : dd (xs.take (k + 1 + 1)) = dd (xs.take (k + 1)) ∧
    cntL (xs.take (k + 1 + 1)) = (cntL (xs.take (k + 1))).set ((dd (xs.take (k + 1))).length - 1) (at' (cntL (xs.take (k + 1))) (((dd (xs.take (k + 1))).length : Int) - 1) + 1) := by
  have hst := dd_step (xs := xs) (m := k + 1) (by omega) h
  rw [prev_at h, if_pos he] at hst
  refine ⟨hst, ?_⟩
  obtain ⟨hn, hl⟩ := dd_last (xs := xs) (k := k) (by omega)
  have hnd := dd_nodup (sort_take hs (k + 1))
  unfold cntL
  rw [hst]
  generalize hD : dd (xs.take (k + 1)) = D at hn hl hnd
  have hlen : 0 < D.length := by cases D with
    | nil => exact absurd rfl hn
    | cons a l => simp
  have hi : ((D.length : Int) - 1) = ((D.length - 1 : Nat) : Int) := by omega
  rw [hi] at hl ⊢
  have hlt : D.length - 1 < D.length := by omega
  rw [at'_nat hlt] at hl
  rw [at'_nat (by rw [List.length_map]; exact hlt), List.getElem_map]
  apply List.ext_getElem
  · simp
  · intro i h1 h2
    rw [List.length_map] at h1
    rw [List.getElem_map, count_take h, List.getElem_set]
    by_cases hii : D.length - 1 = i
    · subst hii
      rw [if_pos rfl, if_pos (by rw [← he, hl])]
      omega
    · rw [if_neg hii, if_neg, List.getElem_map]
      · simp
      · intro e
        rw [← he, ← hl] at e
        exact hii ((List.getElem_inj hnd).1 e)
end
theorem cntL_all {all rs : List Tp} (hp : rs.Perm all) (hs : SortL rs) : dd rs = setR all ∧ cntL rs = countsOf all := by
  have h1 := dd_set hp hs
  refine ⟨h1, ?_⟩
  unfold cntL countsOf
  rw [h1]
  exact List.map_congr_left fun t _ => by rw [hp.count_eq]
theorem setR_idem (l : List Tp) : setR (setR l) = setR l := (setR_unique (setR_spec l).1 fun x => Iff.rfl).symm
end Go.Jn
namespace Go.Jn
open Go Go.Gw Go.Tu
theorem res_err {v : Vw} {l : List Ed} {r : List Tp × Int} (h : RowsSay v l r) (h0 : r.2 ≠ 0) : ResSay v l ([], [], r.2) := by
  rcases h with ⟨h1, rfl⟩ | ⟨h1, h2, rfl⟩ | ⟨h1, h2, rfl⟩
  · exact .inl ⟨h1, rfl⟩
  · exact .inr (.inl ⟨h1, h2, rfl⟩)
  · exact absurd rfl h0
theorem rows_ok {v : Vw} {l : List Ed} {r : List Tp × Int} (h : RowsSay v l r) (h0 : r.2 = 0) : okV v = true ∧ ¬ tooMany l v.2.2.2.1 ∧ r.1 = setR (rowsK (byLab l) (varsL v.2.2.2.1) v.2.2.2.1) := by
  rcases h with ⟨h1, rfl⟩ | ⟨h1, h2, rfl⟩ | ⟨h1, h2, rfl⟩
  · cases h0
  · cases h0
  · exact ⟨h1, h2, rfl⟩
theorem rows_facts {v : Vw} {l : List Ed} {rows : List Tp} (hok : okV v = true) (hn : ¬ tooMany l v.2.2.2.1) (hr : rows = setR (rowsK (byLab l) (varsL v.2.2.2.1) v.2.2.2.1)) :
    rows.length ≤ 3000 ∧ (∀ r ∈ rows, r.length = (varsL v.2.2.2.1).length) ∧ v.2.2.1.length ≤ 6 ∧ (varsL v.2.2.2.1).length ≤ 16 ∧ ∀ o ∈ v.2.2.1, o ∈ varsL v.2.2.2.1 := by
  obtain ⟨_, h1, h2, h3⟩ := okV_pat (v := v) (by rw [hok]; rfl)
  have hvl := varsL_len v.2.2.2.1
  refine ⟨?_, fun r hrm => ?_, h1, by omega, fun o ho => ?_⟩
  · have h4 : ¬ 3000 < (rowsK (byLab l) (varsL v.2.2.2.1) (v.2.2.2.1.take v.2.2.2.1.length)).length := fun e => hn ⟨_, Nat.le_refl _, e⟩
    rw [List.take_length] at h4
    have := setR_len (rowsK (byLab l) (varsL v.2.2.2.1) v.2.2.2.1)
    rw [hr]; omega
  · rw [hr] at hrm
    have := ((setR_spec _).2 r).1 hrm
    have h5 := rows_len l (al := v.2.2.2.1) (k := v.2.2.2.1.length) (r := r) (by rw [List.take_length]; exact this)
    rwa [List.take_length] at h5
  · have h6 := hok
    unfold okV outB at h6
    simp only [Bool.and_eq_true, List.all_eq_true] at h6
    simpa using h6.2.1 o ho
theorem cnt_bound (xs : List Tp) (i : Int) : 0 ≤ at' (cntL xs) i ∧ at' (cntL xs) i ≤ xs.length := by
  unfold at'
  rw [List.getD_eq_getElem?_getD]
  cases e : (cntL xs)[i.toNat]? with
  | none => exact ⟨Int.le_refl _, Int.natCast_nonneg _⟩
  | some x =>
    unfold cntL at e
    rw [List.getElem?_map] at e
    cases e2 : (dd xs)[i.toNat]? with
    | none => rw [e2] at e; cases e
    | some t =>
      rw [e2] at e
      cases e
      have := List.count_le_length (a := t) (l := xs)
      simp only [Option.getD_some]; omega
theorem grp_yes {rs : List Tp} {k : Nat} {t : Tp} (h : k < rs.length) (ht : at' rs (k : Int) = t) (hc : (decide ((0 : Int) < (dd (rs.take k)).length) && decide (cmpL (at' (dd (rs.take k)) (((dd (rs.take k)).length : Int) - 1)) t = 0)) = true) : ∃ k', k = k' + 1 ∧ at' rs (k' : Int) = at' rs ((k' + 1 : Nat) : Int) := by
  simp only [Bool.and_eq_true, decide_eq_true_eq] at hc
  match k, h, ht, hc with
  | 0, h, ht, hc => simp [dd] at hc
  | k' + 1, h, ht, hc => exact ⟨k', rfl, (dd_last (by omega)).2.symm.trans ((cmp_eq.1 hc.2).trans ht.symm)⟩
theorem grp_no {rs : List Tp} {k : Nat} {t : Tp} (h : k < rs.length) (ht : at' rs (k : Int) = t) (hc : (decide ((0 : Int) < (dd (rs.take k)).length) && decide (cmpL (at' (dd (rs.take k)) (((dd (rs.take k)).length : Int) - 1)) t = 0)) = false) : k = 0 ∨ at' rs ((k : Int) - 1) ≠ at' rs (k : Int) := by
  match k, h, ht, hc with
  | 0, _, _, _ => exact .inl rfl
  | k' + 1, h, ht, hc =>
    right
    rw [prev_at h]
    intro e
    obtain ⟨h1, h2⟩ := dd_last (xs := rs) (k := k') (by omega)
    have h3 : 0 < (dd (rs.take (k' + 1))).length := by cases hd : dd (rs.take (k' + 1)) with
      | nil => exact absurd hd h1
      | cons a l => simp
    have h4 : cmpL (at' (dd (rs.take (k' + 1))) (((dd (rs.take (k' + 1))).length : Int) - 1)) t = 0 := cmp_eq.2 (h2.trans (e.trans ht))
    have h5 : decide ((0 : Int) < (dd (rs.take (k' + 1))).length) = true := decide_eq_true (by omega)
    rw [h4, h5] at hc
    exact absurd hc (by decide)
end Go.Jn
