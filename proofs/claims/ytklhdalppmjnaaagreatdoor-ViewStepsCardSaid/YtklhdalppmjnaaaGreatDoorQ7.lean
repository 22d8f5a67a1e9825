/- The texts JnB, G33, Jn1, Jn2, Jn3, JnE, JnC, JnD, JnF, Jn4, Jn5, JnG, Jn6, JnH, Jn7, G28, G29, G34, G35, G36, G37, G38, G39, G40, G41, G42, G43, G44, G45, G46, Tu7, Tu8, TuF, Tu9, DrA, DrB, G48, G49 of this claim, put together in their order. No condition of their own. -/
import Derived.Test.YtklhdalppmjnaaaGreatDoorQ4
import Derived.Test.YtklhdalppmjnaaaGreatDoorQ6
import Derived.Test.YtklhdalppmjnaaaGreatDoorQ2
import Derived.ChangeKeysEq
import Derived.Laws.StructEq
import Derived.Laws.IdiomCopy
import Derived.Test.YtklhdalppmjnaaaGreatDoorRows
import Derived.Handed
import Derived.SizedLaws
import Derived.LaidLaws
import Derived.Lib.LaidTab
import Derived.Test.YtklhdalppmjnaaaGreatDoorQ1
import Derived.Lib.TrimUEq
import Derived.Lib.AppendStr
import Derived.Lib.UnsafeStr
import Derived.Lib.Builder
import Derived.Laws.Externs
import Derived.Lib.RuneBytes
import Derived.Laws.Small
import Derived.Maps.RangeRun
import Derived.Shelf.SlIterI.Nil
import Derived.Shelf.Sort.Plain
import Derived.Shelf.Slices.In.SortNone
import Derived.Shelf.Slices.CompactI
import Derived.Lib.RowBridge
/- Places in lists of names; names; steps of the loops over them. Plain Lean. -/
namespace Go.Jn
open Go Go.Gw Go.Tu
set_option linter.unusedVariables false
set_option linter.unusedSimpArgs false
def ixI (vs : List Lab) (x : Lab) : Int := if vs.contains x then (ix vs x : Int) else -1
theorem ixI_in {vs : List Lab} {x : Lab} (h : x ∈ vs) : ixI vs x = (ix vs x : Int) := by unfold ixI; rw [if_pos (by simpa using h)]
theorem ix_lt {vs : List Lab} {x : Lab} (h : x ∈ vs) : ix vs x < vs.length := List.idxOf_lt_length_of_mem h
section
variable {vs : List Lab} {x : Lab} {k : Nat}
theorem ixI_here (h : k < vs.length) (hno : x ∉ vs.take k) (he : x = at' vs (k : Int)) : ixI vs x = (k : Int) := by
 rw [at'_nat h] at he
 have hin : x ∈ vs := he ▸ List.getElem_mem h
 rw [ixI_in hin]
 have hs := List.take_append_drop k vs
 rw [List.drop_eq_getElem_cons h, ← he] at hs
 unfold ix
 rw [← hs, List.idxOf_append, if_neg hno, List.length_take]
 simp; omega
theorem ixI_next (h : k < vs.length) (hno : x ∉ vs.take k) (he : ¬ x = at' vs (k : Int)) : x ∉ vs.take (k + 1) := by
 rw [at'_nat h] at he
 rw [List.take_succ_eq_append_getElem h]
 simp only [List.mem_append, List.mem_singleton]
 rintro (h1 | h1)
 · exact hno h1
 · exact he h1
theorem ixI_none (hno : x ∉ vs.take vs.length) : ixI vs x = -1 := by
 rw [List.take_length] at hno
 unfold ixI; rw [if_neg (by simpa using hno)]
theorem ixI_pos : decide (0 ≤ ixI vs x) = vs.contains x := by
 unfold ixI
 split
 · rename_i h; rw [h]; simp
 · rename_i h; simp only [Bool.not_eq_true] at h; rw [h]; rfl
end
theorem name_expr (l : Lab) : (decide ((1 : Int) ≤ (l.length : Int)) && decide ((l.length : Int) ≤ 16) && !(!l.all isLow)) = nameB l := by
 unfold nameB
 rw [Bool.not_not]
 congr 1
 congr 1
 · rw [Bool.eq_iff_iff]; simp; omega
 · rw [Bool.eq_iff_iff]; simp; omega
theorem varsL_at {al : List Atm} {k : Nat} (h : k < al.length) : varsL (al.take (k + 1)) = addA (varsL (al.take k)) (at' al (k : Int)) := by
 rw [at'_nat h, List.take_succ_eq_append_getElem h, varsL_snoc]
end Go.Jn
namespace Go.Jn
open Go Go.Gw Go.Tu
def addsV (out : List Lab) (a : Atm) (j : Nat) : List Lab := ([a.1, a.2.2].take j).foldl addV out
theorem addsV_step (out : List Lab) (a : Atm) {j : Nat} (h : j < ([a.1, a.2.2] : List Lab).length) : addsV out a (j + 1) = addV (addsV out a j) (at' [a.1, a.2.2] (j : Int)) := by
 unfold addsV
 rw [at'_nat h, List.take_succ_eq_append_getElem h, List.foldl_append]; rfl
theorem addsV_len (out : List Lab) (a : Atm) (j : Nat) : (addsV out a j).length ≤ out.length + 2 := by
 have h1 : ∀ (x : Lab) (o : List Lab), (addV o x).length ≤ o.length + 1 := fun x o => by rw [addV_len]; split <;> omega
 unfold addsV
 match j with
 | 0 => simp
 | 1 => exact Nat.le_trans (h1 _ _) (by omega)
 | j + 2 => have := h1 a.2.2 (addV out a.1); have := h1 a.1 out; simp only [List.take_succ_cons, List.take_nil, List.foldl_cons, List.foldl_nil]; omega
end Go.Jn
namespace Go.Jn
open Go Go.Gw Go.Tu
def atmB (a : Atm) : Bool := nameB a.1 && nameB a.2.1 && nameB a.2.2
def preB (v : Vw) : Bool := nameB v.1 && decide (v.2.2.2.2 = []) && decide ((1 : Int) ≤ v.2.2.1.length) && decide ((v.2.2.1.length : Int) ≤ 6) && decide ((1 : Int) ≤ v.2.2.2.1.length) && decide ((v.2.2.2.1.length : Int) ≤ 8)
def reachB (v : Vw) : Bool := nameB v.1 && nameB v.2.2.2.2 && decide ((v.2.2.1.length : Int) = 0) && decide ((v.2.2.2.1.length : Int) = 0)
def checkB (v : Vw) : Bool := if v.2.1 = 2 then reachB v else if v.2.1 = 1 then preB v && v.2.2.2.1.all atmB && outB (varsL v.2.2.2.1) v.2.2.1 else false
end Go.Jn
namespace Go.Jn
open Go Go.Gw Go.Tu
theorem all_snocB {α : Type} [Inhabited α] {l : List α} {p : α → Bool} {k : Nat} (h : k < l.length) : (l.take (k + 1)).all p = ((l.take k).all p && p (at' l (k : Int))) := by
 rw [at'_nat h, List.take_succ_eq_append_getElem h, List.all_append]; simp
theorem atoms_step {v : Vw} {k : Nat} (h : k < v.2.2.2.1.length) : (preB v && (v.2.2.2.1.take k).all atmB && nameB (at' v.2.2.2.1 (k : Int)).1 && nameB (at' v.2.2.2.1 (k : Int)).2.1 && nameB (at' v.2.2.2.1 (k : Int)).2.2) = (preB v && (v.2.2.2.1.take (k + 1)).all atmB) := by
 rw [all_snocB h]; unfold atmB; simp only [Bool.and_assoc]
theorem out_step {V out : List Lab} {i : Nat} (h : i < out.length) : (outB V (out.take i) && V.contains (at' out (i : Int)) && !(out.take i).contains (at' out (i : Int))) = outB V (out.take (i + 1)) := by
 unfold outB
 rw [all_snocB h]
 have hn : (out.take (i + 1)).Nodup ↔ (out.take i).Nodup ∧ at' out (i : Int) ∉ out.take i := by
  rw [at'_nat h, List.take_succ_eq_append_getElem h, List.nodup_append]
  constructor
  · rintro ⟨h1, _, h3⟩
    exact ⟨h1, fun hm => h3 _ hm _ (by simp) rfl⟩
  · rintro ⟨h1, h2⟩
    refine ⟨h1, by simp, fun a ha b hb e => ?_⟩
    have : b = out[i] := by simpa using hb
    subst this; subst e; exact h2 ha
 rw [Bool.eq_iff_iff]
 simp only [Bool.and_eq_true, decide_eq_true_eq, hn, Bool.not_eq_true', List.contains_eq_mem, decide_eq_false_iff_not]
 constructor
 · rintro ⟨⟨⟨h1, h2⟩, h3⟩, h4⟩; exact ⟨⟨h1, h3⟩, h2, h4⟩
 · rintro ⟨⟨h1, h3⟩, h2, h4⟩; exact ⟨⟨⟨h1, h2⟩, h3⟩, h4⟩
theorem chk2 {v : Vw} {b : Bool} (h : decide (v.2.1 = 2) = true) (hb : (!reachB v) = b) : (if b then (1 : Int) else 0) = if checkB v then 0 else 1 := by
 have h1 : v.2.1 = 2 := by simpa using h
 unfold checkB; rw [if_pos h1, ← hb]; cases reachB v <;> rfl
theorem chk0 {v : Vw} (h : decide (v.2.1 = 2) = false) (h1 : decide (v.2.1 = 1) = false) : (1 : Int) = if checkB v then 0 else 1 := by
 have h2 : ¬ v.2.1 = 2 := by simpa using h
 have h3 : ¬ v.2.1 = 1 := by simpa using h1
 unfold checkB; rw [if_neg h2, if_neg h3]; rfl
theorem chk1 {v : Vw} (h : decide (v.2.1 = 2) = false) (h1 : decide (v.2.1 = 1) = true) (hp : (!(preB v && v.2.2.2.1.all atmB)) = true) : (1 : Int) = if checkB v then 0 else 1 := by
 have h2 : ¬ v.2.1 = 2 := by simpa using h
 have h3 : v.2.1 = 1 := by simpa using h1
 have h4 : (preB v && v.2.2.2.1.all atmB) = false := by cases hx : (preB v && v.2.2.2.1.all atmB) with
  | false => rfl
  | true => rw [hx] at hp; exact hp.symm
 unfold checkB; rw [if_neg h2, if_pos h3, h4]; rfl
theorem chk3 {v : Vw} {b : Bool} (h : decide (v.2.1 = 2) = false) (h1 : decide (v.2.1 = 1) = true) (hp : (!(preB v && v.2.2.2.1.all atmB)) = false) (ho : (!outB (varsL v.2.2.2.1) v.2.2.1) = b) : (if b then (1 : Int) else 0) = if checkB v then 0 else 1 := by
 have h2 : ¬ v.2.1 = 2 := by simpa using h
 have h3 : v.2.1 = 1 := by simpa using h1
 have h4 : (preB v && v.2.2.2.1.all atmB) = true := by cases hx : (preB v && v.2.2.2.1.all atmB) with
  | true => rfl
  | false => rw [hx] at hp; exact hp.symm
 unfold checkB; rw [if_neg h2, if_pos h3, h4, ← ho]; cases outB (varsL v.2.2.2.1) v.2.2.1 <;> rfl
theorem pre_lens {v : Vw} (h : preB v = true) : v.2.2.1.length ≤ 6 ∧ 1 ≤ v.2.2.1.length ∧ v.2.2.2.1.length ≤ 8 ∧ 1 ≤ v.2.2.2.1.length := by
 unfold preB at h
 simp only [Bool.and_eq_true, decide_eq_true_eq] at h
 omega
theorem pre_pat (v : Vw) : (preB v && v.2.2.2.1.all atmB) = patB v := by
 unfold preB patB atmB
 have e : ∀ (n : Nat) (c : Nat), decide ((n : Int) ≤ (c : Int)) = decide (n ≤ c) := fun n c => by rw [Bool.eq_iff_iff]; simp
 have e1 : ∀ n : Nat, decide ((1 : Int) ≤ (n : Int)) = decide (1 ≤ n) := fun n => by rw [Bool.eq_iff_iff]; simp; omega
 rw [e1, e1, show (6 : Int) = ((6 : Nat) : Int) from rfl, show (8 : Int) = ((8 : Nat) : Int) from rfl, e, e]
theorem bad_expr (v : Vw) : (decide (v.2.1 ≠ 1) || decide ((if checkB v then (0 : Int) else 1) ≠ 0)) = !okV v := by
 rw [decide_not, decide_not]
 unfold okV
 by_cases h : v.2.1 = 1
 · have h2 : ¬ v.2.1 = 2 := by omega
   unfold checkB
   rw [if_neg h2, if_pos h, pre_pat]
   cases hb : (patB v && outB (varsL v.2.2.2.1) v.2.2.1) <;> simp [h, hb]
 · simp [h]
end Go.Jn
/- Typed walks: what is owned is lent to a function that reads it. Over any program. -/
namespace Go.Gw
open Go
set_option linter.unusedVariables false
set_option linter.unusedSimpArgs false
theorem AllP.mono {H H' : FH} (hs : Sub H H') : ∀ {As : List Ty} {vs : List Value}, AllP H As vs → AllP H' As vs
 | [], [], _ => trivial
 | T :: As, v :: vs, h => ⟨Ty.mono T hs h.1, AllP.mono hs h.2⟩
section
variable {P : Program} {f : FuncId} {As As' : List Ty} {J : List It} {ρ : Type} {T : ρ → Ty} {φ : ρ → Prop} {Q : FH → Prop} {K0 : FH} {n0 : Nat}
open Classical in
theorem lend_post {H H1 H2 : FH} {w w' : World} (hon : On H w) (hO : Owns (fun _ => True) w H J) (h1 : Sub H H1) (hn : ∀ k o, H1 k = some o → H k = some o ∨ k ∈ blks J) (hs : St (fun g => g ∈ blks []) H1 w H2 w') :
 ∃ H', St (fun g => g ∈ blks J) H w H' w' ∧ Owns (fun g => g ∈ blks J ∨ w.heap.size ≤ g) w' H' J := by
 have hst : St noM H w (fun k => if H k = none ∧ k ∈ blks J then none else H2 k) w' := by
  refine ⟨fun k o e => ?_, fun k o e => ?_, hs.os, hs.tape, hs.output, hs.size, fun k hk _ => hs.keep k hk (by simp [blks]), fun k o e => ?_⟩
  · show (if H k = none ∧ k ∈ blks J then none else H2 k) = some o
    rw [if_neg (fun h => by rw [h.1] at e; cases e)]
    exact hs.sub k o (h1 k o e)
  · by_cases hc : H k = none ∧ k ∈ blks J
    · simp only [if_pos hc] at e; cases e
    · simp only [if_neg hc] at e; exact hs.on k o e
  · by_cases hc : H k = none ∧ k ∈ blks J
    · simp only [if_pos hc] at e; cases e
    · simp only [if_neg hc] at e
      rcases hs.new k o e with e2 | e2 | e2
      · rcases hn k o e2 with e3 | e3
        · exact .inl e3
        · refine .inl ?_
          cases hk : H k with
          | none => exact absurd ⟨hk, e3⟩ hc
          | some o' => have := h1 k o' hk; rw [e2] at this; cases this; rfl
      · exact .inr (.inl e2)
      · exact absurd e2 (by simp [blks])
 refine ⟨_, hst.none, ?_⟩
 have hO2 : Owns (fun g => g ∈ blks J ∨ w.heap.size ≤ g) w H J := ⟨hO.all, hO.nodup, fun g hg => ⟨(hO.own g hg).1, (hO.own g hg).2.1, .inl hg⟩⟩
 exact hO2.st0 hst
theorem Ct.lend (hf : Frz J Q) (h : Ct P f As [] ρ T (fun _ => []) φ) (hc : ∀ H args, AllP H As' args → Q H → AllP H As args) (hT : ∀ r H H' v, (T r).p H v → (T r).p H' v) : Ct P f As' J ρ T (fun _ => J) φ := by
 intro H w args hon hA hO
 have hO2 : Owns (fun g => g ∈ blks J) w H (J ++ []) := by rw [List.append_nil]; exact ⟨hO.all, hO.nodup, fun g hg => ⟨(hO.own g hg).1, (hO.own g hg).2.1, hg⟩⟩
 obtain ⟨H1, h1, h2, h3, _, h5⟩ := hf _ w H [] hon hO2
 refine (h H1 w args h2 (hc H1 args (hA.mono h1) h5) Owns.nil).mono ?_
 rintro e w' ⟨r, v, H2, rfl, hφ, hs, hv, _⟩
 obtain ⟨H', k1, k2⟩ := lend_post hon hO h1 h3 hs
 exact ⟨r, v, H', rfl, hφ, k1, hT r _ _ v hv, k2⟩
theorem CtM.lend (hf : Frz J Q) (h : CtM K0 n0 P f As [] ρ T (fun _ => []) φ) (hc : ∀ H args, AllP H As' args → Q H → AllP H As args) (hT : ∀ r H H' v, (T r).p H v → (T r).p H' v) : CtM K0 n0 P f As' J ρ T (fun _ => J) φ := by
 intro H w args hK hn hon hA hO
 have hO2 : Owns (fun g => g ∈ blks J) w H (J ++ []) := by rw [List.append_nil]; exact ⟨hO.all, hO.nodup, fun g hg => ⟨(hO.own g hg).1, (hO.own g hg).2.1, hg⟩⟩
 obtain ⟨H1, h1, h2, h3, _, h5⟩ := hf _ w H [] hon hO2
 refine (h H1 w args (hK.trans h1) hn h2 (hc H1 args (hA.mono h1) h5) Owns.nil).mono ?_
 rintro e w' ⟨r, v, H2, rfl, hφ, hs, hv, _⟩
 obtain ⟨H', k1, k2⟩ := lend_post hon hO h1 h3 hs
 exact ⟨r, v, H', rfl, hφ, k1, hT r _ _ v hv, k2⟩
theorem flat_bool {ρ : Type} {b : ρ → Bool} : ∀ (r : ρ) (H H' : FH) (v : Value), (BoolT (b r)).p H v → (BoolT (b r)).p H' v := fun _ _ _ _ h => h
theorem allP_hd {A B : Ty} {As : List Ty} {args : List Value} {H : FH} (hAB : ∀ v, A.p H v → B.p H v) (h : AllP H (A :: As) args) : AllP H (B :: As) args := by
 match args, h with
 | v :: vs, h => exact ⟨hAB v h.1, h.2⟩
theorem Ct.lend_hd {α : Type} {d : Kd α} {e : TypeId} {v : Value} {xs : List α} (h : Ct P f (SlT d xs :: As) [] ρ T (fun _ => []) φ) (hT : ∀ r H H' v, (T r).p H v → (T r).p H' v) : Ct P f (IsV v :: As) [OwnI e d v xs] ρ T (fun _ => [OwnI e d v xs]) φ :=
 Ct.lend Frz.own h (fun H args hA hQ => allP_hd (fun u hu => by rw [show u = v from hu]; exact hQ) hA) hT
end
end Go.Gw
namespace Go.Gw
open Go Go.MapKept
set_option linter.unusedVariables false
section
variable {C : Cx} {Γ : Env} {L R : List It} {dst : Option Tmp} {ty : TypeId} {pos : String} {after : Array Edge} {guard : Option (Nat × Bool)} {x y z : Operand}
variable {κ α : Type} [DecidableEq κ] {t kt et : TypeId} {K : Kd κ} {enc : κ → Value} {m : List (κ × α)} {g st : Nat} {k : κ}
theorem pu_lookup_entry {d : Kd α} {z0 : α} (mk : MKey C.P kt K enc) (ht : C.P.underlying t = some (.map kt et)) (hz : ZeroOf C.P et d z0) (hx : OT C.N Γ x (IsV (mp g))) (hm : MapE g enc d.T (ptk k ((lkp k m).getD z0) m) k st ∈ L) (hy : OT C.N Γ y (K.T k)) :
 Pure C Γ L ⟨dst, .lookup t x y false, ty, pos, after, guard⟩ (d.T ((lkp k m).getD z0)) := fun a w H f s ow => by
 obtain ⟨es, clock, hb, hR, _⟩ := ow.all _ hm
 obtain ⟨zv, hzr, hzt⟩ := run_zero (w := w) hz
 have hxv : a.eval x = mp g := hx a H f
 have hyv : a.eval y = enc k := mk.val (hy a H f)
 have hl : lkp k (ptk k ((lkp k m).getD z0) m) = some ((lkp k m).getD z0) := by rw [lkp_put, if_pos rfl]
 rcases run_lookup (k := k) mk ht hb hR hzr with ⟨h1, _⟩ | ⟨v0, v, h1, h2, h3, _⟩
 · rw [hl] at h1; cases h1
 · rw [hl] at h1; cases h1; exact ⟨v, by simp [execOp, hxv, hyv, h3, Result.andThen], h2⟩
end
end Go.Gw
namespace Go.Gw
theorem perm2_at {L : List It} (i j : Nat) {x y : It} (h : L[i]? = some x) (h' : (L.eraseIdx i)[j]? = some y) : L.Perm ([x, y] ++ (L.eraseIdx i).eraseIdx j) := (perm_at i h).trans ((perm_at j h').cons x)
end Go.Gw
/- Walks through the Go functions slices.Index[[]string,string], slices.Contains[[]string,string], rhizomeref09.has, query.name, as typed contracts. -/
namespace Go.Proofs.YtklhdalppmjnaaaGreatDoor
open Go Go.Gw Go.So Go.Tu Go.Jn
set_option linter.unusedVariables false
set_option linter.unusedSimpArgs false
abbrev kI : Kd Int := kint .i64
abbrev kE : Kd Ed := kpair kI (kpair kS kI)
abbrev kA : Kd Atm := kpair kS (kpair kS kS)
abbrev kV : Kd Vw := kpair kS (kpair kI (kpair (ksl kS) (kpair (ksl kA) kS)))
abbrev kPP : Kd Pr := kP2 kI
theorem zI : ZeroOf Tryz.prog 3 kI 0 := ⟨.int .i64 0, by kernel_rfl, fun H => rfl⟩
theorem zS : ZeroOf Tryz.prog 9 kS [] := ⟨.string (bs []), by kernel_rfl, fun H => rfl⟩
theorem nil_sl {α : Type} {d : Kd α} {H : FH} : (SlT d []).p H nilS := ⟨none, 0, rfl, by simp, by simp, fun h => by simp at h⟩
theorem e_p (H : FH) (t : Ed) : (kE.T t).p H (.agg #[.int .i64 t.1, .string (bs t.2.1), .int .i64 t.2.2]) := ⟨[.int .i64 t.1, .string (bs t.2.1), .int .i64 t.2.2], ⟨[_], [_, _], rfl, ⟨[_], [_], rfl, rfl, rfl⟩, rfl⟩, rfl⟩
theorem a_p (H : FH) (t : Atm) : (kA.T t).p H (.agg #[.string (bs t.1), .string (bs t.2.1), .string (bs t.2.2)]) := ⟨[.string (bs t.1), .string (bs t.2.1), .string (bs t.2.2)], ⟨[_], [_, _], rfl, ⟨[_], [_], rfl, rfl, rfl⟩, rfl⟩, rfl⟩
theorem zE : ZeroOf Tryz.prog 42 kE (0, [], 0) := ⟨.agg #[.int .i64 0, .string (bs []), .int .i64 0], by kernel_rfl, fun H => e_p H (0, [], 0)⟩
theorem zA : ZeroOf Tryz.prog 49 kA ([], [], []) := ⟨.agg #[.string (bs []), .string (bs []), .string (bs [])], by kernel_rfl, fun H => a_p H ([], [], [])⟩
theorem zV : ZeroOf Tryz.prog 25 kV ([], 0, [], [], []) := ⟨.agg #[.string (bs []), .int .i64 0, nilS, nilS, .string (bs [])], by kernel_rfl, fun H => ⟨[.string (bs []), .int .i64 0, nilS, nilS, .string (bs [])], ⟨[_], [_, _, _, _], rfl, ⟨[_], [_, _, _], rfl, ⟨[_], [_, _], ⟨nilS, rfl, nil_sl⟩, ⟨[_], [_], ⟨nilS, rfl, nil_sl⟩, rfl, rfl⟩, rfl⟩, rfl⟩, rfl⟩, rfl⟩⟩
theorem zT : ZeroOf Tryz.prog 51 kT [] := ⟨nilS, by kernel_rfl, fun H => nil_sl⟩
theorem zP : ZeroOf Tryz.prog 108 kPP (0, 0) := ⟨.agg #[.int .i64 0, .int .i64 0], by kernel_rfl, fun H => ⟨[.int .i64 0, .int .i64 0], ⟨rfl, rfl, fun j x e => by
 match j, e with
 | 0, e => cases e; rfl
 | 1, e => cases e; rfl
 | j + 2, e => simp at e⟩, rfl⟩⟩
theorem le0 {t : Ed} : Lens kE kI 0 t t.1 (fun y => (y, t.2)) := Lens.fst
theorem le1 {t : Ed} : Lens kE kS 1 t t.2.1 (fun y => (t.1, y, t.2.2)) := Lens.comp (Lens.snd (a := kI) (b := kpair kS kI)) (Lens.fst (a := kS) (b := kI))
theorem le2 {t : Ed} : Lens kE kI 2 t t.2.2 (fun y => (t.1, t.2.1, y)) := Lens.comp (Lens.snd (a := kI) (b := kpair kS kI)) (Lens.snd (a := kS) (b := kI))
theorem la0 {t : Atm} : Lens kA kS 0 t t.1 (fun y => (y, t.2)) := Lens.fst
theorem la1 {t : Atm} : Lens kA kS 1 t t.2.1 (fun y => (t.1, y, t.2.2)) := Lens.comp (Lens.snd (a := kS) (b := kpair kS kS)) (Lens.fst (a := kS) (b := kS))
theorem la2 {t : Atm} : Lens kA kS 2 t t.2.2 (fun y => (t.1, t.2.1, y)) := Lens.comp (Lens.snd (a := kS) (b := kpair kS kS)) (Lens.snd (a := kS) (b := kS))
abbrev kV4 : Kd (List Atm × Lab) := kpair (ksl kA) kS
abbrev kV3 : Kd (List Lab × List Atm × Lab) := kpair (ksl kS) kV4
abbrev kV2 : Kd (Int × List Lab × List Atm × Lab) := kpair kI kV3
theorem lv0 {t : Vw} : Lens kV kS 0 t t.1 (fun y => (y, t.2)) := Lens.fst
theorem lv1 {t : Vw} : Lens kV kI 1 t t.2.1 (fun y => (t.1, y, t.2.2)) := Lens.comp (Lens.snd (a := kS) (b := kV2)) (Lens.fst (a := kI) (b := kV3))
theorem lv2 {t : Vw} : Lens kV (ksl kS) 2 t t.2.2.1 (fun y => (t.1, t.2.1, y, t.2.2.2)) := Lens.comp (Lens.snd (a := kS) (b := kV2)) (Lens.comp (Lens.snd (a := kI) (b := kV3)) (Lens.fst (a := ksl kS) (b := kV4)))
theorem lv3 {t : Vw} : Lens kV (ksl kA) 3 t t.2.2.2.1 (fun y => (t.1, t.2.1, t.2.2.1, y, t.2.2.2.2)) := Lens.comp (Lens.snd (a := kS) (b := kV2)) (Lens.comp (Lens.snd (a := kI) (b := kV3)) (Lens.comp (Lens.snd (a := ksl kS) (b := kV4)) (Lens.fst (a := ksl kA) (b := kS))))
theorem lv4 {t : Vw} : Lens kV kS 4 t t.2.2.2.2 (fun y => (t.1, t.2.1, t.2.2.1, t.2.2.2.1, y)) := Lens.comp (Lens.snd (a := kS) (b := kV2)) (Lens.comp (Lens.snd (a := kI) (b := kV3)) (Lens.comp (Lens.snd (a := ksl kS) (b := kV4)) (Lens.snd (a := ksl kA) (b := kS))))

set_option maxRecDepth 20000 in
/-- slices.Index[[]string,string] -/
theorem IndexS_fn (vs : List Lab) (x : Lab) (hm : vs.length ≤ 1000000) : Ct Tryz.prog 50 [SlT kS vs, BsT x] ([]) Unit (fun _ => I64 (ixI vs x)) (fun _ => []) (fun _ => True) := by
 refine fn_intro Tryz.func50 rfl rfl ?_
 intro H w
 refine sq (te (ec 0 rfl (ec 1 rfl en)) (rg (ak rfl (tn (nn (sq (sq (te (ec 0 rfl (ec 1 rfl en)) (rg (mv rfl rfl (oP (pls (oT rfl) Tryz.underlying22) rfl (oP (pu_move ot) rfl (tn (nn (tb (tr_loopK (σ := Nat) (ec 0 rfl (ec 1 rfl (ec 7 rfl en))) (fun k => [(8, I64 (k : Int))]) (fun k => []) (fun k => k ≤ vs.length ∧ x ∉ vs.take k) (fun k => vs.length - k) 0 ⟨Nat.zero_le _, by simp⟩ ?_ (op (by exact pn)) ?_))))))))))))))))
 · exact (ec 8 rfl en)
 · rintro k ⟨hk, hno⟩
   refine sq (te (ec 0 rfl (ec 1 rfl (ec 7 rfl (ec 8 rfl en)))) (rg (oP (pu_lss (oT rfl) (oT rfl)) rfl (tn (nn (sq (tc (oT rfl) (fun c9 => ?_) (fun c9 => ?_))))))))
   · try simp only [cq] at c9
     refine sk (nn (sq (tb (sq (te (ec 0 rfl (ec 1 rfl (ec 7 rfl (ec 8 rfl en)))) (rg (mv rfl rfl (av rfl rfl (tn (nn (sq (te (ec 0 rfl (ec 1 rfl (ec 5 rfl (ec 7 rfl (ec 8 rfl en))))) (rg (mv rfl rfl (mv rfl rfl (mv rfl rfl (oP (pu_index (oT rfl) (oT rfl) Tryz.underlying22 y40 (by omega) (by omega)) rfl (oP (pL (oT rfl) y40) rfl (oP (pu_bs_eql (oT rfl) (oT rfl)) rfl (tn (nn (tc (oT rfl) (fun c16 => ?_) (fun c16 => ?_)))))))))))))))))))))))
     · try simp only [cq] at c16
       have hres := ixI_here (vs := vs) (x := x) (k := k) (by omega) hno c16
       refine sq (te (ec 5 rfl en) (rg (mv rfl rfl (av rfl rfl (tn (nn (tR (block_ret (tt (tt (block_ret (tt ?_))))))))))))
       exact ret_one .ret (.inl rfl) rfl () (OT.val (oT rfl) (congrArg (Value.int _) (hres.symm))) trivial (by exact pn)
     · try simp only [cq] at c16
       have hst := ixI_next (vs := vs) (x := x) (k := k) (by omega) hno c16
       refine sk (bn (nn (te (ec 0 rfl (ec 1 rfl (ec 7 rfl (ec 8 rfl en)))) (rg (oP (pad (oT rfl) ot (by omega)) rfl (mv rfl rfl (tn (nn ?_))))))))
       exact tg (k + 1) ⟨by omega, hst⟩ (by omega) (ea (ec 8 rfl en) (ec 0 rfl (ec 1 rfl (ec 7 rfl en)))) (op (by exact pn))
   · try simp only [cq] at c9
     refine tr_exit (tx (tx (bh (nn (sq (te en ?_))))))
     obtain rfl : k = vs.length := by omega
     have hres := ixI_none (vs := vs) (x := x) hno
     refine rg (ak rfl (tn (nn (tR ?_))))
     exact ret_one .ret (.inl rfl) rfl () (OT.val (oT rfl) (congrArg (Value.int _) (hres.symm))) trivial (by exact pn)
set_option maxRecDepth 20000 in
/-- slices.Contains[[]string,string] -/
theorem ContainsS_fn (vs : List Lab) (x : Lab) (hm : vs.length ≤ 1000000) : Ct Tryz.prog 54 [SlT kS vs, BsT x] ([]) Unit (fun _ => BoolT (vs.contains x)) (fun _ => []) (fun _ => True) := by
 refine fn_intro Tryz.func54 rfl rfl ?_
 intro H w
 refine sq (te (ec 0 rfl (ec 1 rfl en)) (rg (ak rfl (tn (nn (sq (te (ec 0 rfl (ec 1 rfl en)) (rg (mv rfl rfl (mv rfl rfl (oA (aC (IndexS_fn _ _ (by assumption)) y41 (oc (oT rfl) (oc (oT rfl) oN)) pR) pR rfl rfl (fun _ _ => ?_))))))))))))
 refine oP (pu_geq (oT rfl) ot) rfl (av rfl rfl (tn (nn (tR ?_))))
 exact ret_one .ret (.inl rfl) rfl () (OT.val (oT rfl) (congrArg Value.bool (ixI_pos))) trivial (by exact pn)
set_option maxRecDepth 20000 in
/-- rhizome/query.name -/
theorem name_fn (l : Lab) : Ct Tryz.prog 53 [BsT l] ([]) Unit (fun _ => BoolT (nameB l)) (fun _ => []) (fun _ => True) := by
 refine fn_intro Tryz.func53 rfl rfl ?_
 intro H w
 refine sq (te (ec 0 rfl en) (rg (ak rfl (tn (nn (sq (te (ec 0 rfl en) (rg (mv rfl rfl (oP (pu_len_bs Tryz.underlying9 (oT rfl)) rfl (oP (pu_geq (oT rfl) ot) rfl (mv rfl rfl (oG rfl rfl rfl (gm (oT rfl)) (fun hg => by (have hg1 := hg.2; (try simp only [cq2] at hg1); exact pu_move (oT rfl))) rfl ?_)))))))))))))
 refine oG rfl rfl rfl (gm (oT rfl)) (fun hg => by (have hg1 := hg.2; (try simp only [cq2] at hg1); exact pu_len_bs Tryz.underlying9 (by exact gu (oT rfl) hg))) rfl ?_
 refine oG rfl rfl rfl (gm (oT rfl)) (fun hg => by (have hg1 := hg.2; (try simp only [cq2] at hg1); exact pu_leq (by exact gu (oT rfl) hg) ot)) rfl ?_
 refine oP (pu_pick_and (oT rfl) (oT rfl)) rfl (mv rfl rfl (oG rfl rfl rfl (gm (oT rfl)) (fun hg => by (have hg1 := hg.2; (try simp only [cq2] at hg1); exact pu_move (oT rfl))) rfl ?_))
 refine op_gu_acts () rfl rfl rfl (gm (oT rfl)) (fun hg => by (have hg1 := hg.2; (try simp only [cq2] at hg1); exact acts_callM (Contains_ct (K0 := noK) (n0 := 0) _) mk_none y42 (oc (by exact gu (oT rfl) hg) (oc OT.func oN)) pR)) rfl (fun _ _ => ?_)
 refine oG rfl rfl rfl (gm (oT rfl)) (fun hg => by (have hg1 := hg.2; (try simp only [cq2] at hg1); exact pu_not (by exact gu (oT rfl) hg))) rfl ?_
 refine oP (pu_pick_and (oT rfl) (oT rfl)) rfl (av rfl rfl (tn (nn (tR ?_))))
 exact ret_one .ret (.inl rfl) rfl () (OT.val (oT rfl) (congrArg Value.bool (name_expr l))) trivial (by exact pn)

set_option maxRecDepth 20000 in
/-- rhizome/query.Vars -/
theorem Vars_fn (v : Vw) (hv : v.2.2.2.1.length ≤ 1000) : Ct Tryz.prog 49 [kV.T v] ([]) Unit (fun _ => SlT kS (varsL v.2.2.2.1)) (fun _ => []) (fun _ => True) := by
 refine fn_intro Tryz.func49 rfl rfl ?_
 intro H w
 refine sq (te (ec 0 rfl en) (rg (oA (acts_box (d := kV) (oT rfl)) pR rfl rfl (fun g0_0 _ => ?_))))
 refine ak rfl (tn (nn (sq (te (ec 1 rfl en) (rg (ak rfl (tn (nn (sq (sq (te (ec 1 rfl (ec 3 rfl en)) (tr_nilItem 9 kS (rg (oP (pf (oT rfl) y43) rfl (oP (plb (oT rfl) (by exact mA 1 rfl) lv3 y44) rfl ?_)))))))))))))))
 refine oP (pls (oT rfl) Tryz.underlying23) rfl (oP (pu_move ot) rfl (tn (nn (tb (tr_loopK (σ := Nat × Value) (ec 9 rfl (ec 10 rfl en)) (fun s => [(11, I64 (s.1 : Int)), (3, IsV s.2)]) (fun s => [OwnI 9 kS s.2 (varsL (v.2.2.2.1.take s.1)), BlkI g0_0 25 kV v]) (fun s => s.1 ≤ v.2.2.2.1.length) (fun s => v.2.2.2.1.length - s.1) (0, nilS) (Nat.zero_le _) ?_ (op (by repeat first | exact pn | refine pc 0 rfl ?_)) ?_)))))
 · exact (ec 11 rfl (ec 3 rfl en))
 · rintro ⟨k, vo⟩ hk
   dsimp only at hk ⊢
   refine sq (te (ec 3 rfl (ec 9 rfl (ec 10 rfl (ec 11 rfl en)))) (rg (oP (pu_lss (oT rfl) (oT rfl)) rfl (tn (nn (sq (tc (oT rfl) (fun c12 => ?_) (fun c12 => ?_))))))))
   · try simp only [cq] at c12
     refine sk (nn (sq (tb (sq (te (ec 3 rfl (ec 9 rfl (ec 10 rfl (ec 11 rfl en)))) ?_)))))
     obtain ⟨a, ha⟩ : ∃ a, at' v.2.2.2.1 (k : Int) = a := ⟨_, rfl⟩
     have hsn := varsL_at (k := k) (show k < v.2.2.2.1.length by omega)
     have hvl := varsL_len (v.2.2.2.1.take k)
     rw [List.length_take] at hvl
     rw [ha] at hsn
     refine rg (oP (pu_index (oT rfl) (oT rfl) Tryz.underlying23 y45 (by omega) (by omega)) rfl (oP (pL (oT rfl) y45) rfl (oA (acts_alloc (zA)) pR rfl rfl (fun g4_2 _ => ?_))))
     refine oA (asv (oT rfl) (oT rfl) (by exact pA 0 rfl) y45) (by exact pA 0 rfl) rfl rfl (fun _ _ => ?_)
     refine tn (nn (sq (te (ec 3 rfl (ec 5 rfl (ec 9 rfl (ec 10 rfl (ec 11 rfl en))))) ?_)))
     rw [ha]
     refine rg (oP (pf (oT rfl) y46) rfl (oP (plb (oT rfl) (by exact mA 0 rfl) la0 y40) rfl ?_))
     refine oP (pf (oT rfl) y47) rfl (oP (plb (oT rfl) (by exact mA 0 rfl) la2 y40) rfl ?_)
     refine oA (acts_lit (d := kS) (v0 := []) y48 y40 zS (show 2 * 1 ≤ 16777216 from by decide) (by decide) (fills_arr rfl rfl (by decide) (oT rfl) (fills_arr rfl rfl (by decide) (oT rfl) fills_nil))) pR rfl rfl (fun _ _ => ?_)
     refine oP (pls (oT rfl) Tryz.underlying22) rfl (oP (pu_move ot) rfl (tn (tr_as 19 (T := SlT kS [a.1, a.2.2]) (oT rfl) (tr_as 20 (T := I64 2) (oT rfl) ?_))))
     refine nn (tb (tr_loopK (σ := Nat × Value) (ec 9 rfl (ec 10 rfl (ec 11 rfl (ec 19 rfl (ec 20 rfl en))))) (fun s => [(21, I64 (s.1 : Int)), (3, IsV s.2)]) (fun s => [OwnI 9 kS s.2 (addsV (varsL (v.2.2.2.1.take k)) a s.1), BlkI g0_0 25 kV v]) (fun s => s.1 ≤ 2) (fun s => 2 - s.1) (0, vo) (Nat.zero_le _) ?_ (op (by repeat first | exact pn | refine pc 1 rfl ?_)) ?_))
     · exact (ec 21 rfl (ec 3 rfl en))
     · rintro ⟨j, vo2⟩ hj
       dsimp only at hj ⊢
       refine sq (te (ec 3 rfl (ec 9 rfl (ec 10 rfl (ec 11 rfl (ec 19 rfl (ec 20 rfl (ec 21 rfl en))))))) (rg (oP (pu_lss (oT rfl) (oT rfl)) rfl (tn (nn (sq (tc (oT rfl) (fun c22 => ?_) (fun c22 => ?_))))))))
       · try simp only [cq] at c22
         refine sk (nn (sq (tb (sq (te (ec 3 rfl (ec 9 rfl (ec 10 rfl (ec 11 rfl (ec 19 rfl (ec 20 rfl (ec 21 rfl en))))))) ?_)))))
         obtain ⟨x, hx⟩ : ∃ x, at' [a.1, a.2.2] (j : Int) = x := ⟨_, rfl⟩
         obtain ⟨out, ho⟩ : ∃ o, addsV (varsL (v.2.2.2.1.take k)) a j = o := ⟨_, rfl⟩
         have hol := addsV_len (varsL (v.2.2.2.1.take k)) a j
         have hst := addsV_step (varsL (v.2.2.2.1.take k)) a (j := j) (by show j < 2; omega)
         rw [hx, ho] at hst
         rw [ho] at hol
         rw [ho]
         refine rg (oP (pu_index (oT rfl) (oT rfl) Tryz.underlying22 y40 (by omega) (by omega)) rfl (oP (pL (oT rfl) y40) rfl (av rfl rfl (tn (nn (sq (te (ec 3 rfl (ec 7 rfl (ec 9 rfl (ec 10 rfl (ec 11 rfl (ec 19 rfl (ec 20 rfl (ec 21 rfl en)))))))) ?_)))))))
         rw [hx]
         refine rg (mv rfl rfl (mv rfl rfl (oA (aC (Ct.lend_hd (ContainsS_fn out x (by omega)) flat_bool) y49 (oc (oT rfl) (oc (oT rfl) oN)) (by exact pA 0 rfl)) (by exact pA 0 rfl) rfl rfl (fun _ _ => ?_))))
         refine oP (pu_not (oT rfl)) rfl (tn (nn (tc (oT rfl) (fun c28 => ?_) (fun c28 => ?_))))
         · try simp only [cq] at c28
           rw [addV, if_neg (by simpa using c28)] at hst
           refine te (ec 3 rfl (ec 7 rfl (ec 9 rfl (ec 10 rfl (ec 11 rfl (ec 19 rfl (ec 20 rfl (ec 21 rfl en)))))))) (rg (mv rfl rfl (mv rfl rfl (oA (acts_lit (d := kS) (v0 := []) y48 y40 zS (show 1 * 1 ≤ 16777216 from by decide) (by decide) (fills_arr rfl rfl (by decide) (oT rfl) fills_nil)) pR rfl rfl (fun _ _ => ?_)))))
           refine oA (acts_append (oT rfl) (by exact pA 0 rfl) (oT rfl) y48 (by (simp; omega)) (by (simp [maxLen]; omega))) (by exact pA 0 rfl) rfl rfl (fun v9_3 _ => ?_)
           refine av rfl rfl (tn (bn (nn (te (ec 3 rfl (ec 9 rfl (ec 10 rfl (ec 11 rfl (ec 19 rfl (ec 20 rfl (ec 21 rfl en))))))) (rg (oP (pad (oT rfl) ot (by omega)) rfl (mv rfl rfl (tn (nn ?_)))))))))
           exact tg (j + 1, v9_3) (by show j + 1 ≤ 2; omega) (by show 2 - (j + 1) < 2 - j; omega) (ea (ec 21 rfl (ec 3 rfl en)) (ec 9 rfl (ec 10 rfl (ec 11 rfl (ec 19 rfl (ec 20 rfl en)))))) (op (by rw [hst]; exact (by repeat first | exact pn | refine pc 0 rfl ?_)))
         · try simp only [cq] at c28
           rw [addV, if_pos (by simpa using c28)] at hst
           refine sk (bn (nn (te (ec 3 rfl (ec 9 rfl (ec 10 rfl (ec 11 rfl (ec 19 rfl (ec 20 rfl (ec 21 rfl en))))))) (rg (oP (pad (oT rfl) ot (by omega)) rfl (mv rfl rfl (tn (nn ?_))))))))
           exact tg (j + 1, vo2) (by show j + 1 ≤ 2; omega) (by show 2 - (j + 1) < 2 - j; omega) (ea (ec 21 rfl (ec 3 rfl en)) (ec 9 rfl (ec 10 rfl (ec 11 rfl (ec 19 rfl (ec 20 rfl en)))))) (op (by rw [hst]; exact (by repeat first | exact pn | refine pc 0 rfl ?_)))
       · try simp only [cq] at c22
         refine tr_exit (tx (tx (bh (bn (nn (te (ec 3 rfl (ec 9 rfl (ec 10 rfl (ec 11 rfl en)))) ?_))))))
         obtain rfl : j = 2 := by omega
         have hend : addsV (varsL (v.2.2.2.1.take k)) a 2 = varsL (v.2.2.2.1.take (k + 1)) := hsn.symm
         refine rg (oP (pad (oT rfl) ot (by omega)) rfl (mv rfl rfl (tn (nn ?_))))
         exact tg (k + 1, vo2) (by show k + 1 ≤ v.2.2.2.1.length; omega) (by omega) (ea (ec 11 rfl (ec 3 rfl en)) (ec 9 rfl (ec 10 rfl en))) (op (by rw [← hend]; exact (by repeat first | exact pn | refine pc 0 rfl ?_)))
   · try simp only [cq] at c12
     refine tr_exit (tx (tx (bh (nn (sq (te (ec 3 rfl en) ?_))))))
     obtain rfl : k = v.2.2.2.1.length := by omega
     rw [List.take_length]
     refine tr_freeze (by exact pA 0 rfl) 3 (oT rfl) ?_
     refine rg (mv rfl rfl (av rfl rfl (tn (nn (tR ?_)))))
     exact ret_one .ret (.inl rfl) rfl () (oT rfl) trivial (by exact pn)

set_option maxRecDepth 20000 in
/-- rhizome/query.Check -/
theorem Check_fn (v : Vw) (ho : v.2.2.1.length ≤ maxLen) (ha : v.2.2.2.1.length ≤ maxLen) : Ct Tryz.prog 34 [kV.T v] ([]) Unit (fun _ => I64 (if checkB v then 0 else 1)) (fun _ => []) (fun _ => True) := by
 refine fn_intro Tryz.func34 rfl rfl ?_
 intro H w
 unfold maxLen at ho ha
 refine sq (te (ec 0 rfl en) (rg (oA (acts_box (d := kV) (oT rfl)) pR rfl rfl (fun g0_0 _ => ?_))))
 refine ak rfl (tn (nn (sq (te (ec 1 rfl en) (rg (oP (pf (oT rfl) y51) rfl (oP (plb (oT rfl) (by exact mA 0 rfl) lv0 y40) rfl ?_)))))))
 refine oA (aC (name_fn _) y52 (oc (oT rfl) oN) pR) pR rfl rfl (fun _ _ => ?_)
 refine av rfl rfl (tn (nn (sq (sq (te (ec 1 rfl (ec 3 rfl en)) (rg (oP (pf (oT rfl) y53) rfl (oP (plb (oT rfl) (by exact mA 0 rfl) lv1 y2) rfl ?_))))))))
 refine tn (nn (tb (sq (te (ec 1 rfl (ec 3 rfl (ec 13 rfl en))) (rg (oP (pu_eql (oT rfl) ot) rfl (av rfl rfl (tn (nn (tc (oT rfl) (fun c14 => ?_) (fun c14 => ?_)))))))))))
 · refine te (ec 1 rfl (ec 3 rfl en)) (rg (mv rfl rfl (mv rfl rfl (oG rfl rfl rfl (gm (oT rfl)) (fun hg => by (have hg1 := hg.2; (try simp only [cq2] at hg1); exact pf (oT rfl) y54)) rfl ?_))))
   refine oG rfl rfl rfl (gm (oT rfl)) (fun hg => by (have hg1 := hg.2; (try simp only [cq2] at hg1); exact plb (by exact gu (oT rfl) hg) (by exact mA 0 rfl) lv4 y40)) rfl ?_
   refine op_gu_acts () rfl rfl rfl (gm (oT rfl)) (fun hg => by (have hg1 := hg.2; (try simp only [cq2] at hg1); exact aC (name_fn _) y52 (oc (by exact gu (oT rfl) hg) oN) pR)) rfl (fun _ _ => ?_)
   refine oP (pu_pick_and (oT rfl) (oT rfl)) rfl (mv rfl rfl (oG rfl rfl rfl (gm (oT rfl)) (fun hg => by (have hg1 := hg.2; (try simp only [cq2] at hg1); exact pf (oT rfl) y55)) rfl ?_))
   refine oG rfl rfl rfl (gm (oT rfl)) (fun hg => by (have hg1 := hg.2; (try simp only [cq2] at hg1); exact plb (by exact gu (oT rfl) hg) (by exact mA 0 rfl) lv2 y56)) rfl ?_
   refine oG rfl rfl rfl (gm (oT rfl)) (fun hg => by (have hg1 := hg.2; (try simp only [cq2] at hg1); exact pls (by exact gu (oT rfl) hg) Tryz.underlying22)) rfl ?_
   refine oG rfl rfl rfl (gm (oT rfl)) (fun hg => by (have hg1 := hg.2; (try simp only [cq2] at hg1); exact pu_eql (by exact gu (oT rfl) hg) ot)) rfl ?_
   refine oP (pu_pick_and (oT rfl) (oT rfl)) rfl (mv rfl rfl (oG rfl rfl rfl (gm (oT rfl)) (fun hg => by (have hg1 := hg.2; (try simp only [cq2] at hg1); exact pf (oT rfl) y43)) rfl ?_))
   refine oG rfl rfl rfl (gm (oT rfl)) (fun hg => by (have hg1 := hg.2; (try simp only [cq2] at hg1); exact plb (by exact gu (oT rfl) hg) (by exact mA 0 rfl) lv3 y44)) rfl ?_
   refine oG rfl rfl rfl (gm (oT rfl)) (fun hg => by (have hg1 := hg.2; (try simp only [cq2] at hg1); exact pls (by exact gu (oT rfl) hg) Tryz.underlying23)) rfl ?_
   refine oG rfl rfl rfl (gm (oT rfl)) (fun hg => by (have hg1 := hg.2; (try simp only [cq2] at hg1); exact pu_eql (by exact gu (oT rfl) hg) ot)) rfl ?_
   refine oP (pu_pick_and (oT rfl) (oT rfl)) rfl (av rfl rfl (tn (bn (nn (sq (sq (te (ec 3 rfl en) (rg (mv rfl rfl (oP (pu_not (oT rfl)) rfl (tn (nn (tc (oT rfl) (fun c119 => ?_) (fun c119 => ?_))))))))))))))
   · refine sq (te en (rg (ak rfl (tn (nn (tR (tt ?_)))))))
     exact ret_one .ret (.inl rfl) rfl () (OT.val (oT rfl) (congrArg (Value.int _) (chk2 (b := true) c14 c119))) trivial (by exact pn)
   · refine sk (nn (sq (te en (rg (ak rfl (tn (nn (tR ?_))))))))
     exact ret_one .ret (.inl rfl) rfl () (OT.val (oT rfl) (congrArg (Value.int _) (chk2 (b := false) c14 c119))) trivial (by exact pn)
 · refine sq (te (ec 1 rfl (ec 3 rfl (ec 13 rfl en))) (rg (oP (pu_eql (oT rfl) ot) rfl (av rfl rfl (tn (nn (tc (oT rfl) (fun c34 => ?_) (fun c34 => ?_))))))))
   · refine sq (te (ec 1 rfl (ec 3 rfl en)) (rg (mv rfl rfl (mv rfl rfl (oG rfl rfl rfl (gm (oT rfl)) (fun hg => by (have hg1 := hg.2; (try simp only [cq2] at hg1); exact pf (oT rfl) y54)) rfl ?_)))))
     refine oG rfl rfl rfl (gm (oT rfl)) (fun hg => by (have hg1 := hg.2; (try simp only [cq2] at hg1); exact plb (by exact gu (oT rfl) hg) (by exact mA 0 rfl) lv4 y40)) rfl ?_
     refine oG rfl rfl rfl (gm (oT rfl)) (fun hg => by (have hg1 := hg.2; (try simp only [cq2] at hg1); exact pu_bs_eql (by exact gu (oT rfl) hg) ot)) rfl ?_
     refine oP (pu_pick_and (oT rfl) (oT rfl)) rfl (mv rfl rfl (oG rfl rfl rfl (gm (oT rfl)) (fun hg => by (have hg1 := hg.2; (try simp only [cq2] at hg1); exact pf (oT rfl) y55)) rfl ?_))
     refine oG rfl rfl rfl (gm (oT rfl)) (fun hg => by (have hg1 := hg.2; (try simp only [cq2] at hg1); exact plb (by exact gu (oT rfl) hg) (by exact mA 0 rfl) lv2 y56)) rfl ?_
     refine oG rfl rfl rfl (gm (oT rfl)) (fun hg => by (have hg1 := hg.2; (try simp only [cq2] at hg1); exact pls (by exact gu (oT rfl) hg) Tryz.underlying22)) rfl ?_
     refine oG rfl rfl rfl (gm (oT rfl)) (fun hg => by (have hg1 := hg.2; (try simp only [cq2] at hg1); exact pu_geq (by exact gu (oT rfl) hg) ot)) rfl ?_
     refine oP (pu_pick_and (oT rfl) (oT rfl)) rfl (mv rfl rfl (oG rfl rfl rfl (gm (oT rfl)) (fun hg => by (have hg1 := hg.2; (try simp only [cq2] at hg1); exact pf (oT rfl) y55)) rfl ?_))
     refine oG rfl rfl rfl (gm (oT rfl)) (fun hg => by (have hg1 := hg.2; (try simp only [cq2] at hg1); exact plb (by exact gu (oT rfl) hg) (by exact mA 0 rfl) lv2 y56)) rfl ?_
     refine oG rfl rfl rfl (gm (oT rfl)) (fun hg => by (have hg1 := hg.2; (try simp only [cq2] at hg1); exact pls (by exact gu (oT rfl) hg) Tryz.underlying22)) rfl ?_
     refine oG rfl rfl rfl (gm (oT rfl)) (fun hg => by (have hg1 := hg.2; (try simp only [cq2] at hg1); exact pu_leq (by exact gu (oT rfl) hg) ot)) rfl ?_
     refine oP (pu_pick_and (oT rfl) (oT rfl)) rfl (mv rfl rfl (oG rfl rfl rfl (gm (oT rfl)) (fun hg => by (have hg1 := hg.2; (try simp only [cq2] at hg1); exact pf (oT rfl) y43)) rfl ?_))
     refine oG rfl rfl rfl (gm (oT rfl)) (fun hg => by (have hg1 := hg.2; (try simp only [cq2] at hg1); exact plb (by exact gu (oT rfl) hg) (by exact mA 0 rfl) lv3 y44)) rfl ?_
     refine oG rfl rfl rfl (gm (oT rfl)) (fun hg => by (have hg1 := hg.2; (try simp only [cq2] at hg1); exact pls (by exact gu (oT rfl) hg) Tryz.underlying23)) rfl ?_
     refine oG rfl rfl rfl (gm (oT rfl)) (fun hg => by (have hg1 := hg.2; (try simp only [cq2] at hg1); exact pu_geq (by exact gu (oT rfl) hg) ot)) rfl ?_
     refine oP (pu_pick_and (oT rfl) (oT rfl)) rfl (mv rfl rfl (oG rfl rfl rfl (gm (oT rfl)) (fun hg => by (have hg1 := hg.2; (try simp only [cq2] at hg1); exact pf (oT rfl) y43)) rfl ?_))
     refine oG rfl rfl rfl (gm (oT rfl)) (fun hg => by (have hg1 := hg.2; (try simp only [cq2] at hg1); exact plb (by exact gu (oT rfl) hg) (by exact mA 0 rfl) lv3 y44)) rfl ?_
     refine oG rfl rfl rfl (gm (oT rfl)) (fun hg => by (have hg1 := hg.2; (try simp only [cq2] at hg1); exact pls (by exact gu (oT rfl) hg) Tryz.underlying23)) rfl ?_
     refine oG rfl rfl rfl (gm (oT rfl)) (fun hg => by (have hg1 := hg.2; (try simp only [cq2] at hg1); exact pu_leq (by exact gu (oT rfl) hg) ot)) rfl ?_
     refine oP (pu_pick_and (oT rfl) (oT rfl)) rfl (av rfl rfl (tn (nn (sq (sq (te (ec 1 rfl (ec 3 rfl en)) (rg (oP (pf (oT rfl) y43) rfl (oP (plb (oT rfl) (by exact mA 0 rfl) lv3 y44) rfl ?_)))))))))
     refine oP (pls (oT rfl) Tryz.underlying23) rfl (oP (pu_move ot) rfl (tn (nn (tb (tr_loopK (σ := Nat) (ec 1 rfl (ec 67 rfl (ec 68 rfl en))) (fun k => [(69, I64 (k : Int)), (3, BoolT (preB v && (v.2.2.2.1.take k).all atmB))]) (fun k => [BlkI g0_0 25 kV v]) (fun k => k ≤ v.2.2.2.1.length) (fun k => v.2.2.2.1.length - k) 0 (Nat.zero_le _) ?_ (op (by repeat first | exact pn | refine pc 0 rfl ?_)) ?_)))))
     · exact (ec 69 rfl (es_cons (t := 3) (OT.val (oT rfl) (congrArg Value.bool (by rw [List.take_zero]; simp [preB]))) en))
     · rintro k hk
       refine sq (te (ec 1 rfl (ec 3 rfl (ec 67 rfl (ec 68 rfl (ec 69 rfl en))))) (rg (oP (pu_lss (oT rfl) (oT rfl)) rfl (tn (nn (sq (tc (oT rfl) (fun c70 => ?_) (fun c70 => ?_))))))))
       · refine sk (nn (sq (tb (sq (te (ec 1 rfl (ec 3 rfl (ec 67 rfl (ec 68 rfl (ec 69 rfl en))))) (rg (oP (pu_index (oT rfl) (oT rfl) Tryz.underlying23 y45 (by omega) (by (simp [maxLen] at *; omega))) rfl ?_)))))))
         refine oP (pL (oT rfl) y45) rfl (oA (acts_alloc (zA)) pR rfl rfl (fun g10_2 _ => ?_))
         refine oA (asv (oT rfl) (oT rfl) (by exact pA 0 rfl) y45) (by exact pA 0 rfl) rfl rfl (fun _ _ => ?_)
         refine tn (nn (te (ec 1 rfl (ec 3 rfl (ec 5 rfl (ec 67 rfl (ec 68 rfl (ec 69 rfl en)))))) (rg (mv rfl rfl (mv rfl rfl (oG rfl rfl rfl (gm (oT rfl)) (fun hg => by (have hg1 := hg.2; (try simp only [cq2] at hg1); exact pf (oT rfl) y46)) rfl ?_))))))
         refine oG rfl rfl rfl (gm (oT rfl)) (fun hg => by (have hg1 := hg.2; (try simp only [cq2] at hg1); exact plb (by exact gu (oT rfl) hg) (by exact mA 0 rfl) la0 y40)) rfl ?_
         refine op_gu_acts () rfl rfl rfl (gm (oT rfl)) (fun hg => by (have hg1 := hg.2; (try simp only [cq2] at hg1); exact aC (name_fn _) y52 (oc (by exact gu (oT rfl) hg) oN) pR)) rfl (fun _ _ => ?_)
         refine oP (pu_pick_and (oT rfl) (oT rfl)) rfl (mv rfl rfl (oG rfl rfl rfl (gm (oT rfl)) (fun hg => by (have hg1 := hg.2; (try simp only [cq2] at hg1); exact pf (oT rfl) y57)) rfl ?_))
         refine oG rfl rfl rfl (gm (oT rfl)) (fun hg => by (have hg1 := hg.2; (try simp only [cq2] at hg1); exact plb (by exact gu (oT rfl) hg) (by exact mA 0 rfl) la1 y40)) rfl ?_
         refine op_gu_acts () rfl rfl rfl (gm (oT rfl)) (fun hg => by (have hg1 := hg.2; (try simp only [cq2] at hg1); exact aC (name_fn _) y52 (oc (by exact gu (oT rfl) hg) oN) pR)) rfl (fun _ _ => ?_)
         refine oP (pu_pick_and (oT rfl) (oT rfl)) rfl (mv rfl rfl (oG rfl rfl rfl (gm (oT rfl)) (fun hg => by (have hg1 := hg.2; (try simp only [cq2] at hg1); exact pf (oT rfl) y47)) rfl ?_))
         refine oG rfl rfl rfl (gm (oT rfl)) (fun hg => by (have hg1 := hg.2; (try simp only [cq2] at hg1); exact plb (by exact gu (oT rfl) hg) (by exact mA 0 rfl) la2 y40)) rfl ?_
         refine op_gu_acts () rfl rfl rfl (gm (oT rfl)) (fun hg => by (have hg1 := hg.2; (try simp only [cq2] at hg1); exact aC (name_fn _) y52 (oc (by exact gu (oT rfl) hg) oN) pR)) rfl (fun _ _ => ?_)
         refine oP (pu_pick_and (oT rfl) (oT rfl)) rfl (av rfl rfl (tn (bn (nn (te (ec 1 rfl (ec 3 rfl (ec 67 rfl (ec 68 rfl (ec 69 rfl en))))) (rg (oP (pad (oT rfl) ot (by (simp [maxLen] at *; omega))) rfl ?_)))))))
         refine mv rfl rfl (tn (nn ?_))
         exact tg (k + 1) (by simp only [decide_eq_true_eq] at c70; omega) (by simp only [decide_eq_true_eq] at c70; omega) (ea (ec 69 rfl (es_cons (t := 3) (OT.val (oT rfl) (congrArg Value.bool (atoms_step (by simp only [decide_eq_true_eq] at c70; omega)))) en)) (ec 1 rfl (ec 67 rfl (ec 68 rfl en)))) (op (by repeat first | exact pn | refine pc 1 rfl ?_))
       · refine tr_exit (tx (tx (bh (nn (sq (sq (te (ec 1 rfl (ec 3 rfl en)) (rg (mv rfl rfl (oP (pu_not (oT rfl)) rfl (tn (nn (tc (oT rfl) (fun c91 => ?_) (fun c91 => ?_))))))))))))))
         · obtain rfl : k = v.2.2.2.1.length := by simp only [decide_eq_false_iff_not] at c70; omega
           rw [List.take_length] at c91
           refine sq (te en (rg (ak rfl (tn (nn (tR (tt (block_ret (tt ?_)))))))))
           exact ret_one .ret (.inl rfl) rfl () (OT.val (oT rfl) (congrArg (Value.int _) (chk1 c14 c34 c91))) trivial (by exact pn)
         · obtain rfl : k = v.2.2.2.1.length := by simp only [decide_eq_false_iff_not] at c70; omega
           rw [List.take_length] at c91
           have hpa : (preB v && v.2.2.2.1.all atmB) = true := by simpa using c91
           obtain ⟨hp1, hp2⟩ := Bool.and_eq_true_iff.1 hpa
           obtain ⟨hl1, hl2, hl3, hl4⟩ := pre_lens hp1
           have hvl := varsL_len v.2.2.2.1
           refine sk (nn (sq (te (ec 1 rfl (ec 3 rfl en)) (rg (oP (plv (oT rfl) (by exact mA 0 rfl) y58) rfl ?_)))))
           refine oA (aC (Vars_fn _ (by omega)) y59 (oc (oT rfl) oN) pR) pR rfl rfl (fun _ _ => ?_)
           refine av rfl rfl (tn (nn (sq (te (ec 1 rfl (ec 3 rfl (ec 6 rfl en))) (rg (oP (pf (oT rfl) y55) rfl (oP (plb (oT rfl) (by exact mA 0 rfl) lv2 y56) rfl ?_)))))))
           refine oP (pls (oT rfl) Tryz.underlying22) rfl (oP (pu_move ot) rfl (tn (nn (tb (tr_loopK (σ := Nat) (ec 1 rfl (ec 6 rfl (ec 95 rfl (ec 96 rfl en)))) (fun i => [(97, I64 (i : Int)), (3, BoolT (outB (varsL v.2.2.2.1) (v.2.2.1.take i)))]) (fun i => [BlkI g0_0 25 kV v]) (fun i => i ≤ v.2.2.1.length) (fun i => v.2.2.1.length - i) 0 (Nat.zero_le _) ?_ (op (by repeat first | exact pn | refine pc 0 rfl ?_)) ?_)))))
           · exact (ec 97 rfl (es_cons (t := 3) (OT.val (oT rfl) (congrArg Value.bool (by rw [List.take_length, hpa]; rfl))) en))
           · rintro i hi
             refine sq (te (ec 1 rfl (ec 3 rfl (ec 6 rfl (ec 95 rfl (ec 96 rfl (ec 97 rfl en)))))) (rg (oP (pu_lss (oT rfl) (oT rfl)) rfl (tn (nn (sq (tc (oT rfl) (fun c98 => ?_) (fun c98 => ?_))))))))
             · refine sk (nn (sq (tb (sq (te (ec 1 rfl (ec 3 rfl (ec 6 rfl (ec 95 rfl (ec 96 rfl (ec 97 rfl en)))))) (rg (mv rfl rfl (oP (pu_index (oT rfl) (oT rfl) Tryz.underlying22 y40 (by omega) (by (simp [maxLen] at *; omega))) rfl ?_))))))))
               refine oP (pL (oT rfl) y40) rfl (av rfl rfl (av rfl rfl (tn (nn (te (ec 1 rfl (ec 3 rfl (ec 6 rfl (ec 7 rfl (ec 8 rfl (ec 95 rfl (ec 96 rfl (ec 97 rfl en)))))))) (rg (mv rfl rfl (mv rfl rfl (oG rfl rfl rfl (gm (oT rfl)) (fun hg => by (have hg1 := hg.2; (try simp only [cq2] at hg1); exact pu_move (oT rfl))) rfl ?_)))))))))
               refine oG rfl rfl rfl (gm (oT rfl)) (fun hg => by (have hg1 := hg.2; (try simp only [cq2] at hg1); exact pu_move (oT rfl))) rfl ?_
               refine op_gu_acts () rfl rfl rfl (gm (oT rfl)) (fun hg => by (have hg1 := hg.2; (try simp only [cq2] at hg1); exact aC (ContainsS_fn (varsL v.2.2.2.1) (at' v.2.2.1 (i : Int)) (by omega)) y49 (oc (by exact gu (oT rfl) hg) (oc (by exact gu (oT rfl) hg) oN)) pR)) rfl (fun _ _ => ?_)
               refine oP (pu_pick_and (oT rfl) (oT rfl)) rfl (mv rfl rfl (oG rfl rfl rfl (gm (oT rfl)) (fun hg => by (have hg1 := hg.2; (try simp only [cq2] at hg1); exact pf (oT rfl) y55)) rfl ?_))
               refine oG rfl rfl rfl (gm (oT rfl)) (fun hg => by (have hg1 := hg.2; (try simp only [cq2] at hg1); exact plb (by exact gu (oT rfl) hg) (by exact mA 0 rfl) lv2 y56)) rfl ?_
               refine oG rfl rfl rfl (gm (oT rfl)) (fun hg => by (have hg1 := hg.2; (try simp only [cq2] at hg1); exact pu_move (oT rfl))) rfl ?_
               refine oG rfl rfl rfl (gm (oT rfl)) (fun hg => by (have hg1 := hg.2; (try simp only [cq2] at hg1); exact pu_slice_hi (by exact gu (oT rfl) hg) (by exact gu (oT rfl) hg) Tryz.underlying22 y40 (by omega) (by omega))) rfl ?_
               refine oG rfl rfl rfl (gm (oT rfl)) (fun hg => by (have hg1 := hg.2; (try simp only [cq2] at hg1); exact pu_move (oT rfl))) rfl ?_
               refine op_gu_acts () rfl rfl rfl (gm (oT rfl)) (fun hg => by (have hg1 := hg.2; (try simp only [cq2] at hg1); exact aC (ContainsS_fn (v.2.2.1.take (i : Int).toNat) (at' v.2.2.1 (i : Int)) (by rw [List.length_take]; omega)) y49 (oc (by exact gu (oT rfl) hg) (oc (by exact gu (oT rfl) hg) oN)) pR)) rfl (fun _ _ => ?_)
               refine oG rfl rfl rfl (gm (oT rfl)) (fun hg => by (have hg1 := hg.2; (try simp only [cq2] at hg1); exact pu_not (by exact gu (oT rfl) hg))) rfl ?_
               refine oP (pu_pick_and (oT rfl) (oT rfl)) rfl (av rfl rfl (tn (bn (nn (te (ec 1 rfl (ec 3 rfl (ec 6 rfl (ec 95 rfl (ec 96 rfl (ec 97 rfl en)))))) (rg (oP (pad (oT rfl) ot (by omega)) rfl (mv rfl rfl (tn (nn ?_))))))))))
               exact tg (i + 1) (by simp only [decide_eq_true_eq] at c98; omega) (by simp only [decide_eq_true_eq] at c98; omega) (ea (ec 97 rfl (es_cons (t := 3) (OT.val (oT rfl) (congrArg Value.bool (by rw [Int.toNat_natCast]; exact out_step (by simp only [decide_eq_true_eq] at c98; omega)))) en)) (ec 1 rfl (ec 6 rfl (ec 95 rfl (ec 96 rfl en))))) (op (by repeat first | exact pn | refine pc 0 rfl ?_))
             · refine tr_exit (tx (tx (bh (bn (nn (sq (sq (te (ec 3 rfl en) (rg (mv rfl rfl (oP (pu_not (oT rfl)) rfl (tn (nn (tc (oT rfl) (fun c119 => ?_) (fun c119 => ?_)))))))))))))))
               · refine sq (te en (rg (ak rfl (tn (nn (tR (tt ?_)))))))
                 exact ret_one .ret (.inl rfl) rfl () (OT.val (oT rfl) (congrArg (Value.int _) (chk3 (b := true) c14 c34 c91 (by rw [show v.2.2.1.take i = v.2.2.1 from List.take_of_length_le (by simp only [decide_eq_false_iff_not] at c98; omega)] at c119; exact c119)))) trivial (by exact pn)
               · refine sk (nn (sq (te en (rg (ak rfl (tn (nn (tR ?_))))))))
                 exact ret_one .ret (.inl rfl) rfl () (OT.val (oT rfl) (congrArg (Value.int _) (chk3 (b := false) c14 c34 c91 (by rw [show v.2.2.1.take i = v.2.2.1 from List.take_of_length_le (by simp only [decide_eq_false_iff_not] at c98; omega)] at c119; exact c119)))) trivial (by exact pn)
   · refine te en (rg (ak rfl (tn (bn (nn (sq (sq (te (ec 3 rfl en) (rg (mv rfl rfl (oP (pu_not (oT rfl)) rfl (tn (nn (tc (oT rfl) (fun c119 => ?_) (fun c119 => ?_)))))))))))))))
     · refine sq (te en (rg (ak rfl (tn (nn (tR (tt ?_)))))))
       exact ret_one .ret (.inl rfl) rfl () (OT.val (oT rfl) (congrArg (Value.int _) (chk0 c14 c34))) trivial (by exact pn)
     · refine sk (nn (sq (te en (rg (ak rfl (tn (nn (tR ?_))))))))
       exact ret_one .ret (.inl rfl) rfl () (OT.val (oT rfl) (congrArg (Value.int _) (absurd c119 (by simp)))) trivial (by exact pn)
set_option maxRecDepth 20000 in
/-- rhizome/join.bad -/
theorem bad_fn (v : Vw) (ho : v.2.2.1.length ≤ maxLen) (ha : v.2.2.2.1.length ≤ maxLen) : Ct Tryz.prog 94 [kV.T v] ([]) Unit (fun _ => BoolT (!okV v)) (fun _ => []) (fun _ => True) := by
 refine fn_intro Tryz.func94 rfl rfl ?_
 intro H w
 refine sq (te (ec 0 rfl en) (rg (oA (acts_box (d := kV) (oT rfl)) pR rfl rfl (fun g0_0 _ => ?_))))
 refine ak rfl (tn (nn (sq (te (ec 1 rfl en) (rg (oP (pf (oT rfl) y53) rfl (oP (plb (oT rfl) (by exact mA 0 rfl) lv1 y2) rfl ?_)))))))
 refine oP (pu_neq (oT rfl) ot) rfl (mv rfl rfl (oG rfl rfl rfl (gm (oT rfl)) (fun hg => by (have hg1 := hg.2; (try simp only [cq2] at hg1); exact plv (oT rfl) (by exact mA 0 rfl) y58)) rfl ?_))
 refine op_gu_acts () rfl rfl rfl (gm (oT rfl)) (fun hg => by (have hg1 := hg.2; (try simp only [cq2] at hg1); exact aC (Check_fn _ (by assumption) (by assumption)) y60 (oc (by exact gu (oT rfl) hg) oN) pR)) rfl (fun _ _ => ?_)
 refine oG rfl rfl rfl (gm (oT rfl)) (fun hg => by (have hg1 := hg.2; (try simp only [cq2] at hg1); exact pu_neq (by exact gu (oT rfl) hg) ot)) rfl ?_
 refine oP (pu_pick_or (oT rfl) (oT rfl)) rfl (av rfl rfl (tn (nn (tR ?_))))
 exact ret_one .ret (.inl rfl) rfl () (OT.val (oT rfl) (congrArg Value.bool (bad_expr v))) trivial (by exact pn)
end Go.Proofs.YtklhdalppmjnaaaGreatDoor
/- Pairs and edges compared; the kinds of map keys. -/
namespace Go.Proofs.YtklhdalppmjnaaaGreatDoor
open Go Go.Gw Go.So Go.Tu Go.Jn Go.MapKept
set_option linter.unusedVariables false
set_option linter.unusedSimpArgs false
abbrev encP (p : Pr) : Value := .agg #[.int .i64 p.1, .int .i64 p.2]
abbrev encS (l : Lab) : Value := .string (bs l)
theorem aggP {H : FH} {u : Pr} {a : Value} (h : (kPP.T u).p H a) : a = encP u := by
 obtain ⟨cs, hK, rfl⟩ := kPP.ofT h
 have hl : cs.length = 2 := kPP.len hK
 obtain ⟨_, _, h2⟩ := hK
 have e0 := h2 0 u.1 rfl
 have e1 := h2 1 u.2 rfl
 match cs, hl with
 | [c0, c1], _ =>
  have f0 : [c0] = [Value.int .i64 u.1] := e0
  have f1 : [c1] = [Value.int .i64 u.2] := e1
  rw [show c0 = Value.int .i64 u.1 from by simpa using f0, show c1 = Value.int .i64 u.2 from by simpa using f1]; rfl
theorem run_equalPd (w : World) (d : Nat) (u v : Pr) : (Op.equalIn (d + 1 + 1) 108 (encP u) (encP v)).run Tryz.prog w = .ok (decide (u = v)) w := by
 have hu : Tryz.prog.underlying 108 = some (.array 2 3) := Tryz.underlying108
 have hk : Tryz.prog.plainKey 3 = true := by decide +kernel
 have h3 : Tryz.prog.underlying 3 = some (.int .i64) := Tryz.underlying3
 have hc : Tryz.prog.cellsOf 3 = 1 := by decide +kernel
 obtain ⟨i, hi⟩ : ∃ i, Tryz.prog.info? 3 = some i := Option.isSome_iff_exists.1 (by decide +kernel)
 rw [run_equalIn_array w (d + 1) _ _ hu hi, hc]
 have p : ∀ (xs : Array Value) (o : Nat) (q : Value), xs[o]? = some q → (part 3 xs o).run Tryz.prog w = .ok q w := fun xs o q h => run_part_plain w hk h
 have e : ∀ (a b : Int), (Op.equalIn (d + 1) 3 (.int .i64 a) (.int .i64 b)).run Tryz.prog w = .ok (a == b) w := fun a b => run_equalIn_int w d 3 .i64 .i64 a b h3
 have p0 : ∀ a b : Int, (part 3 #[.int .i64 a, .int .i64 b] 0).run Tryz.prog w = .ok (.int .i64 a) w := fun a b => p _ 0 _ rfl
 have p1 : ∀ a b : Int, (part 3 #[.int .i64 a, .int .i64 b] 1).run Tryz.prog w = .ok (.int .i64 b) w := fun a b => p _ 1 _ rfl
 obtain ⟨u1, u2⟩ := u
 obtain ⟨v1, v2⟩ := v
 simp only [show List.range 2 = [0, 1] from rfl, Op.eqItems, Sem.run_bind, Nat.mul_one, p0, p1, e, Result.andThen_ok]
 by_cases h1 : u1 = v1
 · by_cases h2 : u2 = v2
   · simp [h1, h2, p1, e]
   · simp [h1, h2, p1, e]
 · simp [h1]
theorem chkP (em : Bool) (k : Pr) (w : World) : (Instr.checkKey em 10000 108 (encP k)).run Tryz.prog w = .ok () w := by
 have hu : Tryz.prog.underlying 108 = some (.array 2 3) := Tryz.underlying108
 have h3 : Tryz.prog.underlying 3 = some (.int .i64) := Tryz.underlying3
 have hk : Tryz.prog.plainKey 3 = true := by decide +kernel
 have hc : Tryz.prog.cellsOf 3 = 1 := by decide +kernel
 obtain ⟨i, hi⟩ : ∃ i, Tryz.prog.info? 3 = some i := Option.isSome_iff_exists.1 (by decide +kernel)
 rw [show (10000 : Nat) = 9999 + 1 from rfl, Instr.checkKey]
 simp only [Sem.run_bind, run_underlying hu, Result.andThen_ok]
 simp only [Std.Legacy.Range.forIn_eq_forIn_range', Std.Legacy.Range.size, Nat.sub_zero, Nat.add_one_sub_one, Nat.div_one]
 have p0 : (part 3 #[.int .i64 k.1, .int .i64 k.2] 0).run Tryz.prog w = .ok (.int .i64 k.1) w := run_part_plain w hk rfl
 have p1 : (part 3 #[.int .i64 k.1, .int .i64 k.2] 1).run Tryz.prog w = .ok (.int .i64 k.2) w := run_part_plain w hk rfl
 have c : ∀ n : Int, (Instr.checkKey em 9999 3 (.int .i64 n)).run Tryz.prog w = .ok () w := fun n => run_checkKey h3 (by simp [IsKey]) em 9998
 rw [show List.range' 0 2 = [0, 1] from rfl]
 simp only [List.forIn_cons, List.forIn_nil, Sem.run_bind, run_sizeOf w hi, hc, Result.andThen_ok, Nat.zero_mul, Nat.one_mul, Nat.mul_one, p0, p1, c, Sem.run_pure]
theorem mkP : MKey Tryz.prog 108 kPP encP :=
 MKey.ofAsk (d := .array 2 3) Tryz.underlying108 aggP (fun a b => rfl) chkP (fun w a b => by
  rw [show Op.equal 108 (encP a) (encP b) = Op.equalIn 10000 108 (encP a) (encP b) from rfl]; exact run_equalPd w 9998 a b) (fun k => by simp [Instr.sameBits])
theorem mkI : MKey Tryz.prog 3 kI (Value.int .i64) := mkey_int Tryz.underlying3
theorem mkS : MKey Tryz.prog 9 kS encS :=
 MKey.ofNow Tryz.underlying9 (fun x => by simp [IsKey]) fun a b => by
  show some (bs a == bs b) = _
  congr 1
  rw [Bool.eq_iff_iff, bytes_beq, decide_eq_true_eq]
  exact ⟨fun h => by simpa using congrArg (fun x : ByteArray => x.data.toList) h, fun h => by rw [h]⟩
theorem ev_eq {H : FH} {t : Ed} {a : Value} (h : (kE.T t).p H a) : a = .agg #[.int .i64 t.1, .string (bs t.2.1), .int .i64 t.2.2] := by
 obtain ⟨cs, ⟨c1, c2, h1, ⟨c3, c4, h3, h4, rfl⟩, rfl⟩, rfl⟩ := h
 have e1 : c1 = [Value.int .i64 t.1] := h1
 have e3 : c3 = [Value.string (bs t.2.1)] := h3
 have e4 : c4 = [Value.int .i64 t.2.2] := h4
 subst e1 e3 e4
 rfl
abbrev tvE (t : Ed) : Array Value := #[.int .i64 t.1, .string (bs t.2.1), .int .i64 t.2.2]
theorem run_equalEd (w : World) (d : Nat) (u v : Ed) : (Op.equalIn (d + 1 + 1) 42 (.agg (tvE u)) (.agg (tvE v))).run Tryz.prog w = .ok (decide (u = v)) w := by
 have hf : Tryz.prog.underlying 42 = some (.struct (Tryz.prog.fieldsOf 42)) := by unfold Program.fieldsOf; rw [Tryz.underlying42]
 have hp : Tryz.prog.stoodInHeld 42 = false := by decide +kernel
 rw [run_equalIn_agg w (d + 1) 42 _ _ hf hp]
 clear hf
 simp only [Program.fieldsOf, Tryz.underlying42]
 have kS' : Tryz.prog.plainKey 9 = true := by decide +kernel
 have kI' : Tryz.prog.plainKey 3 = true := by decide +kernel
 have uS : Tryz.prog.underlying 9 = some .string := Tryz.underlying9
 have uI : Tryz.prog.underlying 3 = some (.int .i64) := Tryz.underlying3
 have p0 : ∀ t : Ed, (part 3 (tvE t) 0).run Tryz.prog w = .ok (.int .i64 t.1) w := fun t => run_part_plain w kI' rfl
 have p1 : ∀ t : Ed, (part 9 (tvE t) 1).run Tryz.prog w = .ok (.string (bs t.2.1)) w := fun t => run_part_plain w kS' rfl
 have p2 : ∀ t : Ed, (part 3 (tvE t) 2).run Tryz.prog w = .ok (.int .i64 t.2.2) w := fun t => run_part_plain w kI' rfl
 have e3 : ∀ (a b : Int), (Op.equalIn (d + 1) 3 (.int .i64 a) (.int .i64 b)).run Tryz.prog w = .ok (a == b) w := fun a b => run_equalIn_int w d 3 .i64 .i64 a b uI
 have e9 : ∀ (a b : List UInt8), (Op.equalIn (d + 1) 9 (.string (bs a)) (.string (bs b))).run Tryz.prog w = .ok (decide (a = b)) w := fun a b => by rw [run_equalIn_string w d 9 _ _ uS, beq_bs]
 obtain ⟨u0, u1, u2⟩ := u
 obtain ⟨v0, v1, v2⟩ := v
 simp only [Op.eqFields, show ("From" ≠ "_") from by decide, show ("Label" ≠ "_") from by decide, show ("To" ≠ "_") from by decide, if_true, ne_eq, not_false_eq_true, Sem.run_bind, p0, p1, p2, e3, e9, Result.andThen_ok]
 by_cases h0 : u0 = v0
 · by_cases h1 : u1 = v1
   · by_cases h2 : u2 = v2 <;> simp [h0, h1, h2, p1, p2, e3, e9, Op.eqFields]
   · simp [h0, h1, p1, e3, e9]
 · simp [h0]
theorem eqEd : EqOk Tryz.prog 42 kE := fun H w u v a b x y ha hb => by
 rw [ev_eq ha, ev_eq hb]
 have hg : Tryz.prog.eqGuardType Tryz.prog.depth 42 = false := by decide +kernel
 refine ⟨run_eqGuard_agg w .eql 42 x y _ _ hg, run_eqGuard_agg w .neq 42 x y _ _ hg, ?_, ?_⟩
 · rw [run_eql_struct w 42, show (Op.equalIn 10000 42 (.agg (tvE u)) (.agg (tvE v))).run Tryz.prog w = _ from run_equalEd w 9998 u v]; rfl
 · rw [run_neq_struct w 42, show (Op.equalIn 10000 42 (.agg (tvE u)) (.agg (tvE v))).run Tryz.prog w = _ from run_equalEd w 9998 u v]; rfl
abbrev kX : Kd (Value × Value × Value) := kpair kraw (kpair kraw kraw)
theorem lx0 {t : Value × Value × Value} : Lens kX kraw 0 t t.1 (fun y => (y, t.2)) := Lens.fst
theorem lx1 {t : Value × Value × Value} : Lens kX kraw 1 t t.2.1 (fun y => (t.1, y, t.2.2)) := Lens.comp (Lens.snd (a := kraw) (b := kpair kraw kraw)) (Lens.fst (a := kraw) (b := kraw))
theorem lx2 {t : Value × Value × Value} : Lens kX kraw 2 t t.2.2 (fun y => (t.1, t.2.1, y)) := Lens.comp (Lens.snd (a := kraw) (b := kpair kraw kraw)) (Lens.snd (a := kraw) (b := kraw))
theorem zX : ZeroOf Tryz.prog 204 kX (.map none, nilS, .map none) := ⟨.agg #[.map none, nilS, .map none], by kernel_rfl, fun H => ⟨[.map none, nilS, .map none], ⟨[_], [_, _], ⟨rfl, rfl⟩, ⟨[_], [_], ⟨rfl, rfl⟩, ⟨rfl, rfl⟩, rfl⟩, rfl⟩, rfl⟩⟩
abbrev Fr := Int × Value × List Int
structure Rec where
 g : Nat
 gf : Nat
 gh : Nat
 va : Value
 all : List Pr
 has : List (Pr × Int)
 frm : List Fr
def absR (r : Rec) : Ix := (r.frm.map (fun f => (f.1, f.2.2)), r.all, r.has)
def frI (f : Fr) : It := OwnI 3 kI f.2.1 f.2.2
def hdV (frm : List Fr) : List (Int × Value) := frm.map fun f => (f.1, f.2.1)
abbrev encI : Int → Value := Value.int .i64
def recI (r : Rec) : List It := BlkI r.g 204 kX (mp r.gf, r.va, mp r.gh) :: MapI r.gf encI IsV (hdV r.frm) :: MapI r.gh encP kI.T r.has :: OwnI 108 kPP r.va r.all :: r.frm.map frI
def recsI (m : List (Lab × Rec)) : List It := m.flatMap fun p => recI p.2
def ptrs (m : List (Lab × Rec)) : List (Lab × Value) := m.map fun p => (p.1, pt p.2.g 0)
def abss (m : List (Lab × Rec)) : List (Lab × Ix) := m.map fun p => (p.1, absR p.2)
def ptrOf (o : Option Rec) : Option Addr := o.map fun r => ⟨r.g, 0, none⟩
theorem ptr_lkp (lab : Lab) (m : List (Lab × Rec)) : (lkp lab (ptrs m)).getD (.pointer none) = .pointer (ptrOf (lkp lab m)) := by
 unfold ptrs
 rw [lkp_map (fun r : Rec => pt r.g 0)]
 cases lkp lab m <;> rfl
theorem abs_lkp (lab : Lab) (m : List (Lab × Rec)) : lkp lab (abss m) = (lkp lab m).map absR := lkp_map absR
theorem abs_ptk (lab : Lab) (r : Rec) (m : List (Lab × Rec)) : abss (ptk lab r m) = ptk lab (absR r) (abss m) := ptk_map absR
theorem ptrs_ptk (lab : Lab) (r : Rec) (m : List (Lab × Rec)) : ptrs (ptk lab r m) = ptk lab (pt r.g 0) (ptrs m) := ptk_map (fun r : Rec => pt r.g 0)
theorem ptk_same {κ α : Type} [DecidableEq κ] {k : κ} {x : α} : ∀ {m : List (κ × α)}, lkp k m = some x → ptk k x m = m
 | [], h => by cases h
 | (a, b) :: m, h => by
  unfold lkp at h
  unfold ptk
  by_cases e : a = k
  · rw [if_pos e] at h ⊢; cases h; rw [← e]
  · rw [if_neg e] at h ⊢; rw [ptk_same h]
theorem recs_perm {lab : Lab} {r : Rec} {m : List (Lab × Rec)} : (recsI (ptk lab r m)).Perm (recI r ++ recsI (dlk lab m)) := by
 have := (ptk_perm (k := lab) (x := r) (m := m)).flatMap_right (fun p : Lab × Rec => recI p.2)
 exact this
theorem frs_perm {n : Int} {x : Value × List Int} {m : List Fr} : ((ptk n x m).map frI).Perm (OwnI 3 kI x.1 x.2 :: (dlk n m).map frI) := (ptk_perm (k := n) (x := x) (m := m)).map frI
theorem hdV_ptk (n : Int) (x : Value × List Int) (m : List Fr) : hdV (ptk n x m) = ptk n x.1 (hdV m) := ptk_map (fun x : Value × List Int => x.1)
theorem frA_ptk (n : Int) (x : Value × List Int) (m : List Fr) : (ptk n x m).map (fun f => (f.1, f.2.2)) = ptk n x.2 (m.map fun f => (f.1, f.2.2)) := ptk_map (fun x : Value × List Int => x.2)
theorem hdV_lkp (n : Int) (m : List Fr) : (lkp n (hdV m)).getD nilS = ((lkp n m).getD (nilS, [])).1 := by
 unfold hdV
 rw [lkp_map (fun x : Value × List Int => x.1)]
 cases lkp n m <;> rfl
theorem frA_lkp (n : Int) (m : List Fr) : (lkp n (m.map fun f => (f.1, f.2.2))).getD [] = ((lkp n m).getD (nilS, [])).2 := by
 rw [lkp_map (fun x : Value × List Int => x.2)]
 cases lkp n m <;> rfl
section
variable {C : Cx} {Γ : Env} {L R : List It} {φ : Act → World → Prop}
theorem tr_pickF (n : Int) {m : List Fr} (hp : L.Perm (m.map frI ++ R)) (h : Tr C Γ (OwnI 3 kI ((lkp n (hdV m)).getD nilS) ((lkp n m).getD (nilS, [])).2 :: ((dlk n m).map frI ++ R)) φ) : Tr C Γ L φ := by
 refine tr_perm hp ?_
 rw [hdV_lkp] at h
 cases hl : lkp n m with
 | none =>
  rw [hl, dlk_none (lkp_none.1 hl)] at h
  exact tr_nilItem 3 kI h
 | some x =>
  rw [hl] at h
  have h1 : (m.map frI).Perm (OwnI 3 kI x.1 x.2 :: (dlk n m).map frI) := (lkp_perm hl).map frI
  exact tr_perm (h1.append_right R) h
end
abbrev kFrom : Kd (List (Int × List Int)) := kmap encI (ksl kI).T
abbrev kHas : Kd (List (Pr × Int)) := kmap encP kI.T
abbrev kIx : Kd Ix := kpair kFrom (kpair (ksl kPP) kHas)
theorem ly0 {t : Ix} : Lens kIx kFrom 0 t t.1 (fun y => (y, t.2)) := Lens.fst
theorem ly1 {t : Ix} : Lens kIx (ksl kPP) 1 t t.2.1 (fun y => (t.1, y, t.2.2)) := Lens.comp (Lens.snd (a := kFrom) (b := kpair (ksl kPP) kHas)) (Lens.fst (a := ksl kPP) (b := kHas))
theorem ly2 {t : Ix} : Lens kIx kHas 2 t t.2.2 (fun y => (t.1, t.2.1, y)) := Lens.comp (Lens.snd (a := kFrom) (b := kpair (ksl kPP) kHas)) (Lens.snd (a := ksl kPP) (b := kHas))
theorem recF (r : Rec) : Frz (recI r) fun H => (AtT kIx (absR r)).p H (pt r.g 0) := by
 have h1 : Frz (r.frm.map frI) fun H => ∀ f ∈ r.frm, (SlT kI f.2.2).p H f.2.1 := Frz.map_ (f := frI) (Q := fun f H => (SlT kI f.2.2).p H f.2.1) (fun f => Mono.ty) r.frm fun f => Frz.own
 have h2 := (Frz.blk (g := r.g) (t := 204) (d := kX) (x := (mp r.gf, r.va, mp r.gh))).cons Mono.ty
  ((Frz.mapI (g := r.gf) (enc := encI) (V := IsV) (m := hdV r.frm)).cons Mono.ty
   ((Frz.mapI (g := r.gh) (enc := encP) (V := kI.T) (m := r.has)).cons Mono.ty
    ((Frz.own (t := 108) (d := kPP) (v := r.va) (xs := r.all)).cons Mono.ty h1)))
 refine Frz.imp (J := recI r) h2 ?_
 rintro H ⟨q1, q2, q3, q4, q5⟩
 refine AtT.conv q1 ?_
 rintro cs ⟨c1, c2, k1, ⟨c3, c4, k3, k4, rfl⟩, rfl⟩
 have e1 : c1 = [mp r.gf] := k1.1
 have e3 : c3 = [r.va] := k3.1
 have e4 : c4 = [mp r.gh] := k4.1
 subst e1 e3 e4
 refine ⟨_, _, ⟨mp r.gf, rfl, ?_⟩, ⟨[r.va], [mp r.gh], ⟨r.va, rfl, q4⟩, ⟨mp r.gh, rfl, q3⟩, rfl⟩, rfl⟩
 show (MapT encI (ksl kI).T (r.frm.map fun f => (f.1, f.2.2))).p H (mp r.gf)
 rcases q2 with ⟨h, _⟩ | ⟨g, es, clock, h1, h2, h3⟩
 · cases h
 · refine .inr ⟨g, es, clock, h1, h2, ?_, fun i e p hi hp => ?_, ?_, h3.bn, h3.lt⟩
   · rw [h3.key]; unfold hdV; rw [List.map_map, List.map_map]; rfl
   · rw [List.getElem?_map] at hp
     cases hm : r.frm[i]? with
     | none => rw [hm] at hp; cases hp
     | some f =>
      rw [hm] at hp
      cases hp
      have h4 := h3.val i e (f.1, f.2.1) hi (by unfold hdV; rw [List.getElem?_map, hm]; rfl)
      rw [show e.val = f.2.1 from h4]
      exact q5 f (List.mem_of_getElem? hm)
   · have := h3.nd
     unfold hdV keys at this
     unfold keys
     rw [List.map_map] at this ⊢
     exact this
theorem recsF (g : Nat) (m : List (Lab × Rec)) : Frz (MapI g encS IsV (ptrs m) :: recsI m) fun H => (MapT encS (kpt kIx).T (m.map fun p => (p.1, some (absR p.2)))).p H (mp g) := by
 have h1 : Frz (recsI m) fun H => ∀ p ∈ m, (AtT kIx (absR p.2)).p H (pt p.2.g 0) := Frz.flat (f := fun p : Lab × Rec => recI p.2) (Q := fun p H => (AtT kIx (absR p.2)).p H (pt p.2.g 0)) (fun p => Mono.ty) m fun p _ => recF p.2
 refine ((Frz.mapI (g := g) (enc := encS) (V := IsV) (m := ptrs m)).cons Mono.ty h1).imp ?_
 rintro H ⟨q1, q2⟩
 rcases q1 with ⟨h, _⟩ | ⟨g', es, clock, h1, h2, h3⟩
 · cases h
 · refine .inr ⟨g', es, clock, h1, h2, ?_, fun i e p hi hp => ?_, ?_, h3.bn, h3.lt⟩
   · rw [h3.key]; unfold ptrs; rw [List.map_map, List.map_map]; rfl
   · rw [List.getElem?_map] at hp
     cases hm : m[i]? with
     | none => rw [hm] at hp; cases hp
     | some f =>
      rw [hm] at hp
      cases hp
      have h4 := h3.val i e (f.1, pt f.2.g 0) hi (by unfold ptrs; rw [List.getElem?_map, hm]; rfl)
      rw [show e.val = pt f.2.g 0 from h4]
      exact q2 f (List.mem_of_getElem? hm)
   · have := h3.nd
     unfold ptrs keys at this
     unfold keys
     rw [List.map_map] at this ⊢
     exact this
end Go.Proofs.YtklhdalppmjnaaaGreatDoor
/- Steps of byLabel's walk over the index's items. -/
namespace Go.Gw
open Go
theorem picks_all {L : List It} : Picks L L := ⟨[], by simp⟩
theorem picks_drop {L M : List It} {x : It} (h : Picks L M) : Picks (x :: L) M := let ⟨R, hR⟩ := h; ⟨x :: R, (hR.cons x).trans List.perm_middle.symm⟩
theorem picks_trans {L M N : List It} (h : Picks L M) (h' : Picks M N) : Picks L N := by
 obtain ⟨R, hR⟩ := h
 obtain ⟨S, hS⟩ := h'
 exact ⟨S ++ R, hR.trans ((hS.append_right R).trans (by rw [List.append_assoc]))⟩
theorem picks_perm {L M : List It} (h : L.Perm M) : Picks L M := ⟨[], by simpa using h⟩
end Go.Gw
namespace Go.Proofs.YtklhdalppmjnaaaGreatDoor
open Go Go.Gw Go.So Go.Tu Go.Jn Go.MapKept
set_option linter.unusedVariables false
set_option linter.unusedSimpArgs false
section
variable {C : Cx} {Γ : Env} {X Y : List It} {φ : Act → World → Prop}
theorem tr_pickF2 (n : Int) {m : List Fr} (h : Tr C Γ (OwnI 3 kI ((lkp n (hdV m)).getD nilS) ((lkp n m).getD (nilS, [])).2 :: (Y ++ ((dlk n m).map frI ++ X))) φ) : Tr C Γ (Y ++ (m.map frI ++ X)) φ := by
 have hp : (Y ++ (m.map frI ++ X)).Perm (m.map frI ++ (Y ++ X)) := by
  rw [← List.append_assoc, ← List.append_assoc]
  exact List.Perm.append_right X List.perm_append_comm
 refine tr_pickF n hp (tr_perm ?_ h)
 refine List.Perm.cons _ ?_
 rw [← List.append_assoc, ← List.append_assoc]
 exact List.Perm.append_right X List.perm_append_comm
theorem tr_pickR2 (lab : Lab) {r : Rec} {m : List (Lab × Rec)} (hl : lkp lab m = some r) (h : Tr C Γ (Y ++ (recI r ++ recsI (dlk lab m))) φ) : Tr C Γ (Y ++ recsI m) φ :=
 tr_perm (List.Perm.append_left Y ((lkp_perm hl).flatMap_right (fun p : Lab × Rec => recI p.2))) h
end
theorem recs_back {g : Nat} {lab : Lab} {r : Rec} {recs : List (Lab × Rec)} : Picks (MapI g encS IsV (ptrs (ptk lab r recs)) :: (recI r ++ recsI (dlk lab recs))) (MapI g encS IsV (ptrs (ptk lab r recs)) :: recsI (ptk lab r recs)) := picks_perm (recs_perm.symm.cons _)
theorem frs_back {n : Int} {x : Value × List Int} {m : List Fr} {X : List It} : Picks (OwnI 3 kI x.1 x.2 :: ((dlk n m).map frI ++ X)) ((ptk n x m).map frI ++ X) := picks_perm ((frs_perm.symm.append_right X))
theorem step_yes {r : Rec} {p : Pr} {v w : Value} (hc : (lkp p r.has).getD 0 + 1 = 1) : absR { r with has := ptk p ((lkp p r.has).getD 0 + 1) r.has, all := r.all ++ [p], va := v, frm := ptk p.1 (w, ((lkp p.1 r.frm).getD (nilS, [])).2 ++ [p.2]) r.frm } = stepI (absR r) p := by
 unfold stepI absR
 simp only [if_pos hc, frA_ptk, frA_lkp]
theorem step_no {r : Rec} {p : Pr} (hc : ¬ (lkp p r.has).getD 0 + 1 = 1) : absR { r with has := ptk p ((lkp p r.has).getD 0 + 1) r.has } = stepI (absR r) p := by
 unfold stepI absR
 simp only [if_neg hc]
theorem lab_step {l : List Ed} {k : Nat} {e : Ed} {recs : List (Lab × Rec)} {r r' : Rec} (h : k < l.length) (he : at' l (k : Int) = e) (hr : abss recs = byLab (l.take k)) (hc : absR r = (lkp e.2.1 (byLab (l.take k))).getD ([], [], [])) (hs : absR r' = stepI (absR r) (e.1, e.2.2)) : abss (ptk e.2.1 r' recs) = byLab (l.take (k + 1)) := by
 rw [abs_ptk, hs, hr, hc]
 rw [at'_nat h] at he
 rw [List.take_succ_eq_append_getElem h, he]
 unfold byLab
 rw [List.foldl_append]; rfl
theorem cur_bound {l : List Ed} {k : Nat} {lab : Lab} {r : Rec} (h : k ≤ l.length) (hc : absR r = (lkp lab (byLab (l.take k))).getD ([], [], [])) (p : Pr) : 0 ≤ (lkp p r.has).getD 0 ∧ (lkp p r.has).getD 0 ≤ l.length ∧ r.all.length ≤ l.length ∧ ((lkp p.1 r.frm).getD (nilS, [])).2.length ≤ l.length := by
 obtain ⟨hx, _⟩ := byLab_ok (l.take k) lab
 rw [← hc] at hx
 have h1 := prs_len (l.take k) lab
 rw [List.length_take] at h1
 have h2 := hx.h0 p
 have h3 := hx.hl p
 have h4 := hx.al
 have h5 := hx.fl p.1
 have e5 : (lkp p.1 (absR r).1).getD [] = ((lkp p.1 r.frm).getD (nilS, [])).2 := frA_lkp p.1 r.frm
 rw [e5] at h5
 have e4 : (absR r).2.1 = r.all := rfl
 rw [e4] at h4
 have e3 : (absR r).2.2 = r.has := rfl
 rw [e3] at h2 h3
 refine ⟨h2, ?_, ?_, ?_⟩ <;> omega
def optM (m : List (Lab × Ix)) : List (Lab × Option Ix) := m.map fun p => (p.1, some p.2)
theorem optM_abs (m : List (Lab × Rec)) : (m.map fun p => (p.1, some (absR p.2))) = optM (abss m) := by unfold optM abss; rw [List.map_map]; rfl
end Go.Proofs.YtklhdalppmjnaaaGreatDoor
namespace Go.Proofs.YtklhdalppmjnaaaGreatDoor
open Go Go.Gw Go.So Go.Tu Go.Jn Go.MapKept
set_option linter.unusedVariables false
set_option linter.unusedSimpArgs false
section
variable {g : Nat} {lab : Lab} {r : Rec} {recs : List (Lab × Rec)} {T1 T2 : It}
theorem own_yes {n : Int} {w va : Value} {xs : List Int} {all : List Pr} {has : List (Pr × Int)} :
 Picks (MapI r.gf encI IsV (ptk n w (hdV r.frm)) :: OwnI 3 kI w xs :: BlkI r.g 204 kX (mp r.gf, va, mp r.gh) :: OwnI 108 kPP va all :: MapI r.gh encP kI.T has :: T1 :: MapI g encS IsV (ptrs (ptk lab r recs)) :: T2 :: ((dlk n r.frm).map frI ++ recsI (dlk lab recs)))
  (MapI g encS IsV (ptrs (ptk lab { r with has := has, all := all, va := va, frm := ptk n (w, xs) r.frm } recs)) :: recsI (ptk lab { r with has := has, all := all, va := va, frm := ptk n (w, xs) r.frm } recs)) := by
 refine picks_trans ?_ recs_back
 rw [ptrs_ptk, ptrs_ptk]
 unfold recI
 rw [hdV_ptk]
 refine picks_cons 6 rfl (picks_cons 2 rfl (picks_cons 0 rfl (picks_cons 2 rfl (picks_cons 1 rfl ?_))))
 show Picks (OwnI 3 kI w xs :: T1 :: T2 :: ((dlk n r.frm).map frI ++ recsI (dlk lab recs))) ((ptk n (w, xs) r.frm).map frI ++ recsI (dlk lab recs))
 refine picks_trans ?_ frs_back
 exact picks_cons 0 rfl (picks_drop (picks_drop picks_all))
theorem own_no {has : List (Pr × Int)} :
 Picks (MapI r.gh encP kI.T has :: T1 :: MapI g encS IsV (ptrs (ptk lab r recs)) :: T2 :: BlkI r.g 204 kX (mp r.gf, r.va, mp r.gh) :: MapI r.gf encI IsV (hdV r.frm) :: OwnI 108 kPP r.va r.all :: (r.frm.map frI ++ recsI (dlk lab recs)))
  (MapI g encS IsV (ptrs (ptk lab { r with has := has } recs)) :: recsI (ptk lab { r with has := has } recs)) := by
 refine picks_trans ?_ recs_back
 rw [ptrs_ptk, ptrs_ptk]
 unfold recI
 exact picks_cons 2 rfl (picks_cons 3 rfl (picks_cons 3 rfl (picks_cons 0 rfl (picks_cons 2 rfl (picks_drop (picks_drop picks_all))))))
theorem own_new {gx gf gh : Nat} (hn : lkp lab recs = none) :
 Picks (MapI g encS IsV (ptk lab (pt gx 0) (ptrs recs)) :: OwnI 108 kPP nilS [] :: BlkI gx 204 kX (mp gf, nilS, mp gh) :: MapI gh encP kI.T [] :: MapI gf encI IsV [] :: T1 :: recsI recs)
  (MapI g encS IsV (ptrs (ptk lab ⟨gx, gf, gh, nilS, [], [], []⟩ recs)) :: T1 :: (recI ⟨gx, gf, gh, nilS, [], [], []⟩ ++ recsI (dlk lab recs))) := by
 rw [ptrs_ptk, dlk_none (lkp_none.1 hn)]
 exact picks_cons 0 rfl (picks_cons 4 rfl (picks_cons 1 rfl (picks_cons 2 rfl (picks_cons 1 rfl (picks_cons 0 rfl picks_all)))))
theorem own_old (hr : lkp lab recs = some r) :
 Picks (T1 :: MapI g encS IsV (ptrs recs) :: (recI r ++ recsI (dlk lab recs))) (MapI g encS IsV (ptrs (ptk lab r recs)) :: T1 :: (recI r ++ recsI (dlk lab recs))) := by
 rw [ptk_same hr]
 exact picks_cons 1 rfl (picks_cons 0 rfl picks_all)
end
end Go.Proofs.YtklhdalppmjnaaaGreatDoor
/- Rows with an atom more, counted as they come. Plain Lean. -/
namespace Go.Jn
open Go Go.Gw Go.Tu
set_option linter.unusedVariables false
set_option linter.unusedSimpArgs false
section
variable {x : Ix} {r : Tp} {f t : Nat} {nx : List Tp}
abbrev goodN (nx : List Tp) (o : Option Ix) (r : Tp) (f t : Nat) : Bool := decide (nx.length + (ext o r f t).length ≤ 3000)
theorem ext_A (h1 : f < r.length) (h2 : t < r.length) : ext (some x) r f t = if (lkp (r.getD f 0, r.getD t 0) x.2.2).getD 0 = 0 then [] else [r] := by rw [ext_some, if_pos ⟨h1, h2⟩]
theorem ext_B (h1 : f < r.length) (h2 : ¬ t < r.length) : ext (some x) r f t = ((lkp (r.getD f 0) x.1).getD []).map (fun b => r ++ [b]) := by rw [ext_some, if_neg (fun e => h2 e.2), if_pos h1]
theorem ext_C (h1 : ¬ f < r.length) : ext (some x) r f t = x.2.1.filterMap (extC r t) := by rw [ext_some, if_neg (fun e => h1 e.1), if_neg h1]
theorem A_yes {b : Bool} (h1 : f < r.length) (h2 : t < r.length) (hc : decide ((lkp (r.getD f 0, r.getD t 0) x.2.2).getD 0 = 0) = false) (hb : b = decide (((nx ++ [r]).length : Int) ≤ 3000)) : (decide ((lkp (r.getD f 0, r.getD t 0) x.2.2).getD 0 = 0) || b) = goodN nx (some x) r f t := by
 unfold goodN
 rw [ext_A h1 h2, if_neg (by simpa using hc), hc, hb, Bool.false_or, Bool.eq_iff_iff]
 simp only [decide_eq_true_eq, List.length_append, List.length_singleton]; omega
theorem A_no {b : Bool} (h1 : f < r.length) (h2 : t < r.length) (hn : nx.length ≤ 3000) (hc : decide ((lkp (r.getD f 0, r.getD t 0) x.2.2).getD 0 = 0) = true) : (decide ((lkp (r.getD f 0, r.getD t 0) x.2.2).getD 0 = 0) || b) = goodN nx (some x) r f t := by
 unfold goodN
 rw [ext_A h1 h2, if_pos (by simpa using hc), hc, Bool.true_or]
 symm; simpa using hn
theorem map_snoc {α β : Type} [Inhabited α] {l : List α} (f : α → β) {k : Nat} (h : k < l.length) : (l.take (k + 1)).map f = (l.take k).map f ++ [f (at' l (k : Int))] := by
 rw [at'_nat h, List.take_succ_eq_append_getElem h, List.map_append]; rfl
theorem fmap_snoc {α β : Type} [Inhabited α] {l : List α} (f : α → Option β) {k : Nat} (h : k < l.length) : (l.take (k + 1)).filterMap f = (l.take k).filterMap f ++ (f (at' l (k : Int))).toList := by
 rw [at'_nat h, List.take_succ_eq_append_getElem h, List.filterMap_append]
 congr 1
theorem B_false {i : Nat} {bl : List Int} (he : (lkp (r.getD f 0) x.1).getD [] = bl) (h1 : f < r.length) (h2 : ¬ t < r.length) (hi : i < bl.length) {s : List Tp} (hs : s.length = nx.length + i + 1) (hc : ¬ ((s.length : Int) ≤ 3000)) : false = goodN nx (some x) r f t := by
 unfold goodN
 rw [ext_B h1 h2, he, List.length_map]
 symm; simp only [decide_eq_false_iff_not]; omega
theorem B_true {bl : List Int} (he : (lkp (r.getD f 0) x.1).getD [] = bl) (h1 : f < r.length) (h2 : ¬ t < r.length) (hn : nx.length + bl.length ≤ 3000) : true = goodN nx (some x) r f t := by
 unfold goodN
 rw [ext_B h1 h2, he, List.length_map]
 symm; simpa using hn
theorem fmap_le {α β : Type} (f : α → Option β) (l : List α) (k : Nat) : ((l.take k).filterMap f).length ≤ (l.filterMap f).length := by
 have h := List.take_append_drop k l
 have h2 : (l.filterMap f).length = ((l.take k).filterMap f).length + ((l.drop k).filterMap f).length := by
  conv => lhs; rw [← h]
  rw [List.filterMap_append, List.length_append]
 omega
theorem C_false {i : Nat} (h1 : ¬ f < r.length) {s : List Tp} (hs : s = nx ++ (x.2.1.take (i + 1)).filterMap (extC r t)) (hc : ¬ ((s.length : Int) ≤ 3000)) : false = goodN nx (some x) r f t := by
 unfold goodN
 rw [ext_C h1]
 have := fmap_le (extC r t) x.2.1 (i + 1)
 rw [hs, List.length_append] at hc
 symm; simp only [decide_eq_false_iff_not]; omega
theorem C_true (h1 : ¬ f < r.length) (hn : (nx ++ x.2.1.filterMap (extC r t)).length ≤ 3000) : true = goodN nx (some x) r f t := by
 unfold goodN
 rw [ext_C h1, ← List.length_append]
 symm; simpa using hn
end
end Go.Jn
/- Walks through the Go functions join.byLabel, as typed contracts. -/
namespace Go.Proofs.YtklhdalppmjnaaaGreatDoor
open Go Go.Gw Go.So Go.Tu Go.Jn
set_option linter.unusedVariables false
set_option linter.unusedSimpArgs false

set_option maxRecDepth 20000 in
/-- rhizome/join.byLabel -/
theorem byLabel_fn (l : List Ed) (hm : l.length ≤ 1000000) : Ct Tryz.prog 95 [SlT kE l] ([]) Unit (fun _ => MapT encS (kpt kIx).T (optM (byLab l))) (fun _ => []) (fun _ => True) := by
 refine fn_intro Tryz.func95 rfl rfl ?_
 intro H w
 refine sq (te (ec 0 rfl en) (rg (ak rfl (tn (nn (sq (te (ec 0 rfl en) (rg (oA (acts_makeMap encS IsV) pR rfl rfl (fun g1_0 _ => ?_))))))))))
 refine av rfl rfl (tn (nn (sq (sq (te (ec 0 rfl (ec 3 rfl en)) (rg (mv rfl rfl (oP (pls (oT rfl) Tryz.underlying26) rfl (oP (pu_move ot) rfl (tn (nn (tb (tr_loopK (σ := Nat × List (Lab × Rec)) (ec 3 rfl (ec 9 rfl (ec 10 rfl en))) (fun s => [(11, I64 (s.1 : Int))]) (fun s => (MapI g1_0 encS IsV (ptrs s.2) :: recsI s.2)) (fun s => s.1 ≤ l.length ∧ abss s.2 = byLab (l.take s.1)) (fun s => l.length - s.1) (0, []) ⟨Nat.zero_le _, rfl⟩ ?_ (op pl) ?_)))))))))))))
 · exact (ec 11 rfl en)
 · rintro ⟨k, recs⟩ ⟨hk, habs⟩
   dsimp only at hk habs ⊢
   refine sq (te (ec 3 rfl (ec 9 rfl (ec 10 rfl (ec 11 rfl en)))) (rg (oP (pu_lss (oT rfl) (oT rfl)) rfl (tn (nn (sq (tc (oT rfl) (fun c12 => ?_) (fun c12 => ?_))))))))
   · refine sk (nn (sq (tb (sq (te (ec 3 rfl (ec 9 rfl (ec 10 rfl (ec 11 rfl en)))) ?_)))))
     have hkl : k < l.length := by simpa using c12
     obtain ⟨e, he⟩ : ∃ e, at' l (k : Int) = e := ⟨_, rfl⟩
     refine rg (oP (pu_index (oT rfl) (oT rfl) Tryz.underlying26 y61 (by omega) (by omega)) rfl (oP (pL (oT rfl) y61) rfl (oA (acts_alloc (zE)) pR rfl rfl (fun g4_2 _ => ?_))))
     refine oA (asv (oT rfl) (oT rfl) (by exact pA 0 rfl) y61) (by exact pA 0 rfl) rfl rfl (fun _ _ => ?_)
     refine tn (nn (sq (te (ec 3 rfl (ec 5 rfl (ec 9 rfl (ec 10 rfl (ec 11 rfl en))))) ?_)))
     rw [he]
     refine rg (mv rfl rfl (oP (pf (oT rfl) y62) rfl (oP (plb (oT rfl) (by exact mA 0 rfl) le1 y40) rfl ?_)))
     refine oP (pu_lookup_raw mkS Tryz.underlying168 (z0 := (.pointer none)) (by kernel_rfl) (oT rfl) (by exact mA 1 rfl) (oT rfl)) rfl ?_
     refine av rfl rfl (tn (nn (tr_joinK (σ := Rec) (ec 3 rfl (ec 5 rfl (ec 9 rfl (ec 10 rfl (ec 11 rfl en))))) (fun cur => [(6, IsV (pt cur.g 0))]) (fun cur => MapI g1_0 encS IsV (ptrs (ptk e.2.1 cur recs)) :: BlkI g4_2 42 kE e :: BlkI cur.g 204 kX (mp cur.gf, cur.va, mp cur.gh) :: MapI cur.gf encI IsV (hdV cur.frm) :: MapI cur.gh encP kI.T cur.has :: OwnI 108 kPP cur.va cur.all :: (cur.frm.map frI ++ recsI (dlk e.2.1 recs))) (fun cur => absR cur = (lkp e.2.1 (byLab (l.take k))).getD ([], [], [])) ?_ ?_)))
     · refine sq (te (ec 3 rfl (ec 5 rfl (ec 6 rfl (ec 9 rfl (ec 10 rfl (ec 11 rfl en)))))) ?_)
       rw [ptr_lkp]
       refine rg (mv rfl rfl (oP (pu_ptr_eql ptr_is (oT rfl) Tryz.underlying172) rfl (tn (nn (tc (oT rfl) (fun c20 => ?_) (fun c20 => ?_))))))
       · have hnone : lkp e.2.1 recs = none := by
          cases hx : lkp e.2.1 recs with
          | none => rfl
          | some r => rw [hx] at c20; cases c20
         refine sq (te (ec 3 rfl (ec 5 rfl (ec 9 rfl (ec 10 rfl (ec 11 rfl en))))) (rg (oA (acts_makeMap encI IsV) pR rfl rfl (fun g7_0 _ => ?_))))
         refine oA (acts_makeMap encP kI.T) pR rfl rfl (fun g7_1 _ => ?_)
         refine oP (pu_build (d := kX) (v0 := (.map none, nilS, .map none)) (ps := [(0, 1), (1, 1), (2, 1)]) zX (by kernel_rfl) rfl (fills_cons rfl lx0 (by exact OT.raw (oT rfl) rfl) (fills_cons rfl lx2 (by exact OT.raw (oT rfl) rfl) fills_nil))) rfl ?_
         refine oA (acts_box (d := kX) (oT rfl)) pR rfl rfl (fun g7_3 _ => ?_)
         refine av rfl rfl (tn (nn (te (ec 3 rfl (ec 5 rfl (ec 6 rfl (ec 9 rfl (ec 10 rfl (ec 11 rfl en)))))) (tr_nilItem 108 kPP (rg (mv rfl rfl (oP (pf (oT rfl) y62) rfl (oP (plb (oT rfl) (by exact mA 4 rfl) le1 y40) rfl ?_))))))))
         refine mv rfl rfl (oA (acts_update mkS Tryz.underlying168 (oT rfl) (by exact pA 5 rfl) (oT rfl) (oT rfl)) (by exact pA 5 rfl) rfl rfl (fun _ _ => ?_))
         refine tn (nn ?_)
         exact tr_joined ({ g := g7_3, gf := g7_0, gh := g7_1, va := nilS, all := [], has := [], frm := [] }) (by rw [← habs, abs_lkp, hnone]; rfl) (ea (ec 6 rfl en) (ec 3 rfl (ec 5 rfl (ec 9 rfl (ec 10 rfl (ec 11 rfl en)))))) (op (own_new hnone))
       · obtain ⟨r, hr⟩ : ∃ r, lkp e.2.1 recs = some r := by
          cases hx : lkp e.2.1 recs with
          | none => rw [hx] at c20; cases c20
          | some r => exact ⟨r, rfl⟩
         refine tr_pickR2 (Y := [_, _]) e.2.1 hr ?_
         rw [hr]
         refine sk (nn ?_)
         exact tr_joined r (by rw [← habs, abs_lkp, hr]; rfl) (ea (ec 6 rfl en) (ec 3 rfl (ec 5 rfl (ec 9 rfl (ec 10 rfl (ec 11 rfl en)))))) (op (own_old hr))
     · rintro cur hcur
       refine sq (te (ec 3 rfl (ec 5 rfl (ec 6 rfl (ec 9 rfl (ec 10 rfl (ec 11 rfl en)))))) ?_)
       obtain ⟨hb1, hb2, hb3, hb4⟩ := cur_bound (l := l) (by omega) hcur (e.1, e.2.2)
       refine rg (oP (pf (oT rfl) y63) rfl (oP (plb (oT rfl) (by exact mA 1 rfl) le0 y2) rfl ?_))
       refine oP (pf (oT rfl) y64) rfl (oP (plb (oT rfl) (by exact mA 1 rfl) le2 y2) rfl ?_)
       refine oP (pu_build_arr (d := kPP) (v0 := (0, 0)) (agg := false) Tryz.underlying108 y2 zP rfl (fills_cons rfl Lens.p0 (oT rfl) (fills_cons rfl Lens.p1 (oT rfl) fills_nil))) rfl (oA (acts_alloc (zP)) pR rfl rfl (fun g9_5 _ => ?_))
       refine oA (asv (oT rfl) (oT rfl) (by exact pA 0 rfl) y65) (by exact pA 0 rfl) rfl rfl (fun _ _ => ?_)
       refine tn (nn (sq (te (ec 3 rfl (ec 5 rfl (ec 6 rfl (ec 7 rfl (ec 9 rfl (ec 10 rfl (ec 11 rfl en))))))) (tr_perm (perm_at 5 rfl) (tr_perm (perm_at 1 rfl) ?_)))))
       apply tr_anyG (ρ := Nat) (φ := fun rr => True) (p := 7) (Lf := fun c rr => cond c (MapE cur.gh encP kI.T (ptk (e.1, e.2.2) ((lkp (e.1, e.2.2) cur.has).getD 0) cur.has) (e.1, e.2.2) rr :: BlkI g9_5 108 kPP (e.1, e.2.2) :: MapI g1_0 encS IsV (ptrs (ptk e.2.1 cur recs)) :: BlkI g4_2 42 kE e :: BlkI cur.g 204 kX (mp cur.gf, cur.va, mp cur.gh) :: MapI cur.gf encI IsV (hdV cur.frm) :: OwnI 108 kPP cur.va cur.all :: (cur.frm.map frI ++ recsI (dlk e.2.1 recs))) (BlkI g9_5 108 kPP (e.1, e.2.2) :: MapI cur.gh encP kI.T cur.has :: MapI g1_0 encS IsV (ptrs (ptk e.2.1 cur recs)) :: BlkI g4_2 42 kE e :: BlkI cur.g 204 kX (mp cur.gf, cur.va, mp cur.gh) :: MapI cur.gf encI IsV (hdV cur.frm) :: OwnI 108 kPP cur.va cur.all :: (cur.frm.map frI ++ recsI (dlk e.2.1 recs)))) 0 (by kernel_rfl) (m := 9) (ns := [[(6, none)], [(34, some 0)], [(35, some 1)], [(36, some 2)], [(7, none)], [(37, some 3), (38, some 4)], [(39, some 5)], [(37, some 3), (38, some 4)], [(41, some 7)]]) (by kernel_rfl) (by kernel_rfl) (Ts := fun rr => [_, _, _, _, _, _, _, TupT [kI.T ((lkp (e.1, e.2.2) cur.has).getD 0), I64 (rr : Int)], I64 (rr : Int)]) (fun _ => rfl)
       case hops =>
        refine ⟨?_, ?_, ?_, ?_, ?_, ?_, ?_, ?_, ?_, trivial⟩
        · exact ⟨cBf (by kernel_rfl) fun r _ => rgo r rfl ⟨rfl, trivial⟩ (rmv rfl), fun _ _ _ _ => rfl⟩
        · exact ⟨cBf (by kernel_rfl) fun r _ => rgo r rfl ⟨rfl, trivial⟩ (rP (pu_nilCheck (oT rfl))), fun _ _ _ _ => rfl⟩
        · exact ⟨cBf (by kernel_rfl) fun r _ => rgo r rfl ⟨rfl, trivial⟩ (rP (pf (oT rfl) y66)), fun _ _ _ _ => rfl⟩
        · exact ⟨cBf (by kernel_rfl) fun r _ => rgo r rfl ⟨rfl, trivial⟩ (rP (pu_load_rawf (oT rfl) (by exact mA 4 rfl) lx2 y67)), fun _ _ _ _ => rfl⟩
        · exact ⟨cBf (by kernel_rfl) fun r _ => rgo r rfl ⟨rfl, trivial⟩ (rP (plv (oT rfl) (by exact mA 0 rfl) y65)), fun _ _ _ _ => rfl⟩
        · exact ⟨cB (fun r hc => rgo r rfl ⟨rfl, trivial⟩ (rP (pu_lookup_own mkP Tryz.underlying202 zI (oT rfl) (by exact mA 1 rfl) (oT rfl)))) fun r hc => rgo r rfl ⟨rfl, trivial⟩ (rP (pu_lookup_entry mkP Tryz.underlying202 zI (oT rfl) (by exact mA 0 rfl) (oT rfl))), fun _ _ _ _ => rfl⟩
        · exact ⟨by intro c r hc; cases c <;> exact rgo r rfl ⟨rfl, trivial⟩ (rP (pad (oT rfl) ot (by omega))), fun _ _ _ _ => rfl⟩
        · refine ⟨?_, ?_⟩
          · exact cBf (by kernel_rfl) fun r _ => ropg_acts rfl (acts_entry mkP Tryz.underlying202 zI (oT rfl) (by exact pA 1 rfl) (oT rfl)) (by exact pA 1 rfl) (fun r => pR) (fun _ _ _ => trivial) (fun _ _ _ _ h => h)
          · exact fun _ h => absurd h (by decide)
        · refine ⟨?_, ?_⟩
          · exact cBt (by kernel_rfl) fun r _ => rgo r rfl ⟨rfl, trivial⟩ (rP (pu_extract (oT rfl) rfl))
          · exact fun h => Bool.noConfusion (h.symm.trans (by kernel_rfl : okFlag _ _ _ _ = false))
       case h =>
        intro s10_7 _
        refine oA (acts_entryStore (oT rfl) (by exact pA 0 rfl) (oT rfl) (oT rfl)) (by exact pA 0 rfl) rfl rfl (fun _ _ => ?_)
        refine tn ?_
        rw [ptk_put]
        refine nn (sq (te (ec 3 rfl (ec 5 rfl (ec 6 rfl (ec 7 rfl (ec 9 rfl (ec 10 rfl (ec 11 rfl en))))))) ?_))
        apply tr_any (m := 5) (ns := [[(6, none)], [(43, some 0)], [(44, some 1)], [(45, some 2)], [(7, none)]]) (by kernel_rfl) (by kernel_rfl) (Ts := [_, _, _, _, _]) rfl
        case hops =>
         refine ⟨?_, ?_, ?_, ?_, ?_, trivial⟩
         · exact rmv rfl
         · exact rP (pu_nilCheck (oT rfl))
         · exact rP (pf (oT rfl) y66)
         · exact rP (pu_load_rawf (oT rfl) (by exact mA 4 rfl) lx2 y67)
         · exact rP (plv (oT rfl) (by exact mA 1 rfl) y65)
        case h =>
         refine oP (pu_lookup_own mkP Tryz.underlying202 zI (oT rfl) (by exact mA 0 rfl) (oT rfl)) rfl ?_
         refine oP (pu_eql (oT rfl) ot) rfl (tn (nn (tc (oT rfl) (fun c49 => ?_) (fun c49 => ?_))))
         · have hc : ((lkp (e.1, e.2.2) cur.has).getD 0 + 1) = 1 := by rw [lkp_put, if_pos rfl] at c49; simpa using c49
           refine sq (te (ec 3 rfl (ec 5 rfl (ec 6 rfl (ec 7 rfl (ec 9 rfl (ec 10 rfl (ec 11 rfl en))))))) ?_)
           apply tr_anyG (ρ := Value) (φ := fun rr => True) (p := 7) (Lf := fun c rr => cond c (OwnI 108 kPP rr (cur.all ++ [(e.1, e.2.2)]) :: MapI cur.gh encP kI.T (ptk (e.1, e.2.2) ((lkp (e.1, e.2.2) cur.has).getD 0 + 1) cur.has) :: BlkI g9_5 108 kPP (e.1, e.2.2) :: MapI g1_0 encS IsV (ptrs (ptk e.2.1 cur recs)) :: BlkI g4_2 42 kE e :: BlkI cur.g 204 kX (mp cur.gf, cur.va, mp cur.gh) :: MapI cur.gf encI IsV (hdV cur.frm) ::  (cur.frm.map frI ++ recsI (dlk e.2.1 recs))) (MapI cur.gh encP kI.T (ptk (e.1, e.2.2) ((lkp (e.1, e.2.2) cur.has).getD 0 + 1) cur.has) :: BlkI g9_5 108 kPP (e.1, e.2.2) :: MapI g1_0 encS IsV (ptrs (ptk e.2.1 cur recs)) :: BlkI g4_2 42 kE e :: BlkI cur.g 204 kX (mp cur.gf, cur.va, mp cur.gh) :: MapI cur.gf encI IsV (hdV cur.frm) :: OwnI 108 kPP cur.va cur.all :: (cur.frm.map frI ++ recsI (dlk e.2.1 recs)))) nilS (by kernel_rfl) (m := 8) (ns := [[(6, none)], [(6, none)], [(51, some 1)], [(52, some 2)], [(53, some 3)], [(7, none)], [(55, some 5)], [(54, some 4), (56, some 6)]]) (by kernel_rfl) (by kernel_rfl) (Ts := fun rr => [_, _, _, _, _, _, _, IsV rr]) (fun _ => rfl)
           case hops =>
            refine ⟨?_, ?_, ?_, ?_, ?_, ?_, ?_, ?_, trivial⟩
            · exact ⟨by intro c r hc; cases c <;> exact rgo r rfl ⟨rfl, trivial⟩ (rmv rfl), fun _ _ _ _ => rfl⟩
            · exact ⟨cBf (by kernel_rfl) fun r _ => rgo r rfl ⟨rfl, trivial⟩ (rmv rfl), fun _ _ _ _ => rfl⟩
            · exact ⟨cBf (by kernel_rfl) fun r _ => rgo r rfl ⟨rfl, trivial⟩ (rP (pu_nilCheck (oT rfl))), fun _ _ _ _ => rfl⟩
            · exact ⟨cBf (by kernel_rfl) fun r _ => rgo r rfl ⟨rfl, trivial⟩ (rP (pf (oT rfl) y68)), fun _ _ _ _ => rfl⟩
            · exact ⟨cBf (by kernel_rfl) fun r _ => rgo r rfl ⟨rfl, trivial⟩ (rP (pu_load_rawf (oT rfl) (by exact mA 4 rfl) lx1 y69)), fun _ _ _ _ => rfl⟩
            · exact ⟨cBf (by kernel_rfl) fun r _ => rgo r rfl ⟨rfl, trivial⟩ (rP (plv (oT rfl) (by exact mA 1 rfl) y65)), fun _ _ _ _ => rfl⟩
            · exact ⟨cBf (by kernel_rfl) fun r _ => rgo r rfl ⟨rfl, trivial⟩ (rop_acts rfl (acts_lit (d := kPP) (v0 := (0, 0)) y70 y65 zP (show 1 * 2 ≤ 16777216 from by decide) (by decide) (fills_arr rfl rfl (by decide) (oT rfl) fills_nil)) (fun _ _ _ _ h => h)), fun _ _ _ _ => rfl⟩
            · refine ⟨?_, ?_⟩
              · exact cBf (by kernel_rfl) fun r _ => ropg_acts rfl (acts_append (oT rfl) (by exact pA 6 rfl) (oT rfl) y70 (by (simp; omega)) (by (simp [maxLen]; omega))) (by exact pA 6 rfl) (fun r => pR) (fun _ _ _ => trivial) (fun _ _ _ _ h => h)
              · exact fun _ h => absurd h (by decide)
           case h =>
            intro v12_7 _
            refine oP (pu_nilCheck (oT rfl)) rfl (oP (pf (oT rfl) y68) rfl (tr_fact (mem_at 0 rfl) own_cell fun hone => (oA (acts_store_rawf (oT rfl) (oT rfl) (by assumption) (by exact pA 5 rfl) lx1 y69) (by exact pA 5 rfl) rfl rfl (fun _ _ => ?_))))
            refine tn (nn (te (ec 3 rfl (ec 5 rfl (ec 6 rfl (ec 9 rfl (ec 10 rfl (ec 11 rfl en)))))) (tr_pickF2 (Y := [_, _, _, _, _, _, _]) e.1 ?_)))
            apply tr_anyG (ρ := Value) (φ := fun rr => True) (p := 16) (Lf := fun c rr => cond c (OwnI 3 kI rr (((lkp e.1 cur.frm).getD (nilS, [])).2 ++ [e.2.2]) :: BlkI cur.g 204 kX (mp cur.gf, v12_7, mp cur.gh) :: OwnI 108 kPP v12_7 (cur.all ++ [(e.1, e.2.2)]) :: MapI cur.gh encP kI.T (ptk (e.1, e.2.2) ((lkp (e.1, e.2.2) cur.has).getD 0 + 1) cur.has) :: BlkI g9_5 108 kPP (e.1, e.2.2) :: MapI g1_0 encS IsV (ptrs (ptk e.2.1 cur recs)) :: BlkI g4_2 42 kE e :: MapI cur.gf encI IsV (hdV cur.frm) :: ((dlk e.1 cur.frm).map frI ++ recsI (dlk e.2.1 recs))) (OwnI 3 kI ((lkp e.1 (hdV cur.frm)).getD nilS) ((lkp e.1 cur.frm).getD (nilS, [])).2 :: BlkI cur.g 204 kX (mp cur.gf, v12_7, mp cur.gh) :: OwnI 108 kPP v12_7 (cur.all ++ [(e.1, e.2.2)]) :: MapI cur.gh encP kI.T (ptk (e.1, e.2.2) ((lkp (e.1, e.2.2) cur.has).getD 0 + 1) cur.has) :: BlkI g9_5 108 kPP (e.1, e.2.2) :: MapI g1_0 encS IsV (ptrs (ptk e.2.1 cur recs)) :: BlkI g4_2 42 kE e :: MapI cur.gf encI IsV (hdV cur.frm) :: ((dlk e.1 cur.frm).map frI ++ recsI (dlk e.2.1 recs)))) nilS (by kernel_rfl) (m := 17) (ns := [[(6, none)], [(60, some 0)], [(61, some 1)], [(62, some 2)], [(5, none)], [(64, some 4)], [(6, none)], [(66, some 6)], [(67, some 7)], [(68, some 8)], [(5, none)], [(70, some 10)], [(69, some 9), (71, some 11)], [(5, none)], [(73, some 13)], [(74, some 14)], [(72, some 12), (75, some 15)]]) (by kernel_rfl) (by kernel_rfl) (Ts := fun rr => [_, _, _, _, _, _, _, _, _, _, _, _, _, _, _, _, IsV rr]) (fun _ => rfl)
            case hops =>
             refine ⟨?_, ?_, ?_, ?_, ?_, ?_, ?_, ?_, ?_, ?_, ?_, ?_, ?_, ?_, ?_, ?_, ?_, trivial⟩
             · exact ⟨by intro c r hc; cases c <;> exact rgo r rfl ⟨rfl, trivial⟩ (rmv rfl), fun _ _ _ _ => rfl⟩
             · exact ⟨by intro c r hc; cases c <;> exact rgo r rfl ⟨rfl, trivial⟩ (rP (pu_nilCheck (oT rfl))), fun _ _ _ _ => rfl⟩
             · exact ⟨by intro c r hc; cases c <;> exact rgo r rfl ⟨rfl, trivial⟩ (rP (pf (oT rfl) y71)), fun _ _ _ _ => rfl⟩
             · exact ⟨by intro c r hc; cases c <;> exact rgo r rfl ⟨rfl, trivial⟩ (rP (pu_load_rawf (oT rfl) (by exact mA 1 rfl) lx0 y72)), fun _ _ _ _ => rfl⟩
             · exact ⟨by intro c r hc; cases c <;> exact rgo r rfl ⟨rfl, trivial⟩ (rP (pf (oT rfl) y63)), fun _ _ _ _ => rfl⟩
             · exact ⟨by intro c r hc; cases c <;> exact rgo r rfl ⟨rfl, trivial⟩ (rP (plb (oT rfl) (by exact mA 6 rfl) le0 y2)), fun _ _ _ _ => rfl⟩
             · exact ⟨cBf (by kernel_rfl) fun r _ => rgo r rfl ⟨rfl, trivial⟩ (rmv rfl), fun _ _ _ _ => rfl⟩
             · exact ⟨cBf (by kernel_rfl) fun r _ => rgo r rfl ⟨rfl, trivial⟩ (rP (pu_nilCheck (oT rfl))), fun _ _ _ _ => rfl⟩
             · exact ⟨cBf (by kernel_rfl) fun r _ => rgo r rfl ⟨rfl, trivial⟩ (rP (pf (oT rfl) y71)), fun _ _ _ _ => rfl⟩
             · exact ⟨cBf (by kernel_rfl) fun r _ => rgo r rfl ⟨rfl, trivial⟩ (rP (pu_load_rawf (oT rfl) (by exact mA 1 rfl) lx0 y72)), fun _ _ _ _ => rfl⟩
             · exact ⟨cBf (by kernel_rfl) fun r _ => rgo r rfl ⟨rfl, trivial⟩ (rP (pf (oT rfl) y63)), fun _ _ _ _ => rfl⟩
             · exact ⟨cBf (by kernel_rfl) fun r _ => rgo r rfl ⟨rfl, trivial⟩ (rP (plb (oT rfl) (by exact mA 6 rfl) le0 y2)), fun _ _ _ _ => rfl⟩
             · exact ⟨cBf (by kernel_rfl) fun r _ => rgo r rfl ⟨rfl, trivial⟩ (rP (pu_lookup_raw mkI Tryz.underlying120 (z0 := nilS) (by kernel_rfl) (oT rfl) (by exact mA 7 rfl) (oT rfl))), fun _ _ _ _ => rfl⟩
             · exact ⟨cBf (by kernel_rfl) fun r _ => rgo r rfl ⟨rfl, trivial⟩ (rP (pf (oT rfl) y64)), fun _ _ _ _ => rfl⟩
             · exact ⟨cBf (by kernel_rfl) fun r _ => rgo r rfl ⟨rfl, trivial⟩ (rP (plb (oT rfl) (by exact mA 6 rfl) le2 y2)), fun _ _ _ _ => rfl⟩
             · exact ⟨cBf (by kernel_rfl) fun r _ => rgo r rfl ⟨rfl, trivial⟩ (rop_acts rfl (acts_lit (d := kI) (v0 := 0) y73 y2 zI (show 1 * 1 ≤ 16777216 from by decide) (by decide) (fills_arr rfl rfl (by decide) (oT rfl) fills_nil)) (fun _ _ _ _ h => h)), fun _ _ _ _ => rfl⟩
             · refine ⟨?_, ?_⟩
               · exact cBf (by kernel_rfl) fun r _ => ropg_acts rfl (acts_append (oT rfl) (by exact pA 0 rfl) (oT rfl) y73 (by (simp [maxLen] at *; omega)) (by (simp [maxLen] at *; omega))) (by exact pA 0 rfl) (fun r => pR) (fun _ _ _ => trivial) (fun _ _ _ _ h => h)
               · exact fun _ h => absurd h (by decide)
            case h =>
             intro v13_16 _
             refine oA (acts_update mkI Tryz.underlying120 (oT rfl) (by exact pA 7 rfl) (oT rfl) (oT rfl)) (by exact pA 7 rfl) rfl rfl (fun _ _ => ?_)
             refine tn (bn (nn (te (ec 3 rfl (ec 9 rfl (ec 10 rfl (ec 11 rfl en)))) (rg (oP (pad (oT rfl) ot (by omega)) rfl (mv rfl rfl (tn (nn ?_))))))))
             exact tg (k + 1, ptk e.2.1 { cur with has := (ptk (e.1, e.2.2) ((lkp (e.1, e.2.2) cur.has).getD 0 + 1) cur.has), all := cur.all ++ [(e.1, e.2.2)], va := v12_7, frm := ptk e.1 (v13_16, ((lkp e.1 cur.frm).getD (nilS, [])).2 ++ [e.2.2]) cur.frm } recs) ⟨(by show k + 1 ≤ l.length; omega), lab_step hkl he habs hcur (step_yes hc)⟩ (by omega) (ea (ec 11 rfl en) (ec 3 rfl (ec 9 rfl (ec 10 rfl en)))) (op own_yes)
         · have hc : ¬ ((lkp (e.1, e.2.2) cur.has).getD 0 + 1) = 1 := by rw [lkp_put, if_pos rfl] at c49; simpa using c49
           refine sk (bn (nn (te (ec 3 rfl (ec 9 rfl (ec 10 rfl (ec 11 rfl en)))) (rg (oP (pad (oT rfl) ot (by omega)) rfl (mv rfl rfl (tn (nn ?_))))))))
           exact tg (k + 1, ptk e.2.1 { cur with has := (ptk (e.1, e.2.2) ((lkp (e.1, e.2.2) cur.has).getD 0 + 1) cur.has) } recs) ⟨(by show k + 1 ≤ l.length; omega), lab_step hkl he habs hcur (step_no hc)⟩ (by omega) (ea (ec 11 rfl en) (ec 3 rfl (ec 9 rfl (ec 10 rfl en)))) (op own_no)
   · refine tr_exit (tx (tx (bh (nn (sq (te (ec 3 rfl en) ?_))))))
     have hkl : k = l.length := by simp only [decide_eq_false_iff_not] at c12; omega
     rw [hkl, List.take_length] at habs
     refine rg (mv rfl rfl (av rfl rfl (tn (tr_frz (recsF g1_0 recs) (R := []) (by rw [List.append_nil]) 2 (oT rfl) (fun H q => by rw [optM_abs, habs] at q; exact q) ?_))))
     refine nn (tR ?_)
     exact ret_one .ret (.inl rfl) rfl () (oT rfl) trivial (by exact pn)
abbrev takeV (g : Nat) : Value := .func (.func 96) #[] #[pt g 0]
theorem zLI : ZeroOf Tryz.prog 50 (ksl kI) [] := ⟨nilS, by kernel_rfl, fun H => nil_sl⟩
theorem zPt : ZeroOf Tryz.prog 172 (kpt kIx) none := ⟨.pointer none, by kernel_rfl, fun H => rfl⟩
theorem zr : ZeroOf Tryz.prog 36 kraw nilS := ⟨nilS, by kernel_rfl, fun H => ⟨rfl, rfl⟩⟩

set_option maxRecDepth 20000 in
/-- slices.Clone[rhizome/api.Tuple,int] -/
theorem CloneO_fn (xs : Tp) (hm : xs.length ≤ 1000000) : Ct Tryz.prog 66 [SlT kI xs] ([]) Value (fun v => IsV v) (fun v => [OwnI 3 kI v xs]) (fun _ => True) := by
 refine fn_intro Tryz.func66 rfl rfl ?_
 intro H w
 refine sq (te (ec 0 rfl en) (rg (ak rfl (tn (nn (sq (sq (te (ec 0 rfl en) (rg (mv rfl rfl (oA (acts_isnil (oT rfl) Tryz.underlying51) pR rfl rfl (fun b1 hb1 => ?_))))))))))))
 refine tn (nn (tc (oT rfl) (fun c4 => ?_) (fun c4 => ?_)))
 · try simp only [cq] at c4
   obtain rfl := hb1 c4
   refine tr_nilItem 3 kI (sq (te en (rg (ak rfl (tn (nn (tR (tt ?_))))))))
   exact ret_one .ret (.inl rfl) rfl nilS (oT rfl) trivial (by repeat first | exact pn | refine pc 0 rfl ?_)
 · try simp only [cq] at c4
   refine sk (nn (sq (te (ec 0 rfl en) (rg (oA (acts_lit_own (d := kI) (v0 := 0) y33 y2 zI (show 0 * 1 ≤ 16777216 from by decide) (by decide) fills_nil) pR rfl rfl (fun v3_0 _ => ?_))))))
   refine mv rfl rfl (oA (acts_append (oT rfl) (by exact pA 0 rfl) (oT rfl) y33 (by (simp; omega)) (by (simp [maxLen]; omega))) (by exact pA 0 rfl) rfl rfl (fun v3_2 _ => ?_))
   refine av rfl rfl (tn (nn (tR ?_)))
   exact ret_one .ret (.inl rfl) rfl _ (oT rfl) trivial (by repeat first | exact pn | refine pc 0 rfl ?_)
set_option maxRecDepth 20000 in
/-- rhizome/join.Rows$1 -/
theorem Rows1_fn (t : Tp) (g : Nat) (v : Value) (nx : List Tp) (hm : nx.length ≤ 1000000) : Ct Tryz.prog 96 [SlT kI t, IsV (pt g 0)] ([BlkI g 36 kraw v, OwnI 51 kT v (nx)]) Value (fun r => BoolT (decide (((nx ++ [t]).length : Int) ≤ 3000))) (fun r => [BlkI g 36 kraw r, OwnI 51 kT r (nx ++ [t])]) (fun _ => True) := by
 refine fn_intro Tryz.func96 rfl rfl ?_
 intro H w
 refine sq (te (ec 0 rfl (ec 1 rfl en)) (rg (ak rfl (tn (nn (sq (te (ec 0 rfl (ec 1 rfl en)) (rg (oP (pu_load_rawv (oT rfl) (by exact mA 0 rfl) y25) rfl ?_)))))))))
 refine mv rfl rfl (oA (acts_lit (d := kT) (v0 := []) y29 y0 zT (show 1 * 1 ≤ 16777216 from by decide) (by decide) (fills_arr rfl rfl (by decide) (oT rfl) fills_nil)) pR rfl rfl (fun _ _ => ?_))
 refine oA (acts_append (oT rfl) (by exact pA 1 rfl) (oT rfl) y29 (by (simp; omega)) (by (simp [maxLen]; omega))) (by exact pA 1 rfl) rfl rfl (fun v1_3 _ => ?_)
 refine tr_fact (mem_at 0 rfl) own_cell fun hone => (oA (acts_store_rawv (oT rfl) (oT rfl) (by assumption) (by exact pA 1 rfl) y25) (by exact pA 1 rfl) rfl rfl (fun _ _ => ?_))
 refine tn (nn (sq (te (ec 1 rfl en) (rg (oP (pu_load_rawv (oT rfl) (by exact mA 0 rfl) y25) rfl ?_)))))
 refine oP (pu_len_own (oT rfl) (by exact mA 1 rfl) Tryz.underlying36) rfl ?_
 refine oP (pu_leq (oT rfl) ot) rfl (av rfl rfl (tn (nn (tR ?_))))
 exact ret_one .ret (.inl rfl) rfl v1_3 (oT rfl) trivial (by repeat first | exact pn | refine pc 0 rfl ?_)
set_option maxRecDepth 20000 in
/-- rhizome/join.extend -/
theorem extend_fn (o : Option Ix) (r : Tp) (f t : Nat) (g : Nat) (v : Value) (nx : List Tp) (hf : f ≤ r.length) (ht : t ≤ r.length + 1) (hft : f < r.length → t ≤ r.length) (hn : nx.length ≤ 3000) (hr : r.length ≤ 1000) (hx : ∀ x, o = some x → x.2.1.length ≤ 1000000 ∧ ∀ n, ((lkp n x.1).getD []).length ≤ 1000000) : Ct Tryz.prog 97 [PtrT kIx o, SlT kI r, I64 (f : Int), I64 (t : Int), IsV (takeV g)] ([BlkI g 36 kraw v, OwnI 51 kT v (nx)]) (Value × List Tp) (fun p => BoolT (goodN nx o r f t)) (fun p => [BlkI g 36 kraw p.1, OwnI 51 kT p.1 (p.2)]) (fun p => nx.length + (ext o r f t).length ≤ 3000 → p.2 = nx ++ ext o r f t) := by
 refine fn_intro Tryz.func97 rfl rfl ?_
 intro H w
 refine sq (te (ec 0 rfl (ec 1 rfl (ec 2 rfl (ec 3 rfl (ec 4 rfl en))))) (rg (ak rfl (tn (nn (sq (sq (te (ec 0 rfl (ec 1 rfl (ec 2 rfl (ec 3 rfl (ec 4 rfl en))))) (rg (mv rfl rfl (oP (pu_opt_eql (oT rfl) Tryz.underlying172) rfl (tn (nn (tc (oT rfl) (fun c18 => ?_) (fun c18 => ?_)))))))))))))))
 · obtain rfl : o = none := by cases o with
    | none => rfl
    | some x => cases c18
   refine sq (te en (rg (ak rfl (tn (nn (tR (tt ?_)))))))
   exact ret_one .ret (.inl rfl) rfl (v, nx) (OT.val (oT rfl) (congrArg Value.bool ((decide_eq_true (by show nx.length + 0 ≤ 3000; omega)).symm))) (fun _ => (List.append_nil nx).symm) (by repeat first | exact pn | refine pc 0 rfl ?_)
 · obtain ⟨x, rfl⟩ : ∃ x, o = some x := by cases o with
    | none => cases c18
    | some x => exact ⟨x, rfl⟩
   obtain ⟨hx1, hx2⟩ := hx x rfl
   refine tr_as 0 (T := AtT kIx x) (oT rfl) (sk (nn (sq (sq (te (ec 0 rfl (ec 1 rfl (ec 2 rfl (ec 3 rfl (ec 4 rfl en))))) (rg (mv rfl rfl (oP (pls (oT rfl) Tryz.underlying51) rfl (av rfl rfl (tn (nn (tb (sq (te (ec 0 rfl (ec 1 rfl (ec 2 rfl (ec 3 rfl (ec 4 rfl (ec 11 rfl en)))))) (rg (mv rfl rfl (mv rfl rfl (oP (pu_lss (oT rfl) (oT rfl)) rfl (mv rfl rfl (oG rfl rfl rfl (gm (oT rfl)) (fun hg => by (have hg1 := hg.2; (try simp only [cq2] at hg1); exact pu_move (oT rfl))) rfl ?_))))))))))))))))))))
   refine oG rfl rfl rfl (gm (oT rfl)) (fun hg => by (have hg1 := hg.2; (try simp only [cq2] at hg1); exact pu_move (oT rfl))) rfl ?_
   refine oG rfl rfl rfl (gm (oT rfl)) (fun hg => by (have hg1 := hg.2; (try simp only [cq2] at hg1); exact pu_lss (by exact gu (oT rfl) hg) (by exact gu (oT rfl) hg))) rfl ?_
   refine oP (pu_pick_and (oT rfl) (oT rfl)) rfl (av rfl rfl (tn (nn (tc (oT rfl) (fun c57 => ?_) (fun c57 => ?_)))))
   · obtain ⟨hA1, hA2⟩ : f < r.length ∧ t < r.length := by simp only [Bool.and_eq_true, decide_eq_true_eq] at c57; omega
     refine sq (te (ec 0 rfl (ec 1 rfl (ec 2 rfl (ec 3 rfl (ec 4 rfl en))))) ?_)
     apply tr_any (m := 18) (ns := [[(0, none)], [(66, some 0)], [(67, some 1)], [(68, some 2)], [(1, none)], [(2, none)], [(70, some 4), (71, some 5)], [(72, some 6)], [(1, none)], [(3, none)], [(74, some 8), (75, some 9)], [(76, some 10)], [(73, some 7), (77, some 11)], [(69, some 3), (78, some 12)], [(79, some 13)], [(80, some 14)], [(4, none), (81, some 15)], [(1, none), (81, some 15)]]) (by kernel_rfl) (by kernel_rfl) (Ts := [_, _, _, _, _, _, _, _, _, _, _, _, _, _, _, _, _, _]) rfl
     case hops =>
      refine ⟨?_, ?_, ?_, ?_, ?_, ?_, ?_, ?_, ?_, ?_, ?_, ?_, ?_, ?_, ?_, ?_, ?_, ?_, trivial⟩
      · exact rmv rfl
      · exact rP (pu_nilCheck_at (oT rfl))
      · exact rP (pu_faddr_at (oT rfl) ly2 y66)
      · exact rP (pL (oT rfl) y67)
      · exact rmv rfl
      · exact rmv rfl
      · exact rP (pu_index (oT rfl) (oT rfl) Tryz.underlying51 y2 (by omega) (by omega))
      · exact rP (pL (oT rfl) y2)
      · exact rmv rfl
      · exact rmv rfl
      · exact rP (pu_index (oT rfl) (oT rfl) Tryz.underlying51 y2 (by omega) (by omega))
      · exact rP (pL (oT rfl) y2)
      · exact rP (pu_build_arr (d := kPP) (v0 := (0, 0)) (agg := false) Tryz.underlying108 y2 zP rfl (fills_cons rfl Lens.p0 (oT rfl) (fills_cons rfl Lens.p1 (oT rfl) fills_nil)))
      · exact rP (pu_lookup mkP Tryz.underlying202 zI (oT rfl) (oT rfl))
      · exact rP (pu_eql (oT rfl) ot)
      · exact rmv rfl
      · exact rG rfl rfl rfl (gm (oT rfl)) (fun hg => by (have hg1 := hg.2; exact rmv rfl))
      · exact rG rfl rfl rfl (gm (oT rfl)) (fun hg => by (have hg1 := hg.2; exact rmv rfl))
     case h =>
      refine op_gu_split rfl rfl rfl rfl (oT rfl) (fun hsp => ?_) (fun hsp => ?_)
      · refine oA (acts_callv (gu (oT rfl) ⟨trivial, hsp⟩) (CtV.of [pt g 0] (Rows1_fn (r) g (v) (nx) (by omega)) (by kernel_rfl)) (oc (gu (oT rfl) ⟨trivial, hsp⟩) oN) (perm2_at 0 0 rfl rfl)) (perm2_at 0 0 rfl rfl) rfl rfl (fun v15_18 _ => ?_)
        refine oP (pu_pick_or (oT rfl) (by exact OT.gu_in (oT rfl) ⟨trivial, by assumption⟩)) rfl ?_
        refine av rfl rfl (tn (nn (tR (block_ret (tt ?_)))))
        exact ret_one .ret (.inl rfl) rfl (v15_18, nx ++ [r]) (OT.val (oT rfl) (congrArg Value.bool (A_yes hA1 hA2 hsp rfl))) (fun _ => by show nx ++ [r] = nx ++ ext (some x) r f t; rw [ext_A hA1 hA2]; exact congrArg (nx ++ ·) (if_neg (of_decide_eq_false hsp)).symm) (by repeat first | exact pn | refine pc 0 rfl ?_)
      · refine oP (pu_pick_or (oT rfl) (by exact OT.gu_out (T := BoolT true) (oT rfl) (by simp_all))) rfl ?_
        refine av rfl rfl (tn (nn (tR (block_ret (tt ?_)))))
        exact ret_one .ret (.inl rfl) rfl (v, nx) (OT.val (oT rfl) (congrArg Value.bool (A_no hA1 hA2 hn hsp))) (fun _ => by show nx = nx ++ ext (some x) r f t; rw [ext_A hA1 hA2]; exact (List.append_nil nx).symm.trans (congrArg (nx ++ ·) (if_pos (of_decide_eq_true hsp)).symm)) (by repeat first | exact pn | refine pc 0 rfl ?_)
   · have hnA : ¬ (f < r.length ∧ t < r.length) := by rintro ⟨h1, h2⟩; simp only [Bool.and_eq_false_iff, decide_eq_false_iff_not] at c57; omega
     refine sq (te (ec 0 rfl (ec 1 rfl (ec 2 rfl (ec 3 rfl (ec 4 rfl (ec 11 rfl en)))))) (rg (mv rfl rfl (mv rfl rfl (oP (pu_lss (oT rfl) (oT rfl)) rfl (av rfl rfl (tn (nn (tc (oT rfl) (fun c86 => ?_) (fun c86 => ?_))))))))))
     · have hB1 : f < r.length := by simpa using c86
       have hB2 : ¬ t < r.length := fun e => hnA ⟨hB1, e⟩
       obtain ⟨bl, he1⟩ : ∃ bl, (lkp (at' r (f : Int)) x.1).getD [] = bl := ⟨_, rfl⟩
       have he : (lkp (r.getD f 0) x.1).getD [] = bl := he1
       have hbl : bl.length ≤ 1000000 := he ▸ hx2 (r.getD f 0)
       refine sq (te (ec 0 rfl (ec 1 rfl (ec 2 rfl (ec 4 rfl en)))) ?_)
       apply tr_any (m := 11) (ns := [[(0, none)], [(90, some 0)], [(91, some 1)], [(92, some 2)], [(1, none)], [(2, none)], [(94, some 4), (95, some 5)], [(96, some 6)], [(93, some 3), (97, some 7)], [(98, some 8)], []]) (by kernel_rfl) (by kernel_rfl) (Ts := [_, _, _, _, _, _, _, _, _, _, _]) rfl
       case hops =>
        refine ⟨?_, ?_, ?_, ?_, ?_, ?_, ?_, ?_, ?_, ?_, ?_, trivial⟩
        · exact rmv rfl
        · exact rP (pu_nilCheck_at (oT rfl))
        · exact rP (pu_faddr_at (oT rfl) ly0 y71)
        · exact rP (pL (oT rfl) y72)
        · exact rmv rfl
        · exact rmv rfl
        · exact rP (pu_index (oT rfl) (oT rfl) Tryz.underlying51 y2 (by omega) (by omega))
        · exact rP (pL (oT rfl) y2)
        · exact rP (pu_lookup mkI Tryz.underlying120 zLI (oT rfl) (oT rfl))
        · exact rP (pls (oT rfl) Tryz.underlying50)
        · exact rP (pu_move ot)
       case h =>
        refine tn ?_
        rw [he1]
        refine nn (tb (tr_loopK (σ := Nat × Value) (ec 1 rfl (ec 4 rfl (ec 98 rfl (ec 99 rfl en)))) (fun s => [(100, I64 (s.1 : Int))]) (fun s => [BlkI g 36 kraw s.2, OwnI 51 kT s.2 (nx ++ (bl.take s.1).map (fun b => r ++ [b]))]) (fun s => s.1 ≤ bl.length ∧ nx.length + s.1 ≤ 3000) (fun s => bl.length - s.1) (0, v) ⟨Nat.zero_le _, hn⟩ ?_ (op (by rw [List.take_zero, List.map_nil, List.append_nil]; exact pl)) ?_))
        · exact (ec 100 rfl en)
        · rintro ⟨i, vi⟩ ⟨hi, hin⟩
          dsimp only at hi hin ⊢
          refine sq (te (ec 1 rfl (ec 4 rfl (ec 98 rfl (ec 99 rfl (ec 100 rfl en))))) ?_)
          have hil : (nx ++ ((bl.take i).map (fun b => r ++ [b]))).length = nx.length + i := by rw [List.length_append, List.length_map, List.length_take]; omega
          refine rg (oP (pu_lss (oT rfl) (oT rfl)) rfl (tn (nn (sq (tc (oT rfl) (fun c101 => ?_) (fun c101 => ?_))))))
          · refine sk (nn (sq (tb (sq (te (ec 1 rfl (ec 4 rfl (ec 98 rfl (ec 99 rfl (ec 100 rfl en))))) ?_)))))
            have hst := map_snoc (fun b => r ++ [b]) (l := bl) (k := i) (by simpa using c101)
            refine rg (oP (pu_index (oT rfl) (oT rfl) Tryz.underlying50 y2 (by omega) (by (simp [maxLen] at *; omega))) rfl ?_)
            refine oP (pL (oT rfl) y2) rfl (av rfl rfl (tn (nn (sq (te (ec 1 rfl (ec 4 rfl (ec 13 rfl (ec 98 rfl (ec 99 rfl (ec 100 rfl en)))))) (rg (mv rfl rfl (mv rfl rfl (oA (aC (CloneO_fn _ (by omega)) y34 (oc (oT rfl) oN) pR) pR rfl rfl (fun v20_2 _ => ?_))))))))))
            refine mv rfl rfl (oA (acts_lit (d := kI) (v0 := 0) y33 y2 zI (show 1 * 1 ≤ 16777216 from by decide) (by decide) (fills_arr rfl rfl (by decide) (oT rfl) fills_nil)) pR rfl rfl (fun _ _ => ?_))
            refine oA (acts_append (oT rfl) (by exact pA 0 rfl) (oT rfl) y33 (by (simp; omega)) (by (simp [maxLen]; omega))) (by exact pA 0 rfl) rfl rfl (fun v20_5 _ => ?_)
            refine tr_freeze (perm_at 0 rfl) 109 (oT rfl) (oA (acts_callv (oT rfl) (CtV.of [pt g 0] (Rows1_fn (r ++ [at' bl (i : Int)]) g (vi) (nx ++ (bl.take i).map (fun b => r ++ [b])) (by omega)) (by kernel_rfl)) (oc (oT rfl) oN) (perm2_at 0 0 rfl rfl)) (perm2_at 0 0 rfl rfl) rfl rfl (fun v20_6 _ => ?_))
            refine oP (pu_not (oT rfl)) rfl (tn (nn (tc (oT rfl) (fun c111 => ?_) (fun c111 => ?_))))
            · refine sq (te en (rg (ak rfl (tn (nn (tR (block_ret (tt (tt (block_ret (block_ret (tt ?_))))))))))))
              have hbf := B_false (nx := nx) (t := t) he hB1 hB2 (i := i) (by simpa using c101) (s := nx ++ (bl.take i).map (fun b => r ++ [b]) ++ [r ++ [at' bl (i : Int)]]) (by rw [List.length_append, hil]; rfl) (by have h9 := c111; simp only [Bool.not_eq_true', decide_eq_false_iff_not] at h9; exact h9)
              exact ret_one .ret (.inl rfl) rfl (v20_6, _) (OT.val (oT rfl) (congrArg Value.bool (hbf))) (fun hq => absurd hbf (by unfold goodN; rw [decide_eq_true hq]; simp)) (by repeat first | exact pn | refine pc 0 rfl ?_)
            · refine sk (bn (nn (te (ec 1 rfl (ec 4 rfl (ec 98 rfl (ec 99 rfl (ec 100 rfl en))))) (rg (oP (pad (oT rfl) ot (by omega)) rfl (mv rfl rfl (tn (nn ?_))))))))
              exact tg (i + 1, v20_6) ⟨by show i + 1 ≤ _; simp only [decide_eq_true_eq] at c101; omega, by show nx.length + (i + 1) ≤ 3000; have h9 := c111; simp only [Bool.not_eq_false', decide_eq_true_eq, List.length_append, List.length_singleton] at h9; rw [List.length_append] at hil; omega⟩ (by simp only [decide_eq_true_eq] at c101; show bl.length - (i + 1) < bl.length - i; omega) (ea (ec 100 rfl en) (ec 1 rfl (ec 4 rfl (ec 98 rfl (ec 99 rfl en))))) (op (by rw [hst, ← List.append_assoc]; exact (by repeat first | exact pn | refine pc 0 rfl ?_)))
          · refine tr_exit (tx (tx (bh (bn (nn (sq (te en (rg (ak rfl (tn (nn (tR ?_))))))))))))
            obtain rfl : i = bl.length := by simp only [decide_eq_false_iff_not] at c101; omega
            exact ret_one .ret (.inl rfl) rfl (vi, nx ++ (bl.take bl.length).map (fun b => r ++ [b])) (OT.val (oT rfl) (congrArg Value.bool (B_true he hB1 hB2 (by omega)))) (fun _ => by show nx ++ _ = nx ++ ext (some x) r f t; rw [ext_B hB1 hB2, he, List.take_length]) (by repeat first | exact pn | refine pc 0 rfl ?_)
     · have hC1 : ¬ f < r.length := by simpa using c86
       refine sq (te (ec 0 rfl (ec 1 rfl (ec 3 rfl (ec 4 rfl (ec 11 rfl en))))) (rg (mv rfl rfl (oP (pu_nilCheck_at (oT rfl)) rfl (oP (pu_faddr_at (oT rfl) ly1 y68) rfl (oP (pL (oT rfl) y69) rfl (oP (pls (oT rfl) Tryz.underlying160) rfl (oP (pu_move ot) rfl (tn (nn (tb (tr_loopK (σ := Nat × Value) (ec 1 rfl (ec 3 rfl (ec 4 rfl (ec 11 rfl (ec 24 rfl (ec 25 rfl en)))))) (fun s => [(26, I64 (s.1 : Int))]) (fun s => [BlkI g 36 kraw s.2, OwnI 51 kT s.2 (nx ++ (x.2.1.take s.1).filterMap (extC r t))]) (fun s => s.1 ≤ x.2.1.length ∧ (nx ++ (x.2.1.take s.1).filterMap (extC r t)).length ≤ 3000) (fun s => x.2.1.length - s.1) (0, v) ⟨Nat.zero_le _, by simpa using hn⟩ ?_ (op (by rw [List.take_zero, List.filterMap_nil, List.append_nil]; exact pl)) ?_))))))))))))
       · exact (ec 26 rfl en)
       · rintro ⟨i, vi⟩ ⟨hi, hin⟩
         dsimp only at hi hin ⊢
         refine sq (te (ec 1 rfl (ec 3 rfl (ec 4 rfl (ec 11 rfl (ec 24 rfl (ec 25 rfl (ec 26 rfl en))))))) (rg (oP (pu_lss (oT rfl) (oT rfl)) rfl (tn (nn (sq (tc (oT rfl) (fun c27 => ?_) (fun c27 => ?_))))))))
         · refine sk (nn (sq (tb (sq (te (ec 1 rfl (ec 3 rfl (ec 4 rfl (ec 11 rfl (ec 24 rfl (ec 25 rfl (ec 26 rfl en))))))) ?_)))))
           obtain ⟨p, hp⟩ : ∃ p, at' x.2.1 (i : Int) = p := ⟨_, rfl⟩
           have hil : i < x.2.1.length := by simpa using c27
           have hst := fmap_snoc (extC r t) (l := x.2.1) (k := i) hil
           rw [hp] at hst
           refine rg (oP (pu_index (oT rfl) (oT rfl) Tryz.underlying160 y65 (by omega) (by omega)) rfl (oP (pL (oT rfl) y65) rfl (oA (acts_alloc (zP)) pR rfl rfl (fun g6_2 _ => ?_))))
           refine oA (asv (oT rfl) (oT rfl) (by exact pA 0 rfl) y65) (by exact pA 0 rfl) rfl rfl (fun _ _ => ?_)
           refine tn (nn (sq (te (ec 1 rfl (ec 3 rfl (ec 4 rfl (ec 11 rfl (ec 15 rfl (ec 24 rfl (ec 25 rfl (ec 26 rfl en)))))))) ?_)))
           rw [hp]
           apply tr_anyG (ρ := Value) (φ := fun rr => True) (p := 1) (Lf := fun c rr => cond c (OwnI 3 kI rr r :: BlkI g6_2 108 kPP p :: BlkI g 36 kraw vi :: OwnI 51 kT vi (nx ++ (x.2.1.take i).filterMap (extC r t)) :: []) (BlkI g6_2 108 kPP p :: BlkI g 36 kraw vi :: OwnI 51 kT vi (nx ++ (x.2.1.take i).filterMap (extC r t)) :: [])) nilS (by kernel_rfl) (m := 5) (ns := [[(1, none)], [(30, some 0)], [(15, none)], [(32, some 2)], [(33, some 3)]]) (by kernel_rfl) (by kernel_rfl) (Ts := fun rr => [_, IsV rr, _, kI.T p.1, SlT kI [p.1]]) (fun _ => rfl)
           case hops =>
            refine ⟨?_, ?_, ?_, ?_, ?_, trivial⟩
            · exact ⟨cBf (by kernel_rfl) fun r _ => rgo r rfl ⟨rfl, trivial⟩ (rmv rfl), fun _ _ _ _ => rfl⟩
            · refine ⟨?_, ?_⟩
              · exact cBf (by kernel_rfl) fun r _ => ropg_acts rfl (aC (CloneO_fn _ (by omega)) y34 (oc (oT rfl) oN) pR) pR (fun r => pR) (fun _ _ _ => trivial) (fun _ _ _ _ h => h)
              · exact fun _ h => absurd h (by decide)
            · exact ⟨cB (fun r hc => rgo r rfl ⟨rfl, trivial⟩ (rP (pu_pair_var0 (oT rfl) (by exact mA 0 rfl) Tryz.underlying108 y2))) fun r hc => rgo r rfl ⟨rfl, trivial⟩ (rP (pu_pair_var0 (oT rfl) (by exact mA 1 rfl) Tryz.underlying108 y2)), fun _ _ _ _ => rfl⟩
            · exact ⟨cB (fun r hc => rgo r rfl ⟨rfl, trivial⟩ (rP (pu_load_p0 (d := kI) (v := p) (oT rfl) (by exact mA 0 rfl) y2))) fun r hc => rgo r rfl ⟨rfl, trivial⟩ (rP (pu_load_p0 (d := kI) (v := p) (oT rfl) (by exact mA 1 rfl) y2)), fun _ _ _ _ => rfl⟩
            · exact ⟨by intro c r hc; cases c <;> exact rgo r rfl ⟨rfl, trivial⟩ (rop_acts rfl (acts_lit (d := kI) (v0 := 0) y33 y2 zI (show 1 * 1 ≤ 16777216 from by decide) (by decide) (fills_arr rfl rfl (by decide) (oT rfl) fills_nil)) (fun _ _ _ _ h => h)), fun _ _ _ _ => rfl⟩
           case h =>
            intro v7_1 _
            refine oA (acts_append (oT rfl) (by exact pA 0 rfl) (oT rfl) y33 (by (simp; omega)) (by (simp [maxLen]; omega))) (by exact pA 0 rfl) rfl rfl (fun v7_5 _ => ?_)
            refine av rfl rfl (tn (nn (sq (sq (te (ec 1 rfl (ec 3 rfl (ec 4 rfl (ec 11 rfl (ec 15 rfl (ec 16 rfl (ec 24 rfl (ec 25 rfl (ec 26 rfl en))))))))) (rg (mv rfl rfl (mv rfl rfl (oP (pad (oT rfl) ot (by omega)) rfl (oP (pu_eql (oT rfl) (oT rfl)) rfl (tn (nn (tc (oT rfl) (fun c39 => ?_) (fun c39 => ?_))))))))))))))
            · have ht1 : t = r.length + 1 := by simp only [decide_eq_true_eq] at c39; omega
              have hrow : extC r t p = some (r ++ [p.1] ++ [p.2]) := by unfold extC; rw [if_pos ht1]
              refine te (ec 1 rfl (ec 3 rfl (ec 4 rfl (ec 11 rfl (ec 15 rfl (ec 16 rfl (ec 24 rfl (ec 25 rfl (ec 26 rfl en))))))))) (rg (mv rfl rfl (oP (pu_pair_var1 (oT rfl) (by exact mA 1 rfl) Tryz.underlying108 y2) rfl ?_)))
              refine oP (pu_load_p1 (d := kI) (v := p) (oT rfl) (by exact mA 1 rfl) y2) rfl ?_
              refine oA (acts_lit (d := kI) (v0 := 0) y33 y2 zI (show 1 * 1 ≤ 16777216 from by decide) (by decide) (fills_arr rfl rfl (by decide) (oT rfl) fills_nil)) pR rfl rfl (fun _ _ => ?_)
              refine oA (acts_append (oT rfl) (by exact pA 0 rfl) (oT rfl) y33 (by (simp; omega)) (by (simp [maxLen]; omega))) (by exact pA 0 rfl) rfl rfl (fun v9_4 _ => ?_)
              refine av rfl rfl (tn (nn (sq (te (ec 1 rfl (ec 3 rfl (ec 4 rfl (ec 11 rfl (ec 16 rfl (ec 24 rfl (ec 25 rfl (ec 26 rfl en)))))))) (rg (mv rfl rfl (mv rfl rfl (tr_freeze (perm_at 0 rfl) 53 (oT rfl) (oA (acts_callv (oT rfl) (CtV.of [pt g 0] (Rows1_fn (_) g (vi) (nx ++ (x.2.1.take i).filterMap (extC r t)) (by omega)) (by kernel_rfl)) (oc (oT rfl) oN) (perm2_at 1 1 rfl rfl)) (perm2_at 1 1 rfl rfl) rfl rfl (fun v11_2 _ => ?_))))))))))
              refine oP (pu_not (oT rfl)) rfl (tn (nn (tc (oT rfl) (fun c55 => ?_) (fun c55 => ?_))))
              · refine sq (te en (rg (ak rfl (tn (nn (tR (block_ret (tt (tt (block_ret (block_ret (tt ?_))))))))))))
                have hbf := C_false (nx := nx) (t := t) hC1 (i := i) (s := nx ++ (x.2.1.take i).filterMap (extC r t) ++ [_]) (by rw [hst, hrow, Option.toList_some, List.append_assoc]) (by have h9 := c55; simp only [Bool.not_eq_true', decide_eq_false_iff_not] at h9; exact h9)
                exact ret_one .ret (.inl rfl) rfl (v11_2, _) (OT.val (oT rfl) (congrArg Value.bool (hbf))) (fun hq => absurd hbf (by unfold goodN; rw [decide_eq_true hq]; simp)) (by repeat first | exact pn | refine pc 0 rfl ?_)
              · refine sk (bn (nn (te (ec 1 rfl (ec 3 rfl (ec 4 rfl (ec 11 rfl (ec 24 rfl (ec 25 rfl (ec 26 rfl en))))))) (rg (oP (pad (oT rfl) ot (by omega)) rfl (mv rfl rfl (tn (nn ?_))))))))
                exact tg (i + 1, v11_2) ⟨(by show i + 1 ≤ _; omega), (by show (nx ++ (x.2.1.take (i + 1)).filterMap (extC r t)).length ≤ 3000; have h9 := c55; simp only [Bool.not_eq_false', decide_eq_true_eq] at h9; rw [hst, hrow, Option.toList_some, ← List.append_assoc]; simp only [List.length_append, List.length_singleton] at h9 ⊢; omega)⟩ (by show x.2.1.length - (i + 1) < x.2.1.length - i; omega) (ea (ec 26 rfl en) (ec 1 rfl (ec 3 rfl (ec 4 rfl (ec 11 rfl (ec 24 rfl (ec 25 rfl en))))))) (op (by rw [hst, hrow, Option.toList_some, ← List.append_assoc]; exact (by repeat first | exact pn | refine pc 0 rfl ?_)))
            · have ht1 : ¬ t = r.length + 1 := by simp only [decide_eq_false_iff_not] at c39; omega
              refine sq (te (ec 1 rfl (ec 3 rfl (ec 4 rfl (ec 11 rfl (ec 15 rfl (ec 16 rfl (ec 24 rfl (ec 25 rfl (ec 26 rfl en))))))))) ?_)
              apply tr_any (m := 6) (ns := [[(16, none)], [(3, none)], [(45, some 0), (46, some 1)], [(47, some 2)], [(15, none)], [(49, some 4)]]) (by kernel_rfl) (by kernel_rfl) (Ts := [_, _, _, _, _, _]) rfl
              case hops =>
               refine ⟨?_, ?_, ?_, ?_, ?_, ?_, trivial⟩
               · exact rmv rfl
               · exact rmv rfl
               · exact rP (pio (oT rfl) (by exact mA 0 rfl) (oT rfl) Tryz.underlying51 y2 (by omega) (by (simp; omega)))
               · exact rP (plo (oT rfl) (by exact mA 0 rfl) (by omega) (by (simp; omega)) y2)
               · exact rP (pu_pair_var1 (oT rfl) (by exact mA 1 rfl) Tryz.underlying108 y2)
               · exact rP (pu_load_p1 (d := kI) (v := p) (oT rfl) (by exact mA 1 rfl) y2)
              case h =>
               refine oP (pu_neq (oT rfl) (oT rfl)) rfl (tn (nn (tc (oT rfl) (fun c51 => ?_) (fun c51 => ?_))))
               · have hrow : extC r t p = none := by unfold extC; rw [if_neg ht1]; exact if_neg (of_decide_eq_true c51)
                 refine tr_exit (tx (bh (nn (te (ec 1 rfl (ec 3 rfl (ec 4 rfl (ec 11 rfl (ec 24 rfl (ec 25 rfl (ec 26 rfl en))))))) (rg (oP (pad (oT rfl) ot (by omega)) rfl (mv rfl rfl (tn (nn ?_)))))))))
                 exact tg (i + 1, vi) ⟨(by show i + 1 ≤ _; omega), (by show (nx ++ (x.2.1.take (i + 1)).filterMap (extC r t)).length ≤ 3000; rw [hst, hrow, Option.toList_none, List.append_nil]; exact hin)⟩ (by show x.2.1.length - (i + 1) < x.2.1.length - i; omega) (ea (ec 26 rfl en) (ec 1 rfl (ec 3 rfl (ec 4 rfl (ec 11 rfl (ec 24 rfl (ec 25 rfl en))))))) (op (by rw [hst, hrow, Option.toList_none, List.append_nil]; exact (by repeat first | exact pn | refine pc 2 rfl ?_)))
               · have hrow : extC r t p = some (r ++ [p.1]) := by unfold extC; rw [if_neg ht1]; exact if_pos (Classical.not_not.1 (of_decide_eq_false c51))
                 refine sk (nn (sq (te (ec 1 rfl (ec 3 rfl (ec 4 rfl (ec 11 rfl (ec 16 rfl (ec 24 rfl (ec 25 rfl (ec 26 rfl en)))))))) (rg (mv rfl rfl (mv rfl rfl (tr_freeze (perm_at 0 rfl) 53 (oT rfl) (oA (acts_callv (oT rfl) (CtV.of [pt g 0] (Rows1_fn (_) g (vi) (nx ++ (x.2.1.take i).filterMap (extC r t)) (by omega)) (by kernel_rfl)) (oc (oT rfl) oN) (perm2_at 1 1 rfl rfl)) (perm2_at 1 1 rfl rfl) rfl rfl (fun v11_2 _ => ?_)))))))))
                 refine oP (pu_not (oT rfl)) rfl (tn (nn (tc (oT rfl) (fun c55 => ?_) (fun c55 => ?_))))
                 · refine sq (te en (rg (ak rfl (tn (nn (tR (block_ret (tt (tt (block_ret (block_ret (tt ?_))))))))))))
                   have hbf := C_false (nx := nx) (t := t) hC1 (i := i) (s := nx ++ (x.2.1.take i).filterMap (extC r t) ++ [_]) (by rw [hst, hrow, Option.toList_some, List.append_assoc]) (by have h9 := c55; simp only [Bool.not_eq_true', decide_eq_false_iff_not] at h9; exact h9)
                   exact ret_one .ret (.inl rfl) rfl (v11_2, _) (OT.val (oT rfl) (congrArg Value.bool (hbf))) (fun hq => absurd hbf (by unfold goodN; rw [decide_eq_true hq]; simp)) (by repeat first | exact pn | refine pc 0 rfl ?_)
                 · refine sk (bn (nn (te (ec 1 rfl (ec 3 rfl (ec 4 rfl (ec 11 rfl (ec 24 rfl (ec 25 rfl (ec 26 rfl en))))))) (rg (oP (pad (oT rfl) ot (by omega)) rfl (mv rfl rfl (tn (nn ?_))))))))
                   exact tg (i + 1, v11_2) ⟨(by show i + 1 ≤ _; omega), (by show (nx ++ (x.2.1.take (i + 1)).filterMap (extC r t)).length ≤ 3000; have h9 := c55; simp only [Bool.not_eq_false', decide_eq_true_eq] at h9; rw [hst, hrow, Option.toList_some, ← List.append_assoc]; simp only [List.length_append, List.length_singleton] at h9 ⊢; omega)⟩ (by show x.2.1.length - (i + 1) < x.2.1.length - i; omega) (ea (ec 26 rfl en) (ec 1 rfl (ec 3 rfl (ec 4 rfl (ec 11 rfl (ec 24 rfl (ec 25 rfl en))))))) (op (by rw [hst, hrow, Option.toList_some, ← List.append_assoc]; exact (by repeat first | exact pn | refine pc 0 rfl ?_)))
         · refine tr_exit (tx (tx (bh (bn (nn (sq (te en (rg (ak rfl (tn (nn (tR ?_))))))))))))
           obtain rfl : i = x.2.1.length := by simp only [decide_eq_false_iff_not] at c27; omega
           exact ret_one .ret (.inl rfl) rfl (vi, nx ++ (x.2.1.take x.2.1.length).filterMap (extC r t)) (OT.val (oT rfl) (congrArg Value.bool (C_true hC1 (by rw [List.take_length] at hin; exact hin)))) (fun _ => by show nx ++ _ = nx ++ ext (some x) r f t; rw [ext_C hC1, List.take_length]) (by repeat first | exact pn | refine pc 0 rfl ?_)
end Go.Proofs.YtklhdalppmjnaaaGreatDoor
/- Rows' loops: steps. Plain Lean. -/
namespace Go.Jn
open Go Go.Gw Go.Tu Go.Proofs.YtklhdalppmjnaaaGreatDoor
set_option linter.unusedVariables false
set_option linter.unusedSimpArgs false
theorem optM_lkp (lab : Lab) (m : List (Lab × Ix)) : (lkp lab (optM m)).getD none = lkp lab m := by
 unfold optM
 rw [lkp_map (fun x : Ix => some x)]
 cases lkp lab m <;> rfl
theorem flat_snoc {α β : Type} [Inhabited α] {l : List α} (f : α → List β) {k : Nat} (h : k < l.length) : (l.take (k + 1)).flatMap f = (l.take k).flatMap f ++ f (at' l (k : Int)) := by
 rw [at'_nat h, List.take_succ_eq_append_getElem h, List.flatMap_append]; simp
theorem flat_take_le {α β : Type} (f : α → List β) (l : List α) (k : Nat) : ((l.take k).flatMap f).length ≤ (l.flatMap f).length := by
 have h := List.take_append_drop k l
 have h2 : (l.flatMap f).length = ((l.take k).flatMap f).length + ((l.drop k).flatMap f).length := by
  conv => lhs; rw [← h]
  rw [List.flatMap_append, List.length_append]
 omega
theorem rows_take {m : List (Lab × Ix)} {V : List Lab} {al : List Atm} {k : Nat} (h : k < al.length) : rowsK m V (al.take (k + 1)) = stepR m V (rowsK m V (al.take k)) (at' al (k : Int)) := by
 rw [at'_nat h, List.take_succ_eq_append_getElem h, rowsK_snoc]
theorem rows_len (l : List Ed) {al : List Atm} {k : Nat} {r : Tp} (h : r ∈ rowsK (byLab l) (varsL al) (al.take k)) : r.length = (varsL (al.take k)).length := (((rows_spec l (al.take k) (varsL_take al k)).2 r).1 h).1
theorem rows_lies {al : List Atm} {k : Nat} {a : Atm} (h : k < al.length) (ha : at' al (k : Int) = a) : Lies (varsL (al.take k)).length (varsL (al.take (k + 1))).length (ix (varsL al) a.1) (ix (varsL al) a.2.2) := by
 have h1 := varsL_at h
 rw [ha] at h1
 exact lies (varsL_nodup _) h1 (varsL_take al (k + 1))
theorem atom_vars {al : List Atm} {k : Nat} {a : Atm} (h : k < al.length) (ha : at' al (k : Int) = a) : ixI (varsL al) a.1 = (ix (varsL al) a.1 : Int) ∧ ixI (varsL al) a.2.2 = (ix (varsL al) a.2.2 : Int) := by
 rw [at'_nat h] at ha
 have hm : a ∈ al := ha ▸ List.getElem_mem h
 exact ⟨ixI_in (varsL_mem.2 ⟨a, hm, .inl rfl⟩), ixI_in (varsL_mem.2 ⟨a, hm, .inr rfl⟩)⟩
theorem idx_small (l : List Ed) (hl : l.length ≤ 1000000) (lab : Lab) : ∀ x, lkp lab (byLab l) = some x → x.2.1.length ≤ 1000000 ∧ ∀ n, ((lkp n x.1).getD []).length ≤ 1000000 := by
 intro x hx
 obtain ⟨h, _⟩ := byLab_ok l lab
 rw [hx] at h
 simp only [Option.getD_some] at h
 have h1 := prs_len l lab
 have h2 := h.al
 refine ⟨by omega, fun n => ?_⟩
 have h3 := h.fl n
 omega
theorem at_mem {α : Type} [Inhabited α] {l : List α} {k : Nat} (h : k < l.length) : at' l (k : Int) ∈ l := by rw [at'_nat h]; exact List.getElem_mem h
theorem okV_pat {v : Vw} (h : (!okV v) = false) : okV v = true ∧ v.2.2.1.length ≤ 6 ∧ 1 ≤ v.2.2.2.1.length ∧ v.2.2.2.1.length ≤ 8 := by
 have h1 : okV v = true := by simpa using h
 refine ⟨h1, ?_⟩
 unfold okV patB at h1
 simp only [Bool.and_eq_true, decide_eq_true_eq] at h1
 omega
theorem rows_all_len (l : List Ed) {al : List Atm} (h8 : al.length ≤ 8) (k : Nat) : ∀ r ∈ rowsK (byLab l) (varsL al) (al.take k), r.length ≤ 16 := by
 intro r hr
 have h1 := rows_len l hr
 have h2 := varsL_len (al.take k)
 rw [List.length_take] at h2
 omega
theorem caps0 {m : List (Lab × Ix)} {V : List Lab} {al : List Atm} : ∀ j, j ≤ 0 → (rowsK m V (al.take j)).length ≤ 3000 := fun j hj => by
 obtain rfl : j = 0 := by omega
 show 1 ≤ 3000; omega
theorem caps_next {m : List (Lab × Ix)} {V : List Lab} {al : List Atm} {k : Nat} (h : ∀ j, j ≤ k → (rowsK m V (al.take j)).length ≤ 3000) (h1 : (rowsK m V (al.take (k + 1))).length ≤ 3000) : ∀ j, j ≤ k + 1 → (rowsK m V (al.take j)).length ≤ 3000 := fun j hj => by
 rcases Nat.lt_or_ge j (k + 1) with h2 | h2
 · exact h j (by omega)
 · obtain rfl : j = k + 1 := by omega
   exact h1
theorem many_at {l : List Ed} {al : List Atm} {k i : Nat} {a : Atm} {rows : List Tp} {r : Tp} (hk : k < al.length) (ha : at' al (k : Int) = a) (hr : rowsK (byLab l) (varsL al) (al.take k) = rows) (hi : i < rows.length) (hrr : at' rows (i : Int) = r)
 (h : ¬ ((rows.take i).flatMap (fun r => ext (lkp a.2.1 (byLab l)) r (ix (varsL al) a.1) (ix (varsL al) a.2.2))).length + (ext (lkp a.2.1 (byLab l)) r (ix (varsL al) a.1) (ix (varsL al) a.2.2)).length ≤ 3000) : tooMany l al := by
 refine ⟨k + 1, hk, ?_⟩
 rw [rows_take hk, ha, hr]
 unfold stepR
 have h1 := flat_take_le (fun r => ext (lkp a.2.1 (byLab l)) r (ix (varsL al) a.1) (ix (varsL al) a.2.2)) rows (i + 1)
 have h2 := flat_snoc (fun r => ext (lkp a.2.1 (byLab l)) r (ix (varsL al) a.1) (ix (varsL al) a.2.2)) hi
 rw [hrr] at h2
 rw [h2, List.length_append] at h1
 omega
theorem not_many {l : List Ed} {al : List Atm} (h : ∀ j, j ≤ al.length → (rowsK (byLab l) (varsL al) (al.take j)).length ≤ 3000) : ¬ tooMany l al := by
 rintro ⟨k, hk, h1⟩
 have := h k hk
 omega
end Go.Jn
/- Walks through the Go functions join.Rows, as typed contracts. -/
namespace Go.Proofs.YtklhdalppmjnaaaGreatDoor
open Go Go.Gw Go.So Go.Tu Go.Jn
set_option linter.unusedVariables false
set_option linter.unusedSimpArgs false

set_option maxRecDepth 20000 in
/-- rhizome/join.Rows -/
theorem Rows_fn (v : Vw) (l : List Ed) (ho : v.2.2.1.length ≤ maxLen) (ha : v.2.2.2.1.length ≤ maxLen) (hm : l.length ≤ 1000000) : Ct Tryz.prog 61 [kV.T v, SlT kE l] ([]) (List Tp × Int) (fun r => TupT [SlT kT r.1, I64 r.2]) (fun _ => []) (fun r => RowsSay v l r) := by
 refine fn_intro Tryz.func61 rfl rfl ?_
 intro H w
 have ho0 := ho; have ha0 := ha; unfold maxLen at ho ha
 refine sq (te (ec 0 rfl (ec 1 rfl en)) (rg (oA (acts_box (d := kV) (oT rfl)) pR rfl rfl (fun g0_0 _ => ?_))))
 refine ak rfl (ak rfl (tn (nn (sq (sq (te (ec 1 rfl (ec 2 rfl en)) (rg (oP (plv (oT rfl) (by exact mA 0 rfl) y58) rfl ?_))))))))
 refine oA (aC (bad_fn _ ho0 ha0) y74 (oc (oT rfl) oN) pR) pR rfl rfl (fun _ _ => ?_)
 refine tn (nn (tc (oT rfl) (fun c16 => ?_) (fun c16 => ?_)))
 · refine sq (te en (rg (ak rfl (ak rfl (tn (nn (tR (tt ?_))))))))
   exact ret_two .ret (.inl rfl) rfl ([], 1) (OT.conv (oT rfl) (fun H u h => nil_slt h)) (oT rfl) (fun _ _ h => h) (.inl ⟨by simpa using c16, rfl⟩) (by exact pn)
 · obtain ⟨hok, hol, hal1, hal8⟩ := okV_pat c16
   refine sk (nn (sq (te (ec 1 rfl (ec 2 rfl en)) (rg (oP (plv (oT rfl) (by exact mA 0 rfl) y58) rfl ?_)))))
   refine oA (aC (Vars_fn _ (by omega)) y59 (oc (oT rfl) oN) pR) pR rfl rfl (fun _ _ => ?_)
   refine mv rfl rfl (oA (aC (byLabel_fn _ (by omega)) y75 (oc (oT rfl) oN) pR) pR rfl rfl (fun _ _ => ?_))
   refine av rfl rfl (av rfl rfl (tn (nn (sq (te (ec 2 rfl (ec 6 rfl (ec 7 rfl en))) (rg (oA (acts_lit (d := kT) (v0 := []) y29 y0 zT (show 1 * 1 ≤ 16777216 from by decide) (by decide) (fills_arr rfl rfl (by decide) (OT.conv ot (fun H u h => nil_slt h)) fills_nil)) pR rfl rfl (fun _ _ => ?_))))))))
   refine av rfl rfl (tn (tr_as 8 (T := SlT kT (rowsK (byLab l) (varsL v.2.2.2.1) (v.2.2.2.1.take 0))) (OT.eq (oT rfl) rfl) (nn (sq (sq (te (ec 2 rfl (ec 6 rfl (ec 7 rfl (ec 8 rfl en)))) (rg (oP (pf (oT rfl) y43) rfl (oP (plb (oT rfl) (by exact mA 0 rfl) lv3 y44) rfl ?_)))))))))
   refine oP (pls (oT rfl) Tryz.underlying23) rfl (oP (pu_move ot) rfl (tn (nn (tb (tr_loopK (σ := Nat) (ec 6 rfl (ec 7 rfl (ec 23 rfl (ec 24 rfl en)))) (fun k => [(25, I64 (k : Int)), (8, SlT kT (rowsK (byLab l) (varsL v.2.2.2.1) (v.2.2.2.1.take k)))]) (fun k => [BlkI g0_0 25 kV v]) (fun k => k ≤ v.2.2.2.1.length ∧ ∀ j, j ≤ k → (rowsK (byLab l) (varsL v.2.2.2.1) (v.2.2.2.1.take j)).length ≤ 3000) (fun k => v.2.2.2.1.length - k) 0 ⟨Nat.zero_le _, caps0⟩ ?_ (op (by repeat first | exact pn | refine pc 0 rfl ?_)) ?_)))))
   · exact (ec 25 rfl (ec 8 rfl en))
   · rintro k ⟨hk, hcaps⟩
     refine sq (te (ec 6 rfl (ec 7 rfl (ec 8 rfl (ec 23 rfl (ec 24 rfl (ec 25 rfl en)))))) (rg (oP (pu_lss (oT rfl) (oT rfl)) rfl (tn (nn (sq (tc (oT rfl) (fun c26 => ?_) (fun c26 => ?_))))))))
     · refine sk (nn (sq (tb (sq (te (ec 6 rfl (ec 7 rfl (ec 8 rfl (ec 23 rfl (ec 24 rfl (ec 25 rfl en)))))) ?_)))))
       have hka : k < v.2.2.2.1.length := by simpa using c26
       obtain ⟨a, haa⟩ : ∃ a, at' v.2.2.2.1 (k : Int) = a := ⟨_, rfl⟩
       obtain ⟨rows, hrows⟩ : ∃ rows, rowsK (byLab l) (varsL v.2.2.2.1) (v.2.2.2.1.take k) = rows := ⟨_, rfl⟩
       have hlies := rows_lies hka haa
       obtain ⟨hix1, hix2⟩ := atom_vars hka haa
       have hvl := varsL_len v.2.2.2.1
       have hcap := hcaps k (Nat.le_refl k)
       rw [hrows] at hcap ⊢
       refine rg (oP (pu_index (oT rfl) (oT rfl) Tryz.underlying23 y45 (by omega) (by omega)) rfl (oP (pL (oT rfl) y45) rfl (oA (acts_alloc (zA)) pR rfl rfl (fun g7_2 _ => ?_))))
       refine oA (asv (oT rfl) (oT rfl) (by exact pA 0 rfl) y45) (by exact pA 0 rfl) rfl rfl (fun _ _ => ?_)
       refine tn (nn (sq (te (ec 6 rfl (ec 7 rfl (ec 8 rfl (ec 10 rfl (ec 23 rfl (ec 24 rfl (ec 25 rfl en))))))) ?_)))
       rw [haa]
       refine rg (oA (acts_alloc zr) pR rfl rfl (fun g8_0 _ => ?_))
       refine tn (tr_nilItem 51 kT (nn (sq (te (ec 6 rfl (ec 7 rfl (ec 8 rfl (ec 10 rfl (ec 11 rfl (ec 23 rfl (ec 24 rfl (ec 25 rfl en)))))))) (rg (oP (pu_makeFunc (caps_cons (oT rfl) caps_nil)) rfl (av rfl rfl (tn (nn (sq (sq (te (ec 6 rfl (ec 7 rfl (ec 8 rfl (ec 10 rfl (ec 11 rfl (ec 12 rfl (ec 23 rfl (ec 24 rfl (ec 25 rfl en))))))))) (rg (mv rfl rfl (oP (pls (oT rfl) Tryz.underlying36) rfl (oP (pu_move ot) rfl (tn (nn (tb (tr_loopK (σ := Nat × Value) (ec 6 rfl (ec 7 rfl (ec 10 rfl (ec 11 rfl (ec 12 rfl (ec 23 rfl (ec 24 rfl (ec 25 rfl (ec 30 rfl (ec 31 rfl en)))))))))) (fun s => [(32, I64 (s.1 : Int))]) (fun s => [BlkI g8_0 36 kraw s.2, OwnI 51 kT s.2 ((rows.take s.1).flatMap (fun r => ext (lkp a.2.1 (byLab l)) r (ix (varsL v.2.2.2.1) a.1) (ix (varsL v.2.2.2.1) a.2.2))), BlkI g7_2 49 kA a, BlkI g0_0 25 kV v]) (fun s => s.1 ≤ rows.length ∧ ((rows.take s.1).flatMap (fun r => ext (lkp a.2.1 (byLab l)) r (ix (varsL v.2.2.2.1) a.1) (ix (varsL v.2.2.2.1) a.2.2))).length ≤ 3000) (fun s => rows.length - s.1) (0, nilS) ⟨Nat.zero_le _, by simp⟩ ?_ (op (by repeat first | exact pn | refine pc 0 rfl ?_ | refine pc 1 rfl ?_)) ?_))))))))))))))))))))
       · exact (ec 32 rfl en)
       · rintro ⟨i, vi⟩ ⟨hi, hin⟩
         dsimp only at hi hin ⊢
         refine sq (te (ec 6 rfl (ec 7 rfl (ec 10 rfl (ec 11 rfl (ec 12 rfl (ec 23 rfl (ec 24 rfl (ec 25 rfl (ec 30 rfl (ec 31 rfl (ec 32 rfl en))))))))))) (rg (oP (pu_lss (oT rfl) (oT rfl)) rfl (tn (nn (sq (tc (oT rfl) (fun c33 => ?_) (fun c33 => ?_))))))))
         · refine sk (nn (sq (tb (sq (te (ec 6 rfl (ec 7 rfl (ec 10 rfl (ec 11 rfl (ec 12 rfl (ec 23 rfl (ec 24 rfl (ec 25 rfl (ec 30 rfl (ec 31 rfl (ec 32 rfl en))))))))))) ?_)))))
           have hir : i < rows.length := by simpa using c33
           obtain ⟨r, hrr⟩ : ∃ r, at' rows (i : Int) = r := ⟨_, rfl⟩
           have hrl : r.length = _ := rows_len l (k := k) (al := v.2.2.2.1) (by rw [hrows, ← hrr]; exact at_mem hir)
           have hvlk := varsL_len (v.2.2.2.1.take k)
           rw [List.length_take] at hvlk
           have hst := flat_snoc (fun r => ext (lkp a.2.1 (byLab l)) r (ix (varsL v.2.2.2.1) a.1) (ix (varsL v.2.2.2.1) a.2.2)) hir
           rw [hrr] at hst
           rw [← hrl] at hlies
           have hl1 := hlies.f1
           have hl2 := hlies.t1
           have hl3 := hlies.t2
           refine rg (oP (pu_index (oT rfl) (oT rfl) Tryz.underlying36 y0 (by omega) (by omega)) rfl (oP (pL (oT rfl) y0) rfl (av rfl rfl (tn (nn (sq (te (ec 6 rfl (ec 7 rfl (ec 10 rfl (ec 11 rfl (ec 12 rfl (ec 14 rfl (ec 23 rfl (ec 24 rfl (ec 25 rfl (ec 30 rfl (ec 31 rfl (ec 32 rfl en)))))))))))) ?_)))))))
           rw [hrr]
           apply tr_any (m := 14) (ns := [[(7, none)], [(10, none)], [(37, some 1)], [(36, some 0), (38, some 2)], [(14, none)], [(6, none)], [(10, none)], [(42, some 6)], [(41, some 5), (43, some 7)], [(6, none)], [(10, none)], [(46, some 10)], [(45, some 9), (47, some 11)], [(12, none)]]) (by kernel_rfl) (by kernel_rfl) (Ts := [_, _, _, _, _, _, _, _, _, _, _, _, _, _]) rfl
           case hops =>
            refine ⟨?_, ?_, ?_, ?_, ?_, ?_, ?_, ?_, ?_, ?_, ?_, ?_, ?_, ?_, trivial⟩
            · exact rmv rfl
            · exact rP (pf (oT rfl) y57)
            · exact rP (plb (oT rfl) (by exact mA 2 rfl) la1 y40)
            · exact rP (pu_lookup mkS Tryz.underlying168 zPt (oT rfl) (oT rfl))
            · exact rmv rfl
            · exact rmv rfl
            · exact rP (pf (oT rfl) y46)
            · exact rP (plb (oT rfl) (by exact mA 2 rfl) la0 y40)
            · exact rop_acts rfl (aC (IndexS_fn _ _ (by omega)) y41 (oc (oT rfl) (oc (oT rfl) oN)) pR) (fun _ _ _ _ h => h)
            · exact rmv rfl
            · exact rP (pf (oT rfl) y47)
            · exact rP (plb (oT rfl) (by exact mA 2 rfl) la2 y40)
            · exact rop_acts rfl (aC (IndexS_fn _ _ (by omega)) y41 (oc (oT rfl) (oc (oT rfl) oN)) pR) (fun _ _ _ _ h => h)
            · exact rmv rfl
           case h =>
            rw [optM_lkp, hix1, hix2]
            refine oA (aC (extend_fn (lkp a.2.1 (byLab l)) r (ix (varsL v.2.2.2.1) a.1) (ix (varsL v.2.2.2.1) a.2.2) g8_0 vi ((rows.take i).flatMap (fun r => ext (lkp a.2.1 (byLab l)) r (ix (varsL v.2.2.2.1) a.1) (ix (varsL v.2.2.2.1) a.2.2))) hl1 hl2 hl3 (by omega) (by omega) (idx_small l (by omega) a.2.1)) y76 (oc (oT rfl) (oc (oT rfl) (oc (oT rfl) (oc (oT rfl) (oc (oT rfl) oN))))) (perm2_at 0 0 rfl rfl)) (perm2_at 0 0 rfl rfl) rfl rfl (fun p hp => ?_)
            refine oP (pu_not (oT rfl)) rfl (tn (nn (tc (oT rfl) (fun c51 => ?_) (fun c51 => ?_))))
            · have hg : ¬ ((rows.take i).flatMap (fun r => ext (lkp a.2.1 (byLab l)) r (ix (varsL v.2.2.2.1) a.1) (ix (varsL v.2.2.2.1) a.2.2))).length + ((fun r => ext (lkp a.2.1 (byLab l)) r (ix (varsL v.2.2.2.1) a.1) (ix (varsL v.2.2.2.1) a.2.2)) r).length ≤ 3000 := by simpa [goodN] using c51
              refine sq (te en (rg (ak rfl (ak rfl (tn (nn (tR (block_ret (tt (tt (block_ret (tt (block_ret (tt (tt (block_ret (tt ?_)))))))))))))))))
              exact ret_two .ret (.inl rfl) rfl ([], 5) (OT.conv (oT rfl) (fun H u h => nil_slt h)) (oT rfl) (fun _ _ h => h) (.inr (.inl ⟨hok, many_at hka haa hrows hir hrr hg, rfl⟩)) (by exact pn)
            · have hg : ((rows.take i).flatMap (fun r => ext (lkp a.2.1 (byLab l)) r (ix (varsL v.2.2.2.1) a.1) (ix (varsL v.2.2.2.1) a.2.2))).length + ((fun r => ext (lkp a.2.1 (byLab l)) r (ix (varsL v.2.2.2.1) a.1) (ix (varsL v.2.2.2.1) a.2.2)) r).length ≤ 3000 := by simpa [goodN] using c51
              refine sk (bn (nn (te (ec 6 rfl (ec 7 rfl (ec 10 rfl (ec 11 rfl (ec 12 rfl (ec 23 rfl (ec 24 rfl (ec 25 rfl (ec 30 rfl (ec 31 rfl (ec 32 rfl en))))))))))) (rg (oP (pad (oT rfl) ot (by omega)) rfl (mv rfl rfl (tn (nn ?_))))))))
              exact tg (i + 1, p.1) ⟨by show i + 1 ≤ rows.length; omega, by rw [hst, List.length_append]; exact hg⟩ (by show rows.length - (i + 1) < rows.length - i; omega) (ea (ec 32 rfl en) (ec 6 rfl (ec 7 rfl (ec 10 rfl (ec 11 rfl (ec 12 rfl (ec 23 rfl (ec 24 rfl (ec 25 rfl (ec 30 rfl (ec 31 rfl en))))))))))) (op (by rw [hst, ← hp hg]; exact (by repeat first | exact pn | refine pc 0 rfl ?_)))
         · refine tr_exit (tx (tx (bh (nn (te (ec 6 rfl (ec 7 rfl (ec 11 rfl (ec 23 rfl (ec 24 rfl (ec 25 rfl en)))))) ?_)))))
           obtain rfl : i = rows.length := by simp only [decide_eq_false_iff_not] at c33; omega
           rw [List.take_length] at hin ⊢
           have hnx : rowsK (byLab l) (varsL v.2.2.2.1) (v.2.2.2.1.take (k + 1)) = rows.flatMap (fun r => ext (lkp a.2.1 (byLab l)) r (ix (varsL v.2.2.2.1) a.1) (ix (varsL v.2.2.2.1) a.2.2)) := by rw [rows_take hka, haa, hrows]; rfl
           refine rg (oP (pu_load_rawv (oT rfl) (by exact mA 0 rfl) y25) rfl ?_)
           refine av rfl rfl (tn (tr_freeze (perm_at 1 rfl) 8 (oT rfl) (bn (nn (te (ec 6 rfl (ec 7 rfl (ec 8 rfl (ec 23 rfl (ec 24 rfl (ec 25 rfl en)))))) (rg (oP (pad (oT rfl) ot (by omega)) rfl (mv rfl rfl (tn (nn ?_))))))))))
           exact tg (k + 1) ⟨by omega, caps_next hcaps (by rw [hnx]; exact hin)⟩ (by omega) (ea (ec 25 rfl (es_cons (t := 8) (OT.eq (oT rfl) (congrArg (SlT kT) hnx.symm)) en)) (ec 6 rfl (ec 7 rfl (ec 23 rfl (ec 24 rfl en))))) (op (by repeat first | exact pn | refine pc 2 rfl ?_))
     · refine tr_exit (tx (tx (bh (nn (sq (te (ec 8 rfl en) ?_))))))
       obtain rfl : k = v.2.2.2.1.length := by simp only [decide_eq_false_iff_not] at c26; omega
       have hsm : Small (rowsK (byLab l) (varsL v.2.2.2.1) v.2.2.2.1) := ⟨by have := hcaps _ (Nat.le_refl _); rw [List.take_length] at this; omega, fun r hr => by have := rows_all_len l hal8 v.2.2.2.1.length r (by rw [List.take_length]; exact hr); omega⟩
       rw [List.take_length]
       refine rg (mv rfl rfl (oA (acts_callM (Set_fn (K0 := noK) (n0 := 0) _ hsm) mk_none y77 (oc (oT rfl) oN) pR) pR rfl rfl (fun _ _ => ?_)))
       refine av rfl rfl (ak rfl (tn (nn (tR ?_))))
       exact ret_two .ret (.inl rfl) rfl (setR (rowsK (byLab l) (varsL v.2.2.2.1) v.2.2.2.1), 0) (OT.unfr2 (oT rfl)) (oT rfl) (fun _ _ h => h) (.inr (.inr ⟨hok, not_many hcaps, rfl⟩)) (by exact pn)
end Go.Proofs.YtklhdalppmjnaaaGreatDoor
/- How often each tuple comes in a list that rises. Plain Lean. -/
namespace Go.Jn
open Go Go.Gw Go.Tu
set_option linter.unusedVariables false
set_option linter.unusedSimpArgs false
abbrev SortL (xs : List Tp) : Prop := xs.Pairwise fun x y => cmpL x y ≤ 0
def cntL (xs : List Tp) : List Int := (dd xs).map fun t => (xs.count t : Int)
theorem cntL_len (xs : List Tp) : (cntL xs).length = (dd xs).length := by unfold cntL; rw [List.length_map]
section
variable {xs : List Tp} {k : Nat}
theorem sort_at (hs : SortL xs) {i j : Nat} (hi : i < j) (hj : j < xs.length) : cmpL (at' xs (i : Int)) (at' xs (j : Int)) ≤ 0 := by
 rw [at'_nat (show i < xs.length by omega), at'_nat hj]
 exact List.pairwise_iff_getElem.1 hs i j (by omega) hj hi
theorem cmp_anti {a b : Tp} (h1 : cmpL a b ≤ 0) (h2 : cmpL b a ≤ 0) : a = b := by
 have := cmp_neg a b
 exact cmp_eq.1 (by omega)
theorem sort_take (hs : SortL xs) (k : Nat) : SortL (xs.take k) := hs.sublist (List.take_sublist _ _)
theorem dd_nodup (hs : SortL xs) : (dd xs).Nodup := (dd_rises hs).imp fun {a b} h e => by subst e; rw [cmp_self] at h; omega
theorem prev_at (h : k + 1 < xs.length) : at' xs (((k + 1 : Nat) : Int) - 1) = at' xs (k : Int) := by congr 1; omega
theorem dd_last : ∀ {k : Nat}, k < xs.length → dd (xs.take (k + 1)) ≠ [] ∧ at' (dd (xs.take (k + 1))) (((dd (xs.take (k + 1))).length : Int) - 1) = at' xs (k : Int)
 | 0, h => by
  have e : xs.take (0 + 1) = [at' xs ((0 : Nat) : Int)] := by rw [at'_nat h, List.take_succ_eq_append_getElem h]; simp
  rw [e, dd_one (by simp)]
  exact ⟨by simp, rfl⟩
 | k + 1, h => by
  obtain ⟨h1, h2⟩ := dd_last (k := k) (by omega)
  have hst := dd_step (xs := xs) (m := k + 1) (by omega) h
  rw [prev_at h] at hst
  split at hst
  · rename_i he
    rw [hst]; exact ⟨h1, h2.trans he⟩
  · rw [hst]
    refine ⟨by simp, ?_⟩
    rw [List.length_append, List.length_singleton]
    have e : (((dd (xs.take (k + 1))).length + 1 : Nat) : Int) - 1 = ((dd (xs.take (k + 1))).length : Int) := by omega
    rw [e, at'_nat (by simp)]
    simp
theorem count_take {t : Tp} (h : k < xs.length) : (xs.take (k + 1)).count t = (xs.take k).count t + if at' xs (k : Int) = t then 1 else 0 := by
 rw [at'_nat h, List.take_succ_eq_append_getElem h, List.count_append]
 congr 1
 rw [List.count_singleton]
 simp
theorem cnt_new (hs : SortL xs) (h : k < xs.length) (hne : k = 0 ∨ at' xs ((k : Int) - 1) ≠ at' xs (k : Int)) : dd (xs.take (k + 1)) = dd (xs.take k) ++ [at' xs (k : Int)] ∧ cntL (xs.take (k + 1)) = cntL (xs.take k) ++ [1] := by
 have hno : at' xs (k : Int) ∉ xs.take k := by
  intro hm
  obtain ⟨i, hi, he⟩ := List.getElem_of_mem hm
  rw [List.length_take] at hi
  have hik : i < k := by omega
  have he2 : at' xs (i : Int) = at' xs (k : Int) := by
   rw [List.getElem_take] at he
   rw [at'_nat (show i < xs.length by omega)]; exact he
  rcases hne with h0 | h0
  · omega
  · have e1 : ((k : Int) - 1) = ((k - 1 : Nat) : Int) := by omega
    rw [e1] at h0
    refine h0 (cmp_anti (sort_at hs (by omega) h) ?_)
    rcases Nat.lt_or_ge i (k - 1) with h1 | h1
    · rw [← he2]; exact sort_at hs h1 (by omega)
    · have : i = k - 1 := by omega
      subst this
      rw [← he2, cmp_self]; exact Int.le_refl _
 have hdd : dd (xs.take (k + 1)) = dd (xs.take k) ++ [at' xs (k : Int)] := by
  rcases Nat.eq_zero_or_pos k with h0 | h0
  · subst h0
    rw [at'_nat h, List.take_succ_eq_append_getElem h]
    simp only [List.take_zero, List.nil_append]
    rw [dd_one (by simp)]; rfl
  · have hst := dd_step (xs := xs) (m := k) h0 h
    rw [if_neg (hne.resolve_left (by omega))] at hst
    exact hst
 refine ⟨hdd, ?_⟩
 unfold cntL
 rw [hdd, List.map_append]
 have c0 : (xs.take k).count (at' xs (k : Int)) = 0 := List.count_eq_zero.2 hno
 congr 1
 · refine List.map_congr_left fun t ht => ?_
   rw [count_take h, if_neg (show ¬ at' xs (k : Int) = t from fun e => hno (by rw [e]; exact dd_mem.1 ht))]; rfl
 · simp [count_take h, c0]
theorem cnt_same (hs : SortL xs) (h : k + 1 < xs.length) (he : at' xs (k : Int) = at' xs ((k + 1 : Nat) : Int)) : dd (xs.take (k + 1 + 1)) = dd (xs.take (k + 1)) ∧
 cntL (xs.take (k + 1 + 1)) = (cntL (xs.take (k + 1))).set ((dd (xs.take (k + 1))).length - 1) (at' (cntL (xs.take (k + 1))) (((dd (xs.take (k + 1))).length : Int) - 1) + 1) := by
 have hst := dd_step (xs := xs) (m := k + 1) (by omega) h
 rw [prev_at h, if_pos he] at hst
 refine ⟨hst, ?_⟩
 obtain ⟨hn, hl⟩ := dd_last (xs := xs) (k := k) (by omega)
 have hnd := dd_nodup (sort_take hs (k + 1))
 unfold cntL
 rw [hst]
 generalize hD : dd (xs.take (k + 1)) = D at hn hl hnd
 have hlen : 0 < D.length := by cases D with
  | nil => exact absurd rfl hn
  | cons a l => simp
 have hi : ((D.length : Int) - 1) = ((D.length - 1 : Nat) : Int) := by omega
 rw [hi] at hl ⊢
 have hlt : D.length - 1 < D.length := by omega
 rw [at'_nat hlt] at hl
 rw [at'_nat (by rw [List.length_map]; exact hlt), List.getElem_map]
 apply List.ext_getElem
 · simp
 · intro i h1 h2
   rw [List.length_map] at h1
   rw [List.getElem_map, count_take h, List.getElem_set]
   by_cases hii : D.length - 1 = i
   · subst hii
     rw [if_pos rfl, if_pos (by rw [← he, hl])]
     omega
   · rw [if_neg hii, if_neg, List.getElem_map]
     · simp
     · intro e
       rw [← he, ← hl] at e
       exact hii ((List.getElem_inj hnd).1 e)
end
theorem cntL_all {all rs : List Tp} (hp : rs.Perm all) (hs : SortL rs) : dd rs = setR all ∧ cntL rs = countsOf all := by
 have h1 := dd_set hp hs
 refine ⟨h1, ?_⟩
 unfold cntL countsOf
 rw [h1]
 exact List.map_congr_left fun t _ => by rw [hp.count_eq]
theorem setR_idem (l : List Tp) : setR (setR l) = setR l := (setR_unique (setR_spec l).1 fun x => Iff.rfl).symm
end Go.Jn
namespace Go.Jn
open Go Go.Gw Go.Tu
theorem res_err {v : Vw} {l : List Ed} {r : List Tp × Int} (h : RowsSay v l r) (h0 : r.2 ≠ 0) : ResSay v l ([], [], r.2) := by
 rcases h with ⟨h1, rfl⟩ | ⟨h1, h2, rfl⟩ | ⟨h1, h2, rfl⟩
 · exact .inl ⟨h1, rfl⟩
 · exact .inr (.inl ⟨h1, h2, rfl⟩)
 · exact absurd rfl h0
theorem rows_ok {v : Vw} {l : List Ed} {r : List Tp × Int} (h : RowsSay v l r) (h0 : r.2 = 0) : okV v = true ∧ ¬ tooMany l v.2.2.2.1 ∧ r.1 = setR (rowsK (byLab l) (varsL v.2.2.2.1) v.2.2.2.1) := by
 rcases h with ⟨h1, rfl⟩ | ⟨h1, h2, rfl⟩ | ⟨h1, h2, rfl⟩
 · cases h0
 · cases h0
 · exact ⟨h1, h2, rfl⟩
theorem rows_facts {v : Vw} {l : List Ed} {rows : List Tp} (hok : okV v = true) (hn : ¬ tooMany l v.2.2.2.1) (hr : rows = setR (rowsK (byLab l) (varsL v.2.2.2.1) v.2.2.2.1)) :
 rows.length ≤ 3000 ∧ (∀ r ∈ rows, r.length = (varsL v.2.2.2.1).length) ∧ v.2.2.1.length ≤ 6 ∧ (varsL v.2.2.2.1).length ≤ 16 ∧ ∀ o ∈ v.2.2.1, o ∈ varsL v.2.2.2.1 := by
 obtain ⟨_, h1, h2, h3⟩ := okV_pat (v := v) (by rw [hok]; rfl)
 have hvl := varsL_len v.2.2.2.1
 refine ⟨?_, fun r hrm => ?_, h1, by omega, fun o ho => ?_⟩
 · have h4 : ¬ 3000 < (rowsK (byLab l) (varsL v.2.2.2.1) (v.2.2.2.1.take v.2.2.2.1.length)).length := fun e => hn ⟨_, Nat.le_refl _, e⟩
   rw [List.take_length] at h4
   have := setR_len (rowsK (byLab l) (varsL v.2.2.2.1) v.2.2.2.1)
   rw [hr]; omega
 · rw [hr] at hrm
   have := ((setR_spec _).2 r).1 hrm
   have h5 := rows_len l (al := v.2.2.2.1) (k := v.2.2.2.1.length) (r := r) (by rw [List.take_length]; exact this)
   rwa [List.take_length] at h5
 · have h6 := hok
   unfold okV outB at h6
   simp only [Bool.and_eq_true, List.all_eq_true] at h6
   simpa using h6.2.1 o ho
theorem cnt_bound (xs : List Tp) (i : Int) : 0 ≤ at' (cntL xs) i ∧ at' (cntL xs) i ≤ xs.length := by
 unfold at'
 rw [List.getD_eq_getElem?_getD]
 cases e : (cntL xs)[i.toNat]? with
 | none => exact ⟨Int.le_refl _, Int.natCast_nonneg _⟩
 | some x =>
  unfold cntL at e
  rw [List.getElem?_map] at e
  cases e2 : (dd xs)[i.toNat]? with
  | none => rw [e2] at e; cases e
  | some t =>
   rw [e2] at e
   cases e
   have := List.count_le_length (a := t) (l := xs)
   simp only [Option.getD_some]; omega
theorem grp_yes {rs : List Tp} {k : Nat} {t : Tp} (h : k < rs.length) (ht : at' rs (k : Int) = t) (hc : (decide ((0 : Int) < (dd (rs.take k)).length) && decide (cmpL (at' (dd (rs.take k)) (((dd (rs.take k)).length : Int) - 1)) t = 0)) = true) : ∃ k', k = k' + 1 ∧ at' rs (k' : Int) = at' rs ((k' + 1 : Nat) : Int) := by
 simp only [Bool.and_eq_true, decide_eq_true_eq] at hc
 match k, h, ht, hc with
 | 0, h, ht, hc => simp [dd] at hc
 | k' + 1, h, ht, hc => exact ⟨k', rfl, (dd_last (by omega)).2.symm.trans ((cmp_eq.1 hc.2).trans ht.symm)⟩
theorem grp_no {rs : List Tp} {k : Nat} {t : Tp} (h : k < rs.length) (ht : at' rs (k : Int) = t) (hc : (decide ((0 : Int) < (dd (rs.take k)).length) && decide (cmpL (at' (dd (rs.take k)) (((dd (rs.take k)).length : Int) - 1)) t = 0)) = false) : k = 0 ∨ at' rs ((k : Int) - 1) ≠ at' rs (k : Int) := by
 match k, h, ht, hc with
 | 0, _, _, _ => exact .inl rfl
 | k' + 1, h, ht, hc =>
  right
  rw [prev_at h]
  intro e
  obtain ⟨h1, h2⟩ := dd_last (xs := rs) (k := k') (by omega)
  have h3 : 0 < (dd (rs.take (k' + 1))).length := by cases hd : dd (rs.take (k' + 1)) with
   | nil => exact absurd hd h1
   | cons a l => simp
  have h4 : cmpL (at' (dd (rs.take (k' + 1))) (((dd (rs.take (k' + 1))).length : Int) - 1)) t = 0 := cmp_eq.2 (h2.trans (e.trans ht))
  have h5 : decide ((0 : Int) < (dd (rs.take (k' + 1))).length) = true := decide_eq_true (by omega)
  rw [h4, h5] at hc
  exact absurd hc (by decide)
end Go.Jn
/- Walks through the Go functions slices.Clip[[]int,int], join.Result, as typed contracts. -/
namespace Go.Proofs.YtklhdalppmjnaaaGreatDoor
open Go Go.Gw Go.So Go.Tu Go.Jn
set_option linter.unusedVariables false
set_option linter.unusedSimpArgs false
set_option maxRecDepth 20000 in
/-- slices.Clip[[]int,int] -/
theorem ClipI_fn (xs : List Int) : Ct Tryz.prog 64 [FreshT noK 0 kI xs] ([]) Unit (fun _ => SlT kI xs) (fun _ => []) (fun _ => True) := by
 refine fn_intro Tryz.func64 rfl rfl ?_
 intro H w
 refine sq (te (ec 0 rfl en) (rg (ak rfl (tn (nn (sq (te (ec 0 rfl en) (rg (mv rfl rfl (mv rfl rfl (tr_as 4 (OT.fresh (oT rfl)) (oP (pls (oT rfl) Tryz.underlying50) rfl (mv rfl rfl (tr_as 6 (OT.fresh (oT rfl)) (oP (pls (oT rfl) Tryz.underlying50) rfl (oP (pu_clip (oT rfl) (oT rfl) (oT rfl) Tryz.underlying50 y2) rfl (av rfl rfl (tn (nn (tR ?_))))))))))))))))))))
 exact ret_one .ret (.inl rfl) rfl () (OT.fresh (OT.unclip (oT rfl))) trivial (by exact pn)
set_option maxRecDepth 20000 in
/-- rhizome/join.Result -/
theorem Result_fn (v : Vw) (l : List Ed) (ho : v.2.2.1.length ≤ maxLen) (ha : v.2.2.2.1.length ≤ maxLen) (hm : l.length ≤ 1000000) : Ct Tryz.prog 36 [kV.T v, SlT kE l] ([]) (List Tp × List Int × Int) (fun r => TupT [SlT kT r.1, SlT kI r.2.1, I64 r.2.2]) (fun _ => []) (fun r => ResSay v l r) := by
 refine fn_intro Tryz.func36 rfl rfl ?_
 intro H w
 have ho0 := ho; have ha0 := ha; unfold maxLen at ho ha
 refine sq (te (ec 0 rfl (ec 1 rfl en)) (rg (oA (acts_box (d := kV) (oT rfl)) pR rfl rfl (fun g0_0 _ => ?_))))
 refine ak rfl (ak rfl (ak rfl (tn (nn (sq (te (ec 1 rfl (ec 2 rfl en)) (rg (oP (plv (oT rfl) (by exact mA 0 rfl) y58) rfl ?_))))))))
 refine mv rfl rfl (oA (aC (Rows_fn _ _ ho0 ha0 (by omega)) y78 (oc (oT rfl) (oc (oT rfl) oN)) pR) pR rfl rfl (fun r1_2 hr1_2 => ?_))
 refine mv rfl rfl (oP (pu_extract (oT rfl) rfl) rfl (oP (pu_extract (oT rfl) rfl) rfl (av rfl rfl (av rfl rfl (tn (nn (sq (sq (te (ec 2 rfl (ec 7 rfl (ec 8 rfl en))) (rg (mv rfl rfl (oP (pu_neq (oT rfl) ot) rfl (tn (nn (tc (oT rfl) (fun c28 => ?_) (fun c28 => ?_))))))))))))))))
 · refine sq (te (ec 8 rfl en) (rg (mv rfl rfl (ak rfl (ak rfl (av rfl rfl (tn (nn (tR (tt ?_))))))))))
   exact ret_three .ret (.inl rfl) rfl ([], [], r1_2.2) (OT.conv (oT rfl) (fun H u h => nil_slt h)) (OT.conv (oT rfl) (fun H u h => nil_slt h)) (oT rfl) (fun _ _ h => h) (res_err hr1_2 (by simpa using c28)) (by exact pn)
 · obtain ⟨hok, hnm, hr1⟩ := rows_ok hr1_2 (by simpa using c28)
   obtain ⟨rows, hrw⟩ : ∃ x, r1_2.1 = x := ⟨_, rfl⟩
   rw [hrw] at hr1
   obtain ⟨hrn, hrl, hol, hvl, hout⟩ := rows_facts hok hnm hr1
   have hal8 := (okV_pat (v := v) (by rw [hok]; rfl)).2.2.2
   refine sk (nn (sq (te (ec 2 rfl (ec 7 rfl en)) ?_)))
   rw [hrw]
   refine rg (oP (plv (oT rfl) (by exact mA 0 rfl) y58) rfl ?_)
   refine oA (aC (Vars_fn _ (by omega)) y59 (oc (oT rfl) oN) pR) pR rfl rfl (fun _ _ => ?_)
   refine av rfl rfl (tn (nn (sq (te (ec 2 rfl (ec 7 rfl (ec 9 rfl en))) (rg (ak rfl (tn (nn (sq (sq (te (ec 2 rfl (ec 7 rfl (ec 9 rfl (ec 10 rfl en)))) (tr_nilItem 51 kT (rg (mv rfl rfl (oP (pls (oT rfl) Tryz.underlying36) rfl (oP (pu_move ot) rfl (tn (nn (tb (tr_loopK (σ := Nat × Value) (ec 2 rfl (ec 9 rfl (ec 32 rfl (ec 33 rfl en)))) (fun s => [(34, I64 (s.1 : Int)), (10, IsV s.2)]) (fun s => [OwnI 51 kT s.2 ((rows.take s.1).map (proj (varsL v.2.2.2.1) v.2.2.1)), BlkI g0_0 25 kV v]) (fun s => s.1 ≤ rows.length) (fun s => rows.length - s.1) (0, nilS) (Nat.zero_le _) ?_ (op (by repeat first | exact pn | refine pc 0 rfl ?_)) ?_))))))))))))))))))))
   · exact (ec 34 rfl (ec 10 rfl en))
   · rintro ⟨i, va⟩ hi
     dsimp only at hi ⊢
     refine sq (te (ec 2 rfl (ec 9 rfl (ec 10 rfl (ec 32 rfl (ec 33 rfl (ec 34 rfl en)))))) (rg (oP (pu_lss (oT rfl) (oT rfl)) rfl (tn (nn (sq (tc (oT rfl) (fun c35 => ?_) (fun c35 => ?_))))))))
     · refine sk (nn (sq (tb (sq (te (ec 2 rfl (ec 9 rfl (ec 10 rfl (ec 32 rfl (ec 33 rfl (ec 34 rfl en)))))) ?_)))))
       have hir : i < rows.length := by simpa using c35
       obtain ⟨row, hrow⟩ : ∃ r, at' rows (i : Int) = r := ⟨_, rfl⟩
       have hrwl := hrl row (by rw [← hrow]; exact at_mem hir)
       have hst2 := map_snoc (proj (varsL v.2.2.2.1) v.2.2.1) hir
       rw [hrow] at hst2
       refine rg (oP (pu_index (oT rfl) (oT rfl) Tryz.underlying36 y0 (by omega) (by omega)) rfl (oP (pL (oT rfl) y0) rfl (av rfl rfl (tn (nn (sq (te (ec 2 rfl (ec 9 rfl (ec 10 rfl (ec 12 rfl (ec 32 rfl (ec 33 rfl (ec 34 rfl en))))))) ?_)))))))
       rw [hrow]
       refine rg (ak rfl (tn (nn (sq (sq (te (ec 2 rfl (ec 9 rfl (ec 10 rfl (ec 12 rfl (ec 13 rfl (ec 32 rfl (ec 33 rfl (ec 34 rfl en)))))))) (tr_nilItem 3 kI (rg (oP (pf (oT rfl) y55) rfl (oP (plb (oT rfl) (by exact mA 2 rfl) lv2 y56) rfl ?_))))))))))
       refine oP (pls (oT rfl) Tryz.underlying22) rfl (oP (pu_move ot) rfl (tn (nn (tb (tr_loopK (σ := Nat × Value) (ec 2 rfl (ec 9 rfl (ec 10 rfl (ec 12 rfl (ec 32 rfl (ec 33 rfl (ec 34 rfl (ec 39 rfl (ec 40 rfl en))))))))) (fun s => [(41, I64 (s.1 : Int)), (13, IsV s.2)]) (fun s => [OwnI 3 kI s.2 ((v.2.2.1.take s.1).map (fun o => env (varsL v.2.2.2.1) row o)), OwnI 51 kT va ((rows.take i).map (proj (varsL v.2.2.2.1) v.2.2.1)), BlkI g0_0 25 kV v]) (fun s => s.1 ≤ v.2.2.1.length) (fun s => v.2.2.1.length - s.1) (0, nilS) (Nat.zero_le _) ?_ (op (by repeat first | exact pn | refine pc 0 rfl ?_)) ?_)))))
       · exact (ec 41 rfl (ec 13 rfl en))
       · rintro ⟨j, vt⟩ hj
         dsimp only at hj ⊢
         refine sq (te (ec 2 rfl (ec 9 rfl (ec 10 rfl (ec 12 rfl (ec 13 rfl (ec 32 rfl (ec 33 rfl (ec 34 rfl (ec 39 rfl (ec 40 rfl (ec 41 rfl en))))))))))) (rg (oP (pu_lss (oT rfl) (oT rfl)) rfl (tn (nn (sq (tc (oT rfl) (fun c42 => ?_) (fun c42 => ?_))))))))
         · refine sk (nn (sq (tb (sq (te (ec 2 rfl (ec 9 rfl (ec 10 rfl (ec 12 rfl (ec 13 rfl (ec 32 rfl (ec 33 rfl (ec 34 rfl (ec 39 rfl (ec 40 rfl (ec 41 rfl en))))))))))) ?_)))))
           have hjo : j < v.2.2.1.length := by simpa using c42
           obtain ⟨o, hoo⟩ : ∃ o, at' v.2.2.1 (j : Int) = o := ⟨_, rfl⟩
           have hoV := hout o (by rw [← hoo]; exact at_mem hjo)
           have hix := ixI_in hoV
           have hixl := ix_lt hoV
           have hst := map_snoc (fun o => env (varsL v.2.2.2.1) row o) hjo
           rw [hoo] at hst
           refine rg (oP (pu_index (oT rfl) (oT rfl) Tryz.underlying22 y40 (by omega) (by omega)) rfl (oP (pL (oT rfl) y40) rfl (av rfl rfl (tn (nn (te (ec 2 rfl (ec 9 rfl (ec 10 rfl (ec 12 rfl (ec 13 rfl (ec 15 rfl (ec 32 rfl (ec 33 rfl (ec 34 rfl (ec 39 rfl (ec 40 rfl (ec 41 rfl en)))))))))))) ?_))))))
           rw [hoo]
           refine rg (mv rfl rfl (mv rfl rfl (mv rfl rfl (mv rfl rfl (oA (aC (IndexS_fn _ _ (by omega)) y41 (oc (oT rfl) (oc (oT rfl) oN)) pR) pR rfl rfl (fun _ _ => ?_))))))
           refine oP (pu_index (oT rfl) (oT rfl) Tryz.underlying51 y2 (by omega) (by omega)) rfl ?_
           rw [hix]
           refine oP (pL (oT rfl) y2) rfl (oA (acts_lit (d := kI) (v0 := 0) y33 y2 zI (show 1 * 1 ≤ 16777216 from by decide) (by decide) (fills_arr rfl rfl (by decide) (oT rfl) fills_nil)) pR rfl rfl (fun _ _ => ?_))
           refine oA (acts_append (oT rfl) (by exact pA 0 rfl) (oT rfl) y33 (by (simp; omega)) (by (simp; omega))) (by exact pA 0 rfl) rfl rfl (fun v13_8 _ => ?_)
           refine av rfl rfl (tn (bn (nn (te (ec 2 rfl (ec 9 rfl (ec 10 rfl (ec 12 rfl (ec 13 rfl (ec 32 rfl (ec 33 rfl (ec 34 rfl (ec 39 rfl (ec 40 rfl (ec 41 rfl en))))))))))) (rg (oP (pad (oT rfl) ot (by omega)) rfl (mv rfl rfl (tn (nn ?_)))))))))
           exact tg (j + 1, v13_8) (by show j + 1 ≤ _; omega) (by show v.2.2.1.length - (j + 1) < v.2.2.1.length - j; omega) (ea (ec 41 rfl (ec 13 rfl en)) (ec 2 rfl (ec 9 rfl (ec 10 rfl (ec 12 rfl (ec 32 rfl (ec 33 rfl (ec 34 rfl (ec 39 rfl (ec 40 rfl en)))))))))) (op (by rw [hst]; exact (by repeat first | exact pn | refine pc 0 rfl ?_)))
         · refine tr_exit (tx (tx (bh (nn (te (ec 2 rfl (ec 9 rfl (ec 10 rfl (ec 13 rfl (ec 32 rfl (ec 33 rfl (ec 34 rfl en))))))) ?_)))))
           obtain rfl : j = v.2.2.1.length := by simp only [decide_eq_false_iff_not] at c42; omega
           rw [List.take_length]
           refine rg (mv rfl rfl (mv rfl rfl (tr_freeze (by exact pA 0 rfl) 56 (oT rfl) ?_)))
           refine oA (acts_lit (d := kT) (v0 := []) y29 y0 zT (show 1 * 1 ≤ 16777216 from by decide) (by decide) (fills_arr rfl rfl (by decide) (oT rfl) fills_nil)) pR rfl rfl (fun _ _ => ?_)
           refine oA (acts_append (oT rfl) (by exact pA 0 rfl) (oT rfl) y29 (by (simp; omega)) (by (simp [maxLen]; omega))) (by exact pA 0 rfl) rfl rfl (fun v15_3 _ => ?_)
           refine av rfl rfl (tn (bn (nn (te (ec 2 rfl (ec 9 rfl (ec 10 rfl (ec 32 rfl (ec 33 rfl (ec 34 rfl en)))))) (rg (oP (pad (oT rfl) ot (by omega)) rfl (mv rfl rfl (tn (nn ?_)))))))))
           exact tg (i + 1, v15_3) (by show i + 1 ≤ rows.length; omega) (by show rows.length - (i + 1) < rows.length - i; omega) (ea (ec 34 rfl (ec 10 rfl en)) (ec 2 rfl (ec 9 rfl (ec 32 rfl (ec 33 rfl en))))) (op (by rw [hst2]; exact (by repeat first | exact pn | refine pc 0 rfl ?_)))
     · refine tr_exit (tx (tx (bh (nn (sq (te (ec 10 rfl en) ?_))))))
       obtain rfl : i = rows.length := by simp only [decide_eq_false_iff_not] at c35; omega
       rw [List.take_length]
       obtain ⟨all, hall⟩ : ∃ a, rows.map (proj (varsL v.2.2.2.1) v.2.2.1) = a := ⟨_, rfl⟩
       rw [hall]
       have hallen : all.length ≤ 1000000 := by rw [← hall, List.length_map]; omega
       refine rg (mv rfl rfl (oA (aC (SortT_fn _ _ hallen) y37 (oc (oT rfl) (oc OT.func oN)) (by exact pA 0 rfl)) (by exact pA 0 rfl) rfl rfl (fun rs hrs => ?_)))
       refine tn (nn (sq (te (ec 10 rfl en) ?_)))
       have hrsl : rs.length ≤ 1000000 := by rw [hrs.1.length_eq]; exact hallen
       refine tr_freeze (by exact pA 0 rfl) 10 (oT rfl) ?_
       refine rg (ak rfl (tn (nn (sq (te (ec 10 rfl (ec 16 rfl en)) (rg (ak rfl (tn (nn (sq (sq (te (ec 10 rfl (ec 16 rfl (ec 17 rfl en))) (tr_nilItem 3 kI (tr_nilItem 51 kT ?_))))))))))))))
       refine rg (mv rfl rfl (oP (pls (oT rfl) Tryz.underlying36) rfl (oP (pu_move ot) rfl (tn (nn (tb (tr_loopK (σ := Nat × Value × Value) (ec 62 rfl (ec 63 rfl en)) (fun s => [(64, I64 (s.1 : Int)), (16, IsV s.2.1), (17, IsV s.2.2)]) (fun s => [OwnI 51 kT s.2.1 (dd (rs.take s.1)), OwnI 3 kI s.2.2 (cntL (rs.take s.1)), BlkI g0_0 25 kV v]) (fun s => s.1 ≤ rs.length) (fun s => rs.length - s.1) (0, nilS, nilS) (Nat.zero_le _) ?_ (op (by repeat first | exact pn | refine pc 0 rfl ?_)) ?_)))))))
       · exact (ec 64 rfl (ec 16 rfl (ec 17 rfl en)))
       · rintro ⟨k, vo, vc⟩ hk
         dsimp only at hk ⊢
         refine sq (te (ec 16 rfl (ec 17 rfl (ec 62 rfl (ec 63 rfl (ec 64 rfl en))))) (rg (oP (pu_lss (oT rfl) (oT rfl)) rfl (tn (nn (sq (tc (oT rfl) (fun c65 => ?_) (fun c65 => ?_))))))))
         · refine sk (nn (sq (tb (sq (te (ec 16 rfl (ec 17 rfl (ec 62 rfl (ec 63 rfl (ec 64 rfl en))))) ?_)))))
           have hkr : k < rs.length := by simpa using c65
           obtain ⟨t, ht⟩ : ∃ t, at' rs (k : Int) = t := ⟨_, rfl⟩
           have hdl := dd_len (rs.take k)
           rw [List.length_take] at hdl
           have hcl := cntL_len (rs.take k)
           have hcb := cnt_bound (rs.take k) (((dd (rs.take k)).length : Int) - 1)
           rw [List.length_take] at hcb
           refine rg (oP (pu_index (oT rfl) (oT rfl) Tryz.underlying36 y0 (by omega) (by omega)) rfl (oP (pL (oT rfl) y0) rfl (av rfl rfl (tn (nn (sq (sq (te (ec 16 rfl (ec 17 rfl (ec 19 rfl (ec 62 rfl (ec 63 rfl (ec 64 rfl en)))))) ?_))))))))
           rw [ht]
           refine rg (mv rfl rfl (oP (pu_len_own (oT rfl) (by exact mA 0 rfl) Tryz.underlying36) rfl ?_))
           refine av rfl rfl (tn (nn (sq (te (ec 16 rfl (ec 17 rfl (ec 19 rfl (ec 20 rfl (ec 62 rfl (ec 63 rfl (ec 64 rfl en))))))) (rg (mv rfl rfl (oP (pu_gtr (oT rfl) ot) rfl (mv rfl rfl (oG rfl rfl rfl (gm (oT rfl)) (fun hg => by (have hg1 := hg.2; (try simp only [cq2] at hg1); exact pu_move (oT rfl))) rfl ?_)))))))))
           refine oG rfl rfl rfl (gm (oT rfl)) (fun hg => by (have hg1 := hg.2; (try simp only [cq2] at hg1); exact pu_move (oT rfl))) rfl ?_
           refine oG rfl rfl rfl (gm (oT rfl)) (fun hg => by (have hg1 := hg.2; (try simp only [cq2] at hg1); exact pu_sub' (by exact gu (oT rfl) hg) ot (by omega))) rfl ?_
           refine oG rfl rfl rfl (gm (oT rfl)) (fun hg => by (have hg1 := hg.2; (try simp only [cq2] at hg1); exact pio (by exact gu (oT rfl) hg) (by exact mA 0 rfl) (by exact gu (oT rfl) hg) Tryz.underlying36 y0 (by omega) (by omega))) rfl ?_
           refine oG rfl rfl rfl (gm (oT rfl)) (fun hg => by (have hg1 := hg.2; (try simp only [cq2] at hg1); exact plo (by exact gu (oT rfl) hg) (by exact mA 0 rfl) (by omega) (by omega) y0)) rfl ?_
           refine oG rfl rfl rfl (gm (oT rfl)) (fun hg => by (have hg1 := hg.2; (try simp only [cq2] at hg1); exact pu_move (oT rfl))) rfl ?_
           refine op_gu_acts () rfl rfl rfl (gm (oT rfl)) (fun hg => by (have hg1 := hg.2; (try simp only [cq2] at hg1); exact aC (Cmp_all _ _) y22 (oc (by exact gu (oT rfl) hg) (oc (by exact gu (oT rfl) hg) oN)) pR)) rfl (fun _ _ => ?_)
           refine oG rfl rfl rfl (gm (oT rfl)) (fun hg => by (have hg1 := hg.2; (try simp only [cq2] at hg1); exact pu_eql (by exact gu (oT rfl) hg) ot)) rfl ?_
           refine oP (pu_pick_and (oT rfl) (oT rfl)) rfl (tn (nn (tc (oT rfl) (fun c81 => ?_) (fun c81 => ?_))))
           · obtain ⟨k', rfl, hkk⟩ := grp_yes hkr ht c81
             have hst := cnt_same hrs.2 hkr hkk
             simp only [Bool.and_eq_true, decide_eq_true_eq] at c81
             have hn1 : (((dd (rs.take (k' + 1))).length : Int) - 1).toNat = (dd (rs.take (k' + 1))).length - 1 := by omega
             refine sq (te (ec 16 rfl (ec 17 rfl (ec 20 rfl (ec 62 rfl (ec 63 rfl (ec 64 rfl en)))))) (rg (mv rfl rfl (mv rfl rfl (oP (pu_sub' (oT rfl) ot (by omega)) rfl (oP (pio (oT rfl) (by exact mA 1 rfl) (oT rfl) Tryz.underlying50 y2 (by omega) (by omega)) rfl ?_))))))
             refine oP (plo (oT rfl) (by exact mA 1 rfl) (by omega) (by omega) y2) rfl ?_
             refine oP (pad (oT rfl) ot (by omega)) rfl (oP (pio (oT rfl) (by exact mA 1 rfl) (oT rfl) Tryz.underlying50 y2 (by omega) (by omega)) rfl ?_)
             refine oA (acts_store_own0 (oT rfl) (oT rfl) (by exact pA 1 rfl) (by omega) (by omega) y2) (by exact pA 1 rfl) rfl rfl (fun _ _ => ?_)
             refine tn (nn (tr_exit (tx (bh (nn (te (ec 16 rfl (ec 17 rfl (ec 62 rfl (ec 63 rfl (ec 64 rfl en))))) (rg (oP (pad (oT rfl) ot (by omega)) rfl (mv rfl rfl (tn (nn ?_)))))))))))
             exact tg (k' + 1 + 1, vo, vc) (by show k' + 1 + 1 ≤ rs.length; omega) (by show rs.length - (k' + 1 + 1) < rs.length - (k' + 1); omega) (ea (ec 64 rfl (ec 16 rfl (ec 17 rfl en))) (ec 62 rfl (ec 63 rfl en))) (op (by rw [hst.1, hst.2, ← hn1]; exact (by repeat first | exact pn | refine pc 0 rfl ?_ | refine pc 1 rfl ?_)))
           · have hst := cnt_new hrs.2 hkr (grp_no hkr ht c81)
             rw [ht] at hst
             refine sk (nn (te (ec 16 rfl (ec 17 rfl (ec 19 rfl (ec 62 rfl (ec 63 rfl (ec 64 rfl en)))))) (rg (mv rfl rfl (mv rfl rfl (oA (acts_lit (d := kT) (v0 := []) y29 y0 zT (show 1 * 1 ≤ 16777216 from by decide) (by decide) (fills_arr rfl rfl (by decide) (oT rfl) fills_nil)) pR rfl rfl (fun _ _ => ?_)))))))
             refine oA (acts_append (oT rfl) (by exact pA 0 rfl) (oT rfl) y29 (by (simp; omega)) (by (simp [maxLen]; omega))) (by exact pA 0 rfl) rfl rfl (fun v26_3 _ => ?_)
             refine mv rfl rfl (oA (acts_lit (d := kI) (v0 := 0) y73 y2 zI (show 1 * 1 ≤ 16777216 from by decide) (by decide) (fills_arr rfl rfl (by decide) ot fills_nil)) pR rfl rfl (fun _ _ => ?_))
             refine oA (acts_append (oT rfl) (by exact pA 1 rfl) (oT rfl) y73 (by (simp; omega)) (by (simp [maxLen]; omega))) (by exact pA 1 rfl) rfl rfl (fun v26_6 _ => ?_)
             refine av rfl rfl (av rfl rfl (tn (bn (nn (te (ec 16 rfl (ec 17 rfl (ec 62 rfl (ec 63 rfl (ec 64 rfl en))))) (rg (oP (pad (oT rfl) ot (by omega)) rfl (mv rfl rfl (tn (nn ?_))))))))))
             exact tg (k + 1, v26_3, v26_6) (by show k + 1 ≤ rs.length; omega) (by show rs.length - (k + 1) < rs.length - k; omega) (ea (ec 64 rfl (ec 16 rfl (ec 17 rfl en))) (ec 62 rfl (ec 63 rfl en))) (op (by rw [hst.1, hst.2]; exact (by repeat first | exact pn | refine pc 0 rfl ?_ | refine pc 1 rfl ?_)))
         · refine tr_exit (tx (tx (bh (nn (sq (te (ec 16 rfl (ec 17 rfl en)) ?_))))))
           obtain rfl : k = rs.length := by simp only [decide_eq_false_iff_not] at c65; omega
           obtain ⟨hD, hC⟩ := cntL_all hrs.1 hrs.2
           rw [List.take_length, hD, hC]
           have hsma : Small all := ⟨hallen, fun x hx => by
            rw [← hall] at hx
            obtain ⟨r, _, rfl⟩ := List.mem_map.1 hx
            unfold proj; rw [List.length_map]; omega⟩
           have hsm := hsma.setR
           refine rg (mv rfl rfl (tr_freeze (by exact pA 0 rfl) 97 (oT rfl) ?_))
           refine oA (acts_callM (Set_fn (K0 := noK) (n0 := 0) _ hsm) mk_none y77 (oc (oT rfl) oN) pR) pR rfl rfl (fun _ _ => ?_)
           refine mv rfl rfl (tr_freezeF mk_none (fun g => blks_nil) (by exact pA 0 rfl) 99 (oT rfl) ?_)
           refine oA (aC (ClipI_fn _) y79 (oc (oT rfl) oN) pR) pR rfl rfl (fun _ _ => ?_)
           refine av rfl rfl (av rfl rfl (ak rfl (tn (nn (tR ?_)))))
           exact ret_three .ret (.inl rfl) rfl (setR all, countsOf all, 0) (OT.eq (OT.unfr2 (oT rfl)) (congrArg (SlT kT) (setR_idem all))) (oT rfl) (oT rfl) (fun _ _ h => h) (.inr (.inr ⟨hok, hnm, by unfold allOf; rw [← hr1, hall]⟩)) (by exact pn)
end Go.Proofs.YtklhdalppmjnaaaGreatDoor
/- Typed walks: a text's bytes in memory of one's own, written; truth values compared. Over any program. -/
namespace Go.Gw
open Go
set_option linter.unusedVariables false
set_option linter.unusedSimpArgs false
section
variable {C : Cx} {Γ : Env} {L R : List It} {dst : Option Tmp} {ty : TypeId} {pos : String} {after : Array Edge} {guard : Option (Nat × Bool)} {x y z : Operand}
end
end Go.Gw
/- Rows that list variables: the row's builder with the world's shape handed on; contracts with a mark as rows; arguments opened with what their weights say; variables in a frozen heap. Over any program. -/
namespace Go.Gw
open Go Go.ChangeShapes Go.WideShapes Go.RowKit
set_option linter.unusedVariables false
set_option linter.unusedSimpArgs false
theorem returns_shaped {H : Type} {enc : TypeId × Value → H} {a : Assume} {C : Checked} {os : Os} {f : FuncId} {fn : Func} {s : ChangeSpec} {conds : List PathCond} {apart fresh handsOn again : Bool} {X : World → Array Value → Prop}
 (hX : ∀ (w w' : World) (args : Array Value), w.heap = w'.heap → X w args → X w' args)
 (own : ownKnob C.prog.godebug = none) (started : os.Started) (noInit : C.prog.inits.idxOf? f = none) (hfn : C.prog.funcs[f]? = some fn)
 (witness : ∃ (w : World) (tape : Tape) (i : Input), w.os = os ∧ (w.forCall tape i).Shaped C.prog ∧ i.vars = [] ∧ Input.okWide C.prog (w.forCall tape i) .any w.heap.size f i ∧
  ((s.pre enc C.prog fn conds apart (w.forCall tape i).memory i.args ∧ X (w.forCall tape i).memory i.args) ∧ sizedMet enc C.prog fn (OpenSpec.ofChange s) apart (w.forCall tape i).memory i.args) ∧ a.holds C.prog (lone (Frame.enter C.prog f i.args .normal) [] (w.forCall tape i)))
 (contract : ∀ (W : World) (base : Nat) (args : Array Value) (ds gs : List (DataW H)) (before : List MemPlace), W.ShapedOpen C.prog →
  (∀ (j : Nat) t v, fn.params[j]? = some t → args[j]? = some v → Value.okWide C.prog W .any base t v) →
  DataW.Whole enc C.prog fn.params.toList s.vars apart W args.toList ds gs before →
  conds.all (PathCond.test C.prog ⟨fn.params.toList, ds, s.plain.varTypes C.prog, gs⟩) = true →
  (DataW.weightsEach C.prog (fn.params.toList ++ s.plain.varTypes C.prog) (ds ++ gs)).all (· ≤ reachBytes) = true → X W args →
  Calls C.prog f args W fun e W' => ∃ v, e = .returned v ∧ s.post enc C.prog fn apart fresh handsOn again W args v W') :
 ReturnsInHanded a C os f .any (fun w args => (s.pre enc C.prog fn conds apart w args ∧ X w args) ∧ sizedMet enc C.prog fn (OpenSpec.ofChange s) apart w args) (s.post enc C.prog fn apart fresh handsOn again) := by
 refine returnsInHanded_of_calls own started noInit witness ?_
 intro w tape i _ hsh _ hok hpre _
 obtain ⟨_, _, _, fn', hfn', _, _, _, _, hval⟩ := hok
 have e : fn' = fn := Option.some.inj (hfn'.symm.trans hfn)
 subst e
 obtain ⟨⟨⟨ds, gs, before, hw, hc⟩, hx⟩, hz⟩ := hpre
 have hw' := DataW.Whole.of_heap (w' := w.forCall tape i) (by rfl) hw
 refine (contract (w.forCall tape i) w.heap.size i.args ds gs before hsh hval hw' hc (hz.weights hw) (hX _ _ _ (by rfl) hx)).mono fun e W' ⟨v, he, hp⟩ => ?_
 subst he
 exact ChangeSpec.post_blind hp
theorem ctM_row {P : Program} {f : FuncId} {As : List Ty} {b : Bool} (W : World) (h : CtM (heapOf W) 0 P f As [] Unit (fun _ => IsV (.bool b)) (fun _ => []) (fun _ => True)) {args : List Value} (ha : AllP (heapOf W) As args) :
 Calls P f args.toArray W fun e W' => e = .returned (.bool b) ∧ Below W.heap.size W W' := by
 refine (h (heapOf W) W args (Sub.refl _) (Nat.zero_le _) (on_heapOf W) ha ⟨fun _ h => by simp at h, by simp [blks], fun g hg => by simp [blks] at hg⟩).mono fun e W' hp => ?_
 obtain ⟨r, v, H', he, _, s, hv, _⟩ := hp
 have hv' : v = .bool b := hv
 subst hv'
 exact ⟨he, s.os, s.tape, s.output, s.size, fun k hk => s.keep k hk (by simp [blks])⟩
def OpnW {α : Type} (P : Program) (t : TypeId) (d : Kd α) (good : α → Prop) : Prop :=
 ∀ (Hh : Type) (enc : TypeId × Value → Hh) (w : World) (fuel : Nat) (cs : List Value) (x : DataW Hh × List MemPlace), DataW.trod enc P w 0 (fun _ => true) true fuel t cs = some x → (∀ n ∈ x.1.weights P t, n ≤ reachBytes) → ∃ v, d.K (heapOf w) v cs ∧ good v
theorem Opn.w {α : Type} {P : Program} {t : TypeId} {d : Kd α} {good : α → Prop} (h : Opn P t d good) : OpnW P t d good := fun Hh enc w fuel cs x hx _ => h Hh enc w fuel cs x hx
end Go.Gw
/- Typed walks: regions that draw the order of their operations, with several operations in the open part that make something not known ahead. Over any program. -/
namespace Go.Gw
open Go
set_option linter.unusedVariables false
set_option linter.unusedSimpArgs false
section
variable {C : Cx} {Γ : Env} {L : List It} {Q : Exit → Act → World → Prop} {l : List Oper} {ns : List Need} {ρ : Type} {Ts : ρ → List Ty} {ψ : List Bool → ρ → Prop} {ups : Nat → ρ → ρ → Prop} {m : Nat}
structure InvS {ρ : Type} (C : Cx) (Γ : Env) (Lf : List Bool → ρ → List It) (ps : List Nat) (l : List Oper) (Ts : ρ → List Ty) (ψ : List Bool → ρ → Prop) (m : Nat) (r : ρ) (b : Nat → Bool) (a : Act) (w : World) (H : FH) : Prop where
 defers : a.defers = []
 size : a.tmps.size = C.N
 st : St C.M C.H0 C.w0 H w
 ow : Owns C.ok w H (Lf (ps.map b) r)
 phi : ψ (ps.map b) r
 old : ∀ t T, find Γ t = some T → (∀ k, k < l.length → dstOf l k = some t → b k = false) → T.p H (a.tmps.getD t undef)
 got : ∀ k t, k < m → b k = true → dstOf l k = some t → ((Ts r).getD k AnyT).p H (a.tmps.getD t undef)
end
end Go.Gw
/- Typed walks: texts gone through rune by rune; what an operation gives that may be one of two. Over any program. -/
namespace Go.Gw
open Go
set_option linter.unusedVariables false
set_option linter.unusedSimpArgs false
section
variable {C : Cx} {Γ : Env} {L R : List It}
variable {dst : Option Tmp} {ty : TypeId} {pos : String} {after : Array Edge} {guard : Option (Nat × Bool)} {x y z : Operand} {l : List UInt8} {g q : Nat}
end
end Go.Gw
/- Typed walks: a text's bytes put behind bytes of one's own; strings.Builder: its two fields, its copy check, its text. Over any program. -/
namespace Go.Gw
open Go
set_option linter.unusedVariables false
set_option linter.unusedSimpArgs false
section
variable {C : Cx} {Γ : Env} {L R : List It}
variable {dst : Option Tmp} {ty : TypeId} {pos : String} {after : Array Edge} {guard : Option (Nat × Bool)} {x y z : Operand}
end
end Go.Gw
/- Typed walks: pointers as unsafe ones and back, where a variable of one's own stands; functions from outside; a pointer held against itself; an array's end as bytes. Over any program. -/
namespace Go.Gw
open Go
set_option linter.unusedVariables false
set_option linter.unusedSimpArgs false
section
variable {C : Cx} {Γ : Env} {L R : List It} {α : Type} {d : Kd α}
variable {dst : Option Tmp} {ty : TypeId} {pos : String} {after : Array Edge} {guard : Option (Nat × Bool)} {x y z : Operand}
end
end Go.Gw
/- Typed walks: an array of one's own, its end given up as a slice. Over any program. -/
namespace Go.Gw
open Go
set_option linter.unusedVariables false
set_option linter.unusedSimpArgs false
section
variable {C : Cx} {Γ : Env} {L R : List It} {α : Type} {d : Kd α}
variable {dst : Option Tmp} {ty : TypeId} {pos : String} {after : Array Edge} {guard : Option (Nat × Bool)} {x y z : Operand}
end
end Go.Gw
/- Typed walks: a value put into an interface. Over any program. -/
namespace Go.Gw
open Go
set_option linter.unusedVariables false
theorem pu_makeIface {C : Cx} {Γ : Env} {L : List It} {dst : Option Tmp} {ty : TypeId} {pos : String} {after : Array Edge} {guard : Option (Nat × Bool)} {x : Operand} {t : TypeId} {v : Value} {D : TypeDesc} (hx : OT C.N Γ x (IsV v)) (ht : C.P.underlying t = some D) (hn : (match D with | .interface _ => false | _ => true) = true) : Pure C Γ L ⟨dst, .makeInterface t x, ty, pos, after, guard⟩ (IsV (.iface t v)) := fun a w H f s ow => by
 have hv : a.eval x = v := hx a H f
 refine ⟨.iface t v, ?_, rfl⟩
 cases D <;> first | (exact Bool.noConfusion hn) | simp [execOp, Instr.makeInterface, run_underlying ht, hv]
section
variable {C : Cx} {Γ : Env} {L : List It} {dst : Option Tmp} {ty : TypeId} {pos : String} {after : Array Edge} {guard : Option (Nat × Bool)} {x y : Operand}
end
end Go.Gw
/- Typed walks: texts compared by '<'. Over any program. -/
namespace Go.Gw
open Go
set_option linter.unusedVariables false
end Go.Gw
/- Typed walks: three results, the first of which lies in a variable. Over any program. -/
namespace Go.Gw
open Go
set_option linter.unusedVariables false
set_option linter.unusedSimpArgs false
section
variable {Γ : Env} {L J : List It} {α : Type} {d : Kd α}
end
end Go.Gw
/- Typed walks: a number turned, with what overflows. Over any program. -/
namespace Go.Gw
open Go
set_option linter.unusedVariables false
set_option linter.unusedSimpArgs false
section
variable {C : Cx} {Γ : Env} {L : List It} {dst : Option Tmp} {ty : TypeId} {pos : String} {after : Array Edge} {guard : Option (Nat × Bool)} {x : Operand}
end
end Go.Gw
/- Typed walks: a range over a map, in whatever order; deletes within it. Over any program. -/
namespace Go.Gw
open Go Go.MapKept
open Go.ChangeMaps (setBlock)
set_option linter.unusedVariables false
set_option linter.unusedSimpArgs false
set_option linter.unusedSectionVars false
structure MS where
 es : Array MapEntry
 clock : Nat
structure IS where
 since : Nat
 seen : Array Nat
 c0 : Nat
theorem nodup_ix {β : Type} {l : List β} (hn : l.Nodup) {i j : Nat} (hi : i < l.length) (hj : j < l.length) (h : l[i] = l[j]) : i = j := by
 rcases Nat.lt_trichotomy i j with h1 | h1 | h1
 · exact absurd h (List.pairwise_iff_getElem.1 hn i j hi hj h1)
 · exact h1
 · exact absurd h.symm (List.pairwise_iff_getElem.1 hn j i hj hi h1)
section
variable {κ α : Type}
def RanM (g : Nat) (enc : κ → Value) (V : α → Ty) (m : List (κ × α)) (s : MS) : It where
 blk := some g
 p := fun w H => w.heap[g]? = some (.map s.es s.clock) ∧ MapR enc V H m s.es s.clock
 st := fun hb hs ⟨h1, h2⟩ => ⟨(hb g rfl).trans h1, h2.mono hs⟩
def RanR (r g : Nat) (i : IS) : It where
 blk := some r
 p := fun w H => w.heap[r]? = some (.mapIter (some g) i.since i.seen i.c0)
 st := fun hb hs h => (hb r rfl).trans h
structure RanOk (m : List (κ × α)) (s : MS) (i : IS) (todo : List κ) (cur : Option κ) : Prop where
 old : ∀ e ∈ s.es.toList, e.born < i.since
 le : i.since ≤ i.c0
 lc : i.since ≤ s.clock
 nd : todo.Nodup
 sub : ∀ k ∈ todo, k ∈ keys m
 left : ∀ (j : Nat) (e : MapEntry) (k : κ), s.es.toList[j]? = some e → (keys m)[j]? = some k → (i.seen.contains e.born = false ↔ k ∈ todo)
 at_ : ∀ k, cur = some k → i.c0 = s.clock ∧ ∃ (j : Nat) (e : MapEntry) (seen : Array Nat), s.es.toList[j]? = some e ∧ (keys m)[j]? = some k ∧ i.seen = seen.push e.born
def NextT (b : Bool) : Ty := ⟨fun _ v => ∃ l, v = .tuple (Array.mk (.bool b :: l)), fun _ h => h⟩
end
section
variable {C : Cx} {Γ : Env} {L R : List It} {dst : Option Tmp} {ty : TypeId} {pos : String} {after : Array Edge} {guard : Option (Nat × Bool)} {x y z : Operand} {Q : Act → World → Prop}
variable {κ α : Type} [DecidableEq κ] {t kt et : TypeId} {K : Kd κ} {enc : κ → Value} {V : α → Ty} {m : List (κ × α)} {g r : Nat} {k : κ} {s : MS} {i : IS} {todo : List κ} {cur : Option κ}
theorem tr_mapx (hp : List.Perm L (MapI g enc V m :: R)) (h : ∀ s, Tr C Γ (RanM g enc V m s :: R) Q) : Tr C Γ L Q := by
 intro a w H f st ow
 have o' := ow.perm hp
 obtain ⟨es, clock, hb, hR⟩ := o'.all _ List.mem_cons_self
 exact h ⟨es, clock⟩ a w H f st (o'.swap1 (J := RanM g enc V m ⟨es, clock⟩) rfl ⟨hb, hR⟩)
theorem tr_mapc (hp : List.Perm L (RanM g enc V m s :: R)) (h : Tr C Γ (MapI g enc V m :: R) Q) : Tr C Γ L Q := by
 intro a w H f st ow
 have o' := ow.perm hp
 obtain ⟨hb, hR⟩ := o'.all _ List.mem_cons_self
 exact h a w H f st (o'.swap1 (J := MapI g enc V m) rfl ⟨s.es, s.clock, hb, hR⟩)
theorem acts_range_map (ht : C.P.underlying t = some (.map kt et)) (hx : OT C.N Γ x (IsV (mp g))) (hm : RanM g enc V m s ∈ L) :
 Acts C Γ L ⟨dst, .range t x, ty, pos, after, guard⟩ [] (Nat × IS) (fun r => IsV (pt r.1 0)) (fun r => [RanR r.1 g r.2]) (fun r => RanOk m s r.2 (keys m) none) := by
 intro a w H f st ow Q K hK
 obtain ⟨hb, hR⟩ := ow.all _ hm
 have hv : a.eval x = .map (some g) := hx a H f
 have hrun : (execOp a.eval ⟨dst, .range t x, ty, pos, after, guard⟩).run C.P w = .ok (.value (pt w.heap.size 0)) (w.alloc (.mapIter (some g) s.clock #[] s.clock)) := by
  have := run_range_map (P := C.P) w t kt et g s.es s.clock ht hb
  simp only [execOp, hv, Sem.run_bind, this, Result.andThen]
  rfl
 simp only [Oper.wp, hrun, Oper.upon_value]
 refine hK (w.heap.size, ⟨s.clock, #[], s.clock⟩) _ _ H ?_ (st_alloc st.on _) rfl (owns_new (J := RanR w.heap.size g ⟨s.clock, #[], s.clock⟩) (heap_alloc_new w _) (.inr rfl) (by simp) st.on)
 exact ⟨fun e he => hR.lt e he, Nat.le_refl _, Nat.le_refl _, hR.nd, fun k h => h, fun j e k h1 h2 => ⟨fun _ => List.mem_of_getElem? h2, fun _ => by simp⟩, fun k h => by cases h⟩
theorem acts_next_map (hx : OT C.N Γ x (IsV (pt r 0))) (hm : RanM g enc V m s ∈ L) (hp : List.Perm L (RanR r g i :: R)) (ho : RanOk m s i todo cur) :
 Acts C Γ L ⟨dst, .next x false, ty, pos, after, guard⟩ [RanR r g i] (IS × Option κ) (fun q => NextT q.2.isSome) (fun q => [RanR r g q.1]) (fun q => match q.2 with
  | none => todo = [] ∧ RanOk m s q.1 todo none
  | some k => k ∈ todo ∧ RanOk m s q.1 (todo.erase k) (some k)) := by
 intro a w H f st ow Q K hK
 obtain ⟨hb, hR⟩ := ow.all _ hm
 have o' := ow.perm hp
 have hr : w.heap[r]? = some (.mapIter (some g) i.since i.seen i.c0) := o'.all _ List.mem_cons_self
 have hown := o'.own r (blk_mem (i := RanR r g i) List.mem_cons_self rfl)
 have hxv : a.eval x = pt r 0 := hx a H f
 have hlt : r < w.heap.size := (Array.getElem?_eq_some_iff.1 hr).1
 rcases run_next_at (P := C.P) w ty r g i.since i.c0 i.seen s.es s.clock hr hb ho.old ho.le with ⟨h0, hrun⟩ | ⟨e, he, w1, hw1, hrun⟩
 · have htodo : todo = [] := by
    refine List.eq_nil_iff_forall_not_mem.2 fun k hk => ?_
    obtain ⟨j, hj, hkj⟩ := List.getElem_of_mem (ho.sub k hk)
    have hjl : j < s.es.toList.length := by have h9 := hR.len; simp [keys] at hj; simp; omega
    have hl := (ho.left j s.es.toList[j] k (List.getElem?_eq_getElem hjl) (by rw [List.getElem?_eq_getElem hj, hkj])).2 hk
    have : s.es.toList[j] ∈ (leftOf s.es i.seen).toList := by
     unfold leftOf
     rw [Array.toList_filter, List.mem_filter]
     exact ⟨List.getElem_mem hjl, by rw [hl]; rfl⟩
    have h1 := List.length_pos_of_mem this
    rw [Array.length_toList] at h1
    omega
   have hrun2 : (execOp a.eval ⟨dst, .next x false, ty, pos, after, guard⟩).run C.P w = .ok (.value (.tuple #[.bool false])) w := by
    simp only [execOp, hxv, Sem.run_bind, show (pt r 0) = Value.pointer (some ⟨r, 0, none⟩) from rfl, hrun, Result.andThen]
    rfl
   simp only [Oper.wp, hrun2, Oper.upon_value]
   refine hK (i, none) _ _ H ⟨htodo, ho.old, ho.le, ho.lc, ho.nd, ho.sub, ho.left, fun k h => by cases h⟩ (st_grown (row := none) st.on ⟨rfl, rfl, rfl, by simp, fun k hk hne => rfl⟩ fun k hk => by cases hk) ⟨[], rfl⟩ ?_
   exact owns_one (I := RanR r g i) (J := RanR r g i) rfl rfl hr o' (by simp)
 · unfold leftOf at he
   rw [Array.toList_filter, List.mem_filter] at he
   obtain ⟨he1, he2⟩ := he
   obtain ⟨j, hj, hej⟩ := List.getElem_of_mem he1
   have hje : s.es.toList[j]? = some e := by rw [List.getElem?_eq_getElem hj, hej]
   have hjk : j < (keys m).length := by have h9 := hR.len; simp [keys]; simp at hj; omega
   obtain ⟨k, hk⟩ : ∃ k, (keys m)[j]? = some k := ⟨_, List.getElem?_eq_getElem hjk⟩
   have hkt : k ∈ todo := (ho.left j e k hje hk).1 (by simpa using he2)
   have hheap1 : w1.heap = w.heap := by rcases hw1 with rfl | rfl <;> rfl
   have hrun2 : (execOp a.eval ⟨dst, .next x false, ty, pos, after, guard⟩).run C.P w = .ok (.value (.tuple #[.bool true, e.key, e.val])) (setBlock w1 r (.mapIter (some g) i.since (i.seen.push e.born) s.clock)) := by
    simp only [execOp, hxv, Sem.run_bind, show (pt r 0) = Value.pointer (some ⟨r, 0, none⟩) from rfl, hrun, Result.andThen]
    rfl
   simp only [Oper.wp, hrun2, Oper.upon_value]
   have hset : (setBlock w1 r (.mapIter (some g) i.since (i.seen.push e.born) s.clock)).heap = w.heap.setIfInBounds r (.mapIter (some g) i.since (i.seen.push e.born) s.clock) := by show w1.heap.setIfInBounds _ _ = _; rw [hheap1]
   refine hK (⟨i.since, i.seen.push e.born, s.clock⟩, some k) _ _ H ⟨hkt, ho.old, ho.lc, ho.lc, ho.nd.erase k, fun k' h => ho.sub k' (List.mem_of_mem_erase h), fun j' e' k' h1 h2 => ?_, fun k' h => ?_⟩ (st_grown (row := some r) st.on ⟨?_, ?_, ?_, ?_, fun k' hk' hne => ?_⟩ fun k' hk' => by cases hk'; exact ⟨hown.2.1, blk_mem (i := RanR r g i) List.mem_cons_self rfl⟩) ⟨[e.key, e.val], rfl⟩ ?_
   · have hl := ho.left j' e' k' h1 h2
     rw [ho.nd.mem_erase_iff]
     by_cases hjj : j' = j
     · subst hjj
       rw [hje] at h1; cases h1
       rw [hk] at h2; cases h2
       simp
     · have hbn : e'.born ≠ e.born := fun hbe => by
        refine hjj ?_
        have a1 : j' < (s.es.toList.map (·.born)).length := by rw [List.length_map]; exact (List.getElem?_eq_some_iff.1 h1).1
        have a2 : j < (s.es.toList.map (·.born)).length := by rw [List.length_map]; exact hj
        refine nodup_ix hR.bn a1 a2 ?_
        rw [List.getElem_map, List.getElem_map, (List.getElem?_eq_some_iff.1 h1).2, hej]; exact hbe
       have hkk : k' ≠ k := fun hke => by
        refine hjj ?_
        have a1 : j' < (keys m).length := (List.getElem?_eq_some_iff.1 h2).1
        refine nodup_ix hR.nd a1 hjk ?_
        rw [(List.getElem?_eq_some_iff.1 h2).2, (List.getElem?_eq_some_iff.1 hk).2]; exact hke
       have hc : (i.seen.push e.born).contains e'.born = i.seen.contains e'.born := by
        rw [Bool.eq_iff_iff]
        simp [Array.contains_iff_mem, Array.mem_push, hbn]
       rw [hc, hl]
       exact ⟨fun h => ⟨hkk, h⟩, fun h => h.2⟩
   · cases h
     exact ⟨rfl, j, e, i.seen, hje, hk, rfl⟩
   · rcases hw1 with rfl | rfl <;> rfl
   · rcases hw1 with rfl | rfl <;> rfl
   · rcases hw1 with rfl | rfl <;> rfl
   · rw [hset]; simp
   · have : k' ≠ r := fun e => hne (by rw [e])
     rw [hset]; simp [Array.getElem?_setIfInBounds, Ne.symm this]
   · exact owns_one (I := RanR r g i) (J := RanR r g ⟨i.since, i.seen.push e.born, s.clock⟩) rfl rfl (by show (setBlock _ _ _).heap[r]? = _; rw [hset]; simp [hlt]) o' (by rw [hset]; simp)
theorem pu_nextm {b : Bool} (hx : OT C.N Γ x (NextT b)) : Pure C Γ L ⟨dst, .extract x 0, ty, pos, after, guard⟩ (BoolT b) := fun a w H f s ow => by
 obtain ⟨l, hv⟩ := hx a H f
 exact ⟨.bool b, by simp [execOp, Instr.extract, hv], rfl⟩
theorem pu_entry_map {D : Ty} {v : α} (hx : OT C.N Γ x (IsV (pt r 0))) (hr : RanR r g i ∈ L) (hm : RanM g enc V m s ∈ L) (ho : RanOk m s i todo (some k)) (hl : lkp k m = some v) (hD : ∀ H, D.p H (enc k)) :
 Pure C Γ L ⟨dst, .entry x, ty, pos, after, guard⟩ (TupT [D, V v]) := fun a w H f st ow => by
 obtain ⟨hb, hR⟩ := ow.all _ hm
 have hr1 : w.heap[r]? = some (.mapIter (some g) i.since i.seen i.c0) := ow.all _ hr
 have hxv : a.eval x = pt r 0 := hx a H f
 obtain ⟨hc, j, e, seen, h1, h2, h3⟩ := ho.at_ k rfl
 obtain ⟨v', h4, h5, h6⟩ := hR.at_ h1 h2
 have hvv : v' = v := by have := lkp_at hR.nd h4; rw [hl] at this; exact (Option.some.inj this).symm
 subst hvv
 rw [h3, hc] at hr1
 have hrun := run_entry_at (P := C.P) w r g i.since seen s.es s.clock e hr1 hb (List.mem_of_getElem? h1) hR.bn
 refine ⟨.tuple #[e.key, e.val], ?_, [e.key, e.val], rfl, ?_⟩
 · simp only [execOp, hxv, Sem.run_bind, show (pt r 0) = Value.pointer (some ⟨r, 0, none⟩) from rfl, hrun, Result.andThen]
   rfl
 · exact ⟨by rw [h5]; exact hD H, h6, trivial⟩
end
end Go.Gw
/- Typed walks: a guarded call that gives its items back as they were. Over any program. -/
namespace Go.Gw
open Go
set_option linter.unusedVariables false
section
variable {C : Cx} {Γ : Env} {L R J : List It} {Q : Exit → Act → World → Prop} {ops : Array Oper} {rest : List Oper}
theorem op_gu_same {o : Oper} {T : Ty} {φ : Unit → Prop} {j d : Nat} {want b : Bool} {p : Prop} (hg : o.guard = some (j, want)) (hj : (ops[j]?).bind (·.dst) = some d) (hdN : decide (d < C.N) = true) (hb : OT C.N Γ (.tmp d) (GuT p (BoolT b)))
 (hL : List.Perm L (J ++ R)) (hp : p ∧ b = want → Acts C Γ L o J Unit (fun _ => T) (fun _ => J) φ) (hd : dstOk C.N o.dst = true) (h : Tr C (upd o.dst (GuT (p ∧ b = want) T) Γ) L (wpList C.P ops Q rest)) : Tr C Γ L (wpList C.P ops Q (o :: rest)) := by
 intro a w H f s ow
 have hw := wanted_gu f hg hj hdN hb
 refine wpList_step fun K hK => ?_
 by_cases hc : p ∧ b = want
 · rw [if_pos (hw.2 hc)]
   refine hp hc a w H f s ow Q K fun r v w' H' hφ s' hv ho => hK _ _ ?_
   have ow' := ow.perm hL
   have hM : ∀ k, k ∈ blks J → C.M k ∨ C.w0.heap.size ≤ k := fun k hk => (ow'.left.own k hk).2.2
   refine h _ w' H' ((f.mono s'.sub).put o.dst hd ⟨fun _ => hv, fun hn => absurd hc hn⟩) (s.trans s' hM) (Owns.perm ?_ hL.symm)
   refine Owns.append (ho.mono fun g _ hg => ?_) (ow'.right.st s' fun g hg hj => ow'.apart g hj hg) fun g hg hr => ?_
   · rcases hg with hg | hg
     · exact hM g hg
     · exact .inr (Nat.le_trans s.size hg)
   · rcases (ho.own g hg).2.2 with h1 | h1
     · exact ow'.apart g h1 hr
     · have := (ow'.right.own g hr).1; omega
 · rw [if_neg (fun e => hc (hw.1 e))]
   exact hK _ _ (h _ w H (f.put o.dst hd ⟨fun e => absurd e hc, fun _ => rfl⟩) s ow)
theorem ropw_gu {o : Oper} {T : Ty} {j d : Nat} {want b : Bool} {p : Prop} (hg : o.guard = some (j, want)) (hj : (ops[j]?).bind (·.dst) = some d) (hdN : decide (d < C.N) = true) (hb : OT C.N Γ (.tmp d) (GuT p (BoolT b)))
 (h : p ∧ b = want → ROpW C Γ L L ops { o with guard := none } T) : ROpW C Γ L L ops o (GuT (p ∧ b = want) T) := fun a w H f s ow Q K hK => by
 have hw := wanted_gu f hg hj hdN hb
 by_cases hc : p ∧ b = want
 · rw [if_pos (hw.2 hc)]
   have := h hc a w H f s ow Q K fun v w' H' hs s' o' hv => hK v w' H' hs s' o' ⟨fun _ => hv, fun hn => absurd hc hn⟩
   rw [if_pos (by simp [Region.wanted])] at this
   exact this
 · rw [if_neg (fun e => hc (hw.1 e))]
   exact hK undef w H (Sub.refl _) s ow ⟨fun e => absurd e hc, fun _ => rfl⟩
end
end Go.Gw
/- Walks through the Go functions tuple.sets$1, api.Tuple], api.Tuple], tuple.sets, tuple.Diff, as typed contracts. -/
namespace Go.Proofs.YtklhdalppmjnaaaGreatDoor
open Go Go.Gw Go.So Go.Tu
set_option linter.unusedVariables false
set_option linter.unusedSimpArgs false
variable {K0 : FH} {n0 : Nat}
theorem walk_fn (a b : List Tp) (ha : Small a) (hb : Small b) (ra : risesB a = true) (rb : risesB b = true) : Ct Tryz.prog 43 [SlT kT a, SlT kT b] [] Unit (fun _ => TupT [SlT kT (withoutL a b), SlT kT (interL a b), SlT kT (withoutL b a)]) (fun _ => []) (fun _ => True) := by
 have h := walk_fn0 a b ha.1 hb.1
 rw [walk_sets (rises_iff.1 ra) (rises_iff.1 rb)] at h; exact h
theorem sets4 (a b c d : List Tp) : (!([a, b, c, d].any fun l => !risesB l)) = (risesB a && risesB b && risesB c && risesB d) := by cases h1 : risesB a <;> cases h2 : risesB b <;> cases h3 : risesB c <;> cases h4 : risesB d <;> simp [h1, h2, h3, h4]

set_option maxHeartbeats 1000000 in
set_option maxRecDepth 20000 in
/-- rhizome/tuple.sets$1 -/
theorem sets1_fn (x : List Tp) : Ct Tryz.prog 73 [SlT kT x] ([]) Unit (fun _ => BoolT (!risesB x)) (fun _ => []) (fun _ => True) := by
 refine fn_intro Tryz.func73 rfl rfl ?_
 intro H w
 refine sq (te (ec 0 rfl en) (rg (ak rfl (tn (nn (sq (te (ec 0 rfl en) (rg (mv rfl rfl (oA (aC (Rises_all _) y80 (oc (oT rfl) oN) pR) pR rfl rfl (fun _ _ => ?_)))))))))))
 refine oP (pu_not (oT rfl)) rfl (av rfl rfl (tn (nn (tR ?_))))
 exact ret_one .ret (.inl rfl) rfl () (oT rfl) trivial (by exact pn)
set_option maxHeartbeats 1000000 in
set_option maxRecDepth 20000 in
/-- slices.IndexFunc[[][]rhizome/api.Tuple,[]rhizome/api.Tuple] -/
theorem idxL_fn (xs : List (List Tp)) (fv : Value) (p : List Tp → Bool) (hm : xs.length ≤ 1000000) (hfv : ∀ x, CtV Tryz.prog fv [kL.T x] [] Unit (fun _ => BoolT (p x)) (fun _ => []) (fun _ => True)) : Ct Tryz.prog 109 [SlT kL xs, IsV fv] ([]) Int (fun r => I64 r) (fun _ => []) (fun r => (decide (0 ≤ r)) = xs.any p) := by
 refine fn_intro Tryz.func109 rfl rfl ?_
 intro H w
 refine sq (te (ec 0 rfl (ec 1 rfl en)) (rg (ak rfl (tn (nn (sq (sq (te (ec 0 rfl (ec 1 rfl en)) (rg (mv rfl rfl (oP (pls (oT rfl) Tryz.underlying146) rfl (oP (pu_move ot) rfl (tn (nn (tb (tr_loopK (σ := Nat) (ec 0 rfl (ec 1 rfl (ec 7 rfl en))) (fun k => [(8, I64 (k : Int))]) (fun k => []) (fun k => k ≤ xs.length ∧ (xs.drop k).any p = xs.any p) (fun k => xs.length - k) 0 ⟨Nat.zero_le _, rfl⟩ ?_ (op (by exact pn)) ?_))))))))))))))))
 · exact (ec 8 rfl en)
 · rintro k ⟨hk, hk2⟩
   refine sq (te (ec 0 rfl (ec 1 rfl (ec 7 rfl (ec 8 rfl en)))) (rg (oP (pu_lss (oT rfl) (oT rfl)) rfl (tn (nn (sq (tc (oT rfl) (fun c9 => ?_) (fun c9 => ?_))))))))
   · try simp only [cq] at c9
     refine sk (nn (sq (tb (sq (te (ec 0 rfl (ec 1 rfl (ec 7 rfl (ec 8 rfl en)))) (rg (mv rfl rfl (av rfl rfl (tn (nn (sq (te (ec 0 rfl (ec 1 rfl (ec 5 rfl (ec 7 rfl (ec 8 rfl en))))) ?_))))))))))))
     have hst := any_step (l := xs) (p := p) (k := k) (by omega)
     refine rg (mv rfl rfl (mv rfl rfl (mv rfl rfl (oP (pu_index (oT rfl) (oT rfl) Tryz.underlying146 y25 (by omega) (by omega)) rfl (oP (pL (oT rfl) y25) rfl (oA (acts_callv (oT rfl) (hfv _) (oc (oT rfl) oN) pR) pR rfl rfl (fun _ _ => ?_)))))))
     refine tn (nn (tc (oT rfl) (fun c16 => ?_) (fun c16 => ?_)))
     · try simp only [cq] at c16
       refine sq (te (ec 5 rfl en) (rg (mv rfl rfl (av rfl rfl (tn (nn (tR (block_ret (tt (tt (block_ret (tt ?_))))))))))))
       exact ret_one .ret (.inl rfl) rfl (k : Int) (oT rfl) (by rw [← hk2, hst, c16, Bool.true_or]; simp) (by exact pn)
     · try simp only [cq] at c16
       refine sk (bn (nn (te (ec 0 rfl (ec 1 rfl (ec 7 rfl (ec 8 rfl en)))) (rg (oP (pad (oT rfl) ot (by omega)) rfl (mv rfl rfl (tn (nn ?_))))))))
       exact tg (k + 1) ⟨by omega, by rw [← hk2, hst, c16, Bool.false_or]⟩ (by omega) (ea (ec 8 rfl en) (ec 0 rfl (ec 1 rfl (ec 7 rfl en)))) (op (by exact pn))
   · try simp only [cq] at c9
     refine tr_exit (tx (tx (bh (nn (sq (te en (rg (ak rfl (tn (nn (tR ?_)))))))))))
     exact ret_one .ret (.inl rfl) rfl (-1) (oT rfl) (by rw [← hk2, List.drop_of_length_le (by omega)]; rfl) (by exact pn)
set_option maxHeartbeats 1000000 in
set_option maxRecDepth 20000 in
/-- slices.ContainsFunc[[][]rhizome/api.Tuple,[]rhizome/api.Tuple] -/
theorem hasL_fn (xs : List (List Tp)) (fv : Value) (p : List Tp → Bool) (hm : xs.length ≤ 1000000) (hfv : ∀ x, CtV Tryz.prog fv [kL.T x] [] Unit (fun _ => BoolT (p x)) (fun _ => []) (fun _ => True)) : Ct Tryz.prog 72 [SlT kL xs, IsV fv] ([]) Unit (fun _ => BoolT (xs.any p)) (fun _ => []) (fun _ => True) := by
 refine fn_intro Tryz.func72 rfl rfl ?_
 intro H w
 refine sq (te (ec 0 rfl (ec 1 rfl en)) (rg (ak rfl (tn (nn (sq (te (ec 0 rfl (ec 1 rfl en)) (rg (mv rfl rfl (mv rfl rfl (oA (aC (idxL_fn _ _ p (by assumption) (by assumption)) y81 (oc (oT rfl) (oc (oT rfl) oN)) pR) pR rfl rfl (fun r1_2 hr1_2 => ?_))))))))))))
 refine oP (pu_geq (oT rfl) ot) rfl (av rfl rfl (tn (nn (tR ?_))))
 exact ret_one .ret (.inl rfl) rfl () (OT.val (oT rfl) (congrArg Value.bool hr1_2)) trivial (by exact pn)
set_option maxHeartbeats 1000000 in
set_option maxRecDepth 20000 in
/-- rhizome/tuple.sets -/
theorem sets_fn (xs : List (List Tp)) (hm : xs.length ≤ 1000000) : Ct Tryz.prog 42 [SlT kL xs] ([]) Unit (fun _ => BoolT (!(xs.any fun l => !risesB l))) (fun _ => []) (fun _ => True) := by
 refine fn_intro Tryz.func42 rfl rfl ?_
 intro H w
 refine sq (te (ec 0 rfl en) (rg (ak rfl (tn (nn (sq (te (ec 0 rfl en) (rg (mv rfl rfl (oA (aC (hasL_fn _ _ (fun l => !risesB l) (by assumption) (fun x => CtV.of0 (sets1_fn x) (by kernel_rfl))) y82 (oc (oT rfl) (oc OT.func oN)) pR) pR rfl rfl (fun _ _ => ?_)))))))))))
 refine oP (pu_not (oT rfl)) rfl (av rfl rfl (tn (nn (tR ?_))))
 exact ret_one .ret (.inl rfl) rfl () (oT rfl) trivial (by exact pn)
end Go.Proofs.YtklhdalppmjnaaaGreatDoor
/- Walks through the Go functions api.Tuple], api.Tuple], tuple.union, tuple.Empty, tuple.Apply, as typed contracts. -/
namespace Go.Proofs.YtklhdalppmjnaaaGreatDoor
open Go Go.Gw Go.So Go.Tu
set_option linter.unusedVariables false
set_option linter.unusedSimpArgs false
variable {K0 : FH} {n0 : Nat}
set_option maxHeartbeats 1000000 in
set_option maxRecDepth 20000 in
/-- slices.Grow[[]rhizome/api.Tuple,rhizome/api.Tuple] -/
theorem Grow_fn (n : Nat) (hm : n ≤ 1000000) : Ct Tryz.prog 110 [IsV nilS, I64 (n : Int)] ([]) Value (fun r => IsV r) (fun r => [OwnI 51 kT r []]) (fun _ => True) := by
 refine fn_intro Tryz.func110 rfl rfl ?_
 intro H w
 refine sq (te (ec 0 rfl (ec 1 rfl en)) (rg (ak rfl (tn (nn (sq (sq (te (ec 0 rfl (ec 1 rfl en)) (rg (mv rfl rfl (oP (pu_lss (oT rfl) ot) rfl (tn (nn (tc (oT rfl) (fun c6 => ?_) (fun c6 => ?_)))))))))))))))
 · try simp only [cq] at c6
   exact absurd c6 (by omega) --done
 · try simp only [cq] at c6
   refine sk (nn (sq (sq (te (ec 0 rfl (ec 1 rfl en)) (rg (mv rfl rfl (mv rfl rfl (oP (pu_cap_nil (oT rfl) Tryz.underlying36) rfl (mv rfl rfl (oP (pu_len_nil (oT rfl) Tryz.underlying36) rfl (oP (pu_sub' (oT rfl) (oT rfl) (by omega)) rfl (oP (pu_sub' (oT rfl) (oT rfl) (by omega)) rfl (av rfl rfl (tn (nn (sq (te (ec 0 rfl (ec 1 rfl en)) (rg (mv rfl rfl (oP (pu_gtr (oT rfl) ot) rfl (tn (nn (tc (oT rfl) (fun c16 => ?_) (fun c16 => ?_))))))))))))))))))))))))
   · try simp only [cq] at c16
     refine te (ec 0 rfl (ec 1 rfl en)) (rg (mv rfl rfl (mv rfl rfl (oP (pu_cap_nil (oT rfl) Tryz.underlying36) rfl (oP (pu_slice_nil (oT rfl) (oT rfl) Tryz.underlying36 y0) rfl (mv rfl rfl (oA (acts_append_make (d := kT) (v0 := []) (oT rfl) (oT rfl) y29 Tryz.underlying3 y0 z38 (by omega) (by omega) (by (simp [maxLen]; omega))) pR rfl rfl (fun v5_5 _ => ?_))))))))
     refine mv rfl rfl (oP (pu_len_nil (oT rfl) Tryz.underlying36) rfl (oA (acts_slice_own_hi (oT rfl) (by exact pA 0 rfl) (oT rfl) Tryz.underlying36 y0 (by omega) (by omega)) (by exact pA 0 rfl) rfl rfl (fun v5_8 _ => ?_)))
     refine av rfl rfl (tn (nn (sq (te (ec 0 rfl en) (rg (mv rfl rfl (av rfl rfl (tn (nn (tR ?_))))))))))
     exact ret_one .ret (.inl rfl) rfl v5_8 (oT rfl) trivial (by repeat first | exact pn | refine pc 0 rfl ?_)
   · try simp only [cq] at c16
     refine tr_nilItem 51 kT (sk (nn (sq (te (ec 0 rfl en) (rg (mv rfl rfl (av rfl rfl (tn (nn (tR ?_))))))))))
     exact ret_one .ret (.inl rfl) rfl nilS (oT rfl) trivial (by repeat first | exact pn | refine pc 0 rfl ?_)
set_option maxHeartbeats 1000000 in
set_option maxRecDepth 20000 in
/-- slices.Concat[[]rhizome/api.Tuple,rhizome/api.Tuple] -/
theorem Concat_fn (ls : List (List Tp)) (hm : ls.length ≤ 1000000) (hf : ls.flatten.length ≤ 1000000) : Ct Tryz.prog 75 [SlT kL ls] ([]) Unit (fun _ => SlT kT ls.flatten) (fun _ => []) (fun _ => True) := by
 refine fn_intro Tryz.func75 rfl rfl ?_
 intro H w
 refine sq (te (ec 0 rfl en) (rg (ak rfl (tn (nn (sq (te (ec 0 rfl en) (rg (ak rfl (tn (nn (sq (sq (te (ec 0 rfl (ec 3 rfl en)) (rg (mv rfl rfl (oP (pls (oT rfl) Tryz.underlying146) rfl (oP (pu_move ot) rfl (tn (nn (tb (tr_loopK (σ := Nat) (ec 0 rfl (ec 9 rfl (ec 10 rfl en))) (fun k => [(11, I64 (k : Int)), (3, I64 ((ls.take k).flatten.length : Int))]) (fun k => []) (fun k => k ≤ ls.length) (fun k => ls.length - k) 0 (Nat.zero_le _) ?_ (op (by exact pn)) ?_))))))))))))))))))))))
 · exact (ec 11 rfl (ec 3 rfl en))
 · rintro k hk
   refine sq (te (ec 0 rfl (ec 3 rfl (ec 9 rfl (ec 10 rfl (ec 11 rfl en))))) (rg (oP (pu_lss (oT rfl) (oT rfl)) rfl (tn (nn (sq (tc (oT rfl) (fun c12 => ?_) (fun c12 => ?_))))))))
   · try simp only [cq] at c12
     refine sk (nn (sq (tb (sq (te (ec 0 rfl (ec 3 rfl (ec 9 rfl (ec 10 rfl (ec 11 rfl en))))) ?_)))))
     have hfl := flat_le ls (k + 1)
     have htf := take_flat (ls := ls) (k := k) (by omega)
     rw [htf, List.length_append] at hfl
     refine rg (oP (pu_index (oT rfl) (oT rfl) Tryz.underlying146 y25 (by omega) (by omega)) rfl (oP (pL (oT rfl) y25) rfl (av rfl rfl (tn (nn (sq (te (ec 0 rfl (ec 3 rfl (ec 5 rfl (ec 9 rfl (ec 10 rfl (ec 11 rfl en)))))) (rg (mv rfl rfl (mv rfl rfl (oP (pls (oT rfl) Tryz.underlying36) rfl (oP (pad (oT rfl) (oT rfl) (by omega)) rfl (av rfl rfl (tn (nn (sq (te (ec 0 rfl (ec 3 rfl (ec 9 rfl (ec 10 rfl (ec 11 rfl en))))) (rg (mv rfl rfl (oP (pu_lss (oT rfl) ot) rfl (tn (nn (tc (oT rfl) (fun c20 => ?_) (fun c20 => ?_))))))))))))))))))))))))
     · try simp only [cq] at c20
       exact absurd c20 (by omega) --done
     · try simp only [cq] at c20
       refine sk (bn (nn (te (ec 0 rfl (ec 3 rfl (ec 9 rfl (ec 10 rfl (ec 11 rfl en))))) (rg (oP (pad (oT rfl) ot (by omega)) rfl (mv rfl rfl (tn (nn ?_))))))))
       exact tg (k + 1) (by omega) (by omega) (ea (ec 11 rfl (es_cons (t := 3) (OT.val (oT rfl) (congrArg (Value.int _) (by rw [htf, List.length_append]; omega))) en)) (ec 0 rfl (ec 9 rfl (ec 10 rfl en)))) (op (by exact pn))
   · try simp only [cq] at c12
     refine tr_exit (tx (tx (bh (nn (sq (te (ec 0 rfl (ec 3 rfl en)) ?_))))))
     obtain rfl : k = ls.length := by omega
     rw [List.take_length]
     refine rg (mv rfl rfl (oA (aC (Grow_fn ls.flatten.length hf) y86 (oc ot (oc (oT rfl) oN)) pR) pR rfl rfl (fun v9_1 _ => ?_)))
     refine av rfl rfl (tn (nn (sq (sq (te (ec 0 rfl (ec 6 rfl en)) (rg (mv rfl rfl (oP (pls (oT rfl) Tryz.underlying146) rfl (oP (pu_move ot) rfl (tn (nn (tb (tr_loopK (σ := Nat × Value) (ec 25 rfl (ec 26 rfl en)) (fun s => [(27, I64 (s.1 : Int)), (6, IsV s.2)]) (fun s => [OwnI 51 kT s.2 (ls.take s.1).flatten]) (fun s => s.1 ≤ ls.length) (fun s => ls.length - s.1) (0, v9_1) (Nat.zero_le _) ?_ (op (by repeat first | exact pn | refine pc 0 rfl ?_)) ?_)))))))))))))
     · exact (ec 27 rfl (ec 6 rfl en))
     · rintro ⟨k2, v⟩ hk2
       dsimp only at hk2 ⊢
       refine sq (te (ec 6 rfl (ec 25 rfl (ec 26 rfl (ec 27 rfl en)))) (rg (oP (pu_lss (oT rfl) (oT rfl)) rfl (tn (nn (sq (tc (oT rfl) (fun c28 => ?_) (fun c28 => ?_))))))))
       · try simp only [cq] at c28
         refine sk (nn (sq (tb (sq (te (ec 6 rfl (ec 25 rfl (ec 26 rfl (ec 27 rfl en)))) ?_)))))
         have hfl2 := flat_le ls (k2 + 1)
         have htf2 := take_flat (ls := ls) (k := k2) (by omega)
         rw [htf2, List.length_append] at hfl2
         refine rg (oP (pu_index (oT rfl) (oT rfl) Tryz.underlying146 y25 (by omega) (by omega)) rfl (oP (pL (oT rfl) y25) rfl (av rfl rfl (tn (nn (te (ec 6 rfl (ec 8 rfl (ec 25 rfl (ec 26 rfl (ec 27 rfl en))))) (rg (mv rfl rfl (mv rfl rfl (oA (acts_append (oT rfl) (by exact pA 0 rfl) (oT rfl) y29 (by omega) (by (simp [maxLen] at *; omega))) (by exact pA 0 rfl) rfl rfl (fun v13_2 _ => ?_)))))))))))
         refine av rfl rfl (tn (bn (nn (te (ec 6 rfl (ec 25 rfl (ec 26 rfl (ec 27 rfl en)))) (rg (oP (pad (oT rfl) ot (by omega)) rfl (mv rfl rfl (tn (nn ?_)))))))))
         exact tg (k2 + 1, v13_2) (by show k2 + 1 ≤ ls.length; omega) (by omega) (ea (ec 27 rfl (ec 6 rfl en)) (ec 25 rfl (ec 26 rfl en))) (op (by rw [htf2]; exact (by repeat first | exact pn | refine pc 0 rfl ?_)))
       · try simp only [cq] at c28
         refine tr_exit (tx (tx (bh (nn (sq (te (ec 6 rfl en) ?_))))))
         obtain rfl : k2 = ls.length := by omega
         rw [List.take_length]
         refine tr_freeze (by exact pA 0 rfl) 6 (oT rfl) ?_
         refine rg (mv rfl rfl (av rfl rfl (tn (nn (tR ?_)))))
         exact ret_one .ret (.inl rfl) rfl () (oT rfl) trivial (by exact pn)
set_option maxHeartbeats 1000000 in
set_option maxRecDepth 20000 in
/-- rhizome/tuple.union -/
theorem union_fn (a b : List Tp) (hab : Small (a ++ b)) : CtM K0 n0 Tryz.prog 44 [SlT kT a, SlT kT b] ([]) Unit (fun _ => FreshT K0 n0 (kF K0 n0) (bothR a b)) (fun _ => []) (fun _ => True) := by
 refine fn_introM Tryz.func44 rfl rfl ?_
 intro H w hK hn
 have hflat : [a, b].flatten = a ++ b := by simp
 have hfl : [a, b].flatten.length ≤ 1000000 := by rw [hflat]; exact hab.1
 refine sq (te (ec 0 rfl (ec 1 rfl en)) (rg (ak rfl (tn (nn (sq (te (ec 0 rfl (ec 1 rfl en)) (rg (mv rfl rfl (mv rfl rfl (oA (acts_lit (d := kL) (v0 := []) y83 y25 z40 (show 2 * 1 ≤ 16777216 from by decide) (by decide) (fills_arr rfl rfl (by decide) (oT rfl) (fills_arr rfl rfl (by decide) (oT rfl) fills_nil))) pR rfl rfl (fun _ _ => ?_))))))))))))
 refine oA (aC (Concat_fn [a, b] (by simp) hfl) y87 (oc (oT rfl) oN) pR) pR rfl rfl (fun _ _ => ?_)
 rw [hflat]
 refine oA (acts_callM (Set_fn (a ++ b) hab) (mk_in hK hn) y77 (oc (oT rfl) oN) pR) pR rfl rfl (fun _ _ => ?_)
 refine av rfl rfl (tn (nn (tR ?_)))
 exact ret_one .ret (.inl rfl) rfl () (oT rfl) trivial (by exact pn)
end Go.Proofs.YtklhdalppmjnaaaGreatDoor
/- From one set to another by their difference, and by two differences at once. Plain Lean. -/
namespace Go.Tu
open Go Go.Gw Go.So
set_option linter.unusedVariables false
set_option linter.unusedSimpArgs false
abbrev psL (x y : Dl) : List Dl := [(x.1, y.1), (x.2, y.2), (x.1, x.2), (y.1, y.2)]
theorem ps_any (x y : Dl) : (psL x y).any (fun p => meetB p.1 p.2) = (meetB x.1 y.1 || meetB x.2 y.2 || meetB x.1 x.2 || meetB y.1 y.2) := by
 simp [psL, List.any, Bool.or_assoc]
theorem ps_all {x y : Dl} {q : Dl → Prop} (h1 : q (x.1, y.1)) (h2 : q (x.2, y.2)) (h3 : q (x.1, x.2)) (h4 : q (y.1, y.2)) {k : Nat} (hk : k < 4) : q (at' (psL x y) (k : Int)) := by
 match k, hk with
 | 0, _ => exact h1
 | 1, _ => exact h2
 | 2, _ => exact h3
 | 3, _ => exact h4
theorem Few.set {l : List Tp} (h : Few l) : Few (setR l) := ⟨Nat.le_trans (setR_len l) h.1, fun x hx => h.2 x (((setR_spec l).2 x).1 hx)⟩
end Go.Tu
namespace Go.Tu
open Go Go.Gw Go.So
end Go.Tu
/- Walks through the Go functions tuple.Then, as typed contracts. -/
namespace Go.Proofs.YtklhdalppmjnaaaGreatDoor
open Go Go.Gw Go.So Go.Tu
set_option linter.unusedVariables false
set_option linter.unusedSimpArgs false
variable {K0 : FH} {n0 : Nat}
theorem nil_K {H : FH} : kL.K H [] [nilS] := ⟨nilS, rfl, none, 0, rfl, by simp, by simp, fun h => by simp at h⟩
theorem z78K {H : FH} : (kP2 kL).K H ([], []) [nilS, nilS] := ⟨rfl, rfl, fun j x h => by
 match j, h with
 | 0, h => simp at h; subst h; exact nil_K
 | 1, h => simp at h; subst h; exact nil_K⟩
theorem z78 : ZeroOf Tryz.prog 127 (kP2 kL) ([], []) := ⟨.agg #[nilS, nilS], by kernel_rfl, fun H => ⟨[nilS, nilS], z78K, rfl⟩⟩
theorem z79 : ZeroOf Tryz.prog 128 (karr 4 (kP2 kL)) (List.replicate 4 ([], [])) := ⟨.agg #[nilS, nilS, nilS, nilS, nilS, nilS, nilS, nilS], by kernel_rfl, fun H => ⟨[nilS, nilS, nilS, nilS, nilS, nilS, nilS, nilS], ⟨rfl, rfl, fun j x h => by
 match j, h with
 | 0, h => simp at h; subst h; exact z78K
 | 1, h => simp at h; subst h; exact z78K
 | 2, h => simp at h; subst h; exact z78K
 | 3, h => simp at h; subst h; exact z78K⟩, rfl⟩⟩

set_option maxHeartbeats 1000000 in
set_option maxRecDepth 20000 in
/-- rhizome/tuple.Then -/
theorem Then_fn (x y : Dl) (h1 : Few x.1) (h2 : Few x.2) (h3 : Few y.1) (h4 : Few y.2) : Ct Tryz.prog 32 [kD.T x, kD.T y] ([]) Unit (fun _ => TupT [kD.T (thenR x y).1, I64 (thenR x y).2]) (fun _ => []) (fun _ => True) := by
 refine fn_intro Tryz.func32 rfl rfl ?_
 intro H w
 refine sq (te (ec 0 rfl (ec 1 rfl en)) (rg (oA (acts_box (d := kD) (oT rfl)) pR rfl rfl (fun g0_0 _ => ?_))))
 refine oA (acts_box (d := kD) (oT rfl)) pR rfl rfl (fun g0_1 _ => ?_)
 refine oA (acts_alloc (z44)) pR rfl rfl (fun g0_2 _ => ?_)
 refine ak rfl (tn (nn (sq (sq (te (ec 2 rfl (ec 3 rfl (ec 4 rfl en))) (rg (oP (pf (oT rfl) y24) rfl (oP (plb (oT rfl) (by exact mA 2 rfl) (Lens.fst (a := kL) (b := kL)) y25) rfl ?_))))))))
 refine oP (pf (oT rfl) y27) rfl (oP (plb (oT rfl) (by exact mA 2 rfl) (Lens.snd (a := kL) (b := kL)) y25) rfl ?_)
 refine oP (pf (oT rfl) y24) rfl (oP (plb (oT rfl) (by exact mA 1 rfl) (Lens.fst (a := kL) (b := kL)) y25) rfl ?_)
 refine oP (pf (oT rfl) y27) rfl (oP (plb (oT rfl) (by exact mA 1 rfl) (Lens.snd (a := kL) (b := kL)) y25) rfl ?_)
 refine oA (acts_lit (d := kL) (v0 := []) y83 y25 z40 (show 4 * 1 ≤ 16777216 from by decide) (by decide) (fills_arr rfl rfl (by decide) (oT rfl) (fills_arr rfl rfl (by decide) (oT rfl) (fills_arr rfl rfl (by decide) (oT rfl) (fills_arr rfl rfl (by decide) (oT rfl) fills_nil))))) pR rfl rfl (fun _ _ => ?_)
 refine oA (aC (sets_fn [x.1, x.2, y.1, y.2] (by simp)) y84 (oc (oT rfl) oN) pR) pR rfl rfl (fun _ _ => ?_)
 refine oP (pu_not (oT rfl)) rfl (tn (nn (tc (oT rfl) (fun c27 => ?_) (fun c27 => ?_))))
 · rw [sets4] at c27
   have hd : thenR x y = (([], []), 1) := by rw [thenR, if_pos (by rw [← c27]; cases risesB x.1 <;> cases risesB x.2 <;> cases risesB y.1 <;> cases risesB y.2 <;> rfl)]
   refine sq (te (ec 4 rfl en) (rg (oP (pu_build (d := kD) (v0 := ([], [])) (ps := [(0, 1), (1, 1)]) z44 (by kernel_rfl) rfl fills_nil) rfl (oA (asv (oT rfl) (oT rfl) (by exact pA 0 rfl) y31) (by exact pA 0 rfl) rfl rfl (fun _ _ => ?_)))))
   refine ak rfl (tn (nn (tR (tt ?_))))
   exact ret_cell_tmp .ret (.inl rfl) rfl () (oT rfl) (by exact mA 0 rfl) y31 (oT rfl) (fun _ _ h => (by rw [hd]; exact h)) trivial (by exact pn)
 · rw [sets4] at c27
   obtain ⟨⟨⟨ra, rb⟩, rc⟩, rd⟩ : ((risesB x.1 = true ∧ risesB x.2 = true) ∧ risesB y.1 = true) ∧ risesB y.2 = true := by simpa using c27
   have hd0 : ¬ (!risesB x.1 || !risesB x.2 || !risesB y.1 || !risesB y.2) = true := by rw [ra, rb, rc, rd]; simp
   refine sk (nn (sq (sq (te (ec 2 rfl (ec 3 rfl (ec 4 rfl en))) (rg (oP (pf (oT rfl) y24) rfl (oP (plb (oT rfl) (by exact mA 2 rfl) (Lens.fst (a := kL) (b := kL)) y25) rfl ?_)))))))
   refine oP (pf (oT rfl) y24) rfl (oP (plb (oT rfl) (by exact mA 1 rfl) (Lens.fst (a := kL) (b := kL)) y25) rfl ?_)
   refine oP (pu_build_arr (d := kP2 kL) (v0 := ([], [])) (agg := false) Tryz.underlying127 y25 z78 rfl (fills_cons rfl Lens.p0 (oT rfl) (fills_cons rfl Lens.p1 (oT rfl) fills_nil))) rfl (oP (pf (oT rfl) y27) rfl (oP (plb (oT rfl) (by exact mA 2 rfl) (Lens.snd (a := kL) (b := kL)) y25) rfl ?_))
   refine oP (pf (oT rfl) y27) rfl (oP (plb (oT rfl) (by exact mA 1 rfl) (Lens.snd (a := kL) (b := kL)) y25) rfl ?_)
   refine oP (pu_build_arr (d := kP2 kL) (v0 := ([], [])) (agg := false) Tryz.underlying127 y25 z78 rfl (fills_cons rfl Lens.p0 (oT rfl) (fills_cons rfl Lens.p1 (oT rfl) fills_nil))) rfl (oP (pf (oT rfl) y24) rfl (oP (plb (oT rfl) (by exact mA 2 rfl) (Lens.fst (a := kL) (b := kL)) y25) rfl ?_))
   refine oP (pf (oT rfl) y27) rfl (oP (plb (oT rfl) (by exact mA 2 rfl) (Lens.snd (a := kL) (b := kL)) y25) rfl ?_)
   refine oP (pu_build_arr (d := kP2 kL) (v0 := ([], [])) (agg := false) Tryz.underlying127 y25 z78 rfl (fills_cons rfl Lens.p0 (oT rfl) (fills_cons rfl Lens.p1 (oT rfl) fills_nil))) rfl (oP (pf (oT rfl) y24) rfl (oP (plb (oT rfl) (by exact mA 1 rfl) (Lens.fst (a := kL) (b := kL)) y25) rfl ?_))
   refine oP (pf (oT rfl) y27) rfl (oP (plb (oT rfl) (by exact mA 1 rfl) (Lens.snd (a := kL) (b := kL)) y25) rfl ?_)
   refine oP (pu_build_arr (d := kP2 kL) (v0 := ([], [])) (agg := false) Tryz.underlying127 y25 z78 rfl (fills_cons rfl Lens.p0 (oT rfl) (fills_cons rfl Lens.p1 (oT rfl) fills_nil))) rfl (oP (pu_build_arr (d := karr 4 (kP2 kL)) (v0 := List.replicate 4 ([], [])) (agg := true) Tryz.underlying128 y89 z79 rfl (fills_arr rfl rfl (by decide) (oT rfl) (fills_arr rfl rfl (by decide) (oT rfl) (fills_arr rfl rfl (by decide) (oT rfl) (fills_arr rfl rfl (by decide) (oT rfl) fills_nil))))) rfl (oP (pu_move ot) rfl (tn (nn (tb (tr_as (T := (karr 4 (kP2 kL)).T (psL x y)) 49 (oT rfl) (tr_loopK (σ := Nat) (ec 2 rfl (ec 3 rfl (ec 4 rfl (ec 49 rfl en)))) (fun k => [(50, I64 (k : Int))]) (fun k => [BlkI g0_0 38 kD x, BlkI g0_1 38 kD y, BlkI g0_2 38 kD ([], [])]) (fun k => k ≤ 4 ∧ ((psL x y).drop k).any (fun p => meetB p.1 p.2) = (psL x y).any (fun p => meetB p.1 p.2)) (fun k => 4 - k) 0 ⟨by omega, rfl⟩ ?_ (op (by repeat first | exact pn | refine pc 0 rfl ?_ | refine pc 1 rfl ?_ | refine pc 2 rfl ?_)) ?_)))))))
   · exact (ec 50 rfl en)
   · rintro k ⟨hk, hk2⟩
     refine sq (te (ec 2 rfl (ec 3 rfl (ec 4 rfl (ec 49 rfl (ec 50 rfl en))))) (rg (oP (pu_lss (oT rfl) ot) rfl (tn (nn (sq (tc (oT rfl) (fun c51 => ?_) (fun c51 => ?_))))))))
     · have hk4 : k < 4 := by have := of_decide_eq_true c51; omega
       have hp : Few (at' (psL x y) (k : Int)).1 ∧ Few (at' (psL x y) (k : Int)).2 ∧ risesB (at' (psL x y) (k : Int)).1 = true ∧ risesB (at' (psL x y) (k : Int)).2 = true := ps_all (q := fun p => Few p.1 ∧ Few p.2 ∧ risesB p.1 = true ∧ risesB p.2 = true) ⟨h1, h3, ra, rc⟩ ⟨h2, h4, rb, rd⟩ ⟨h1, h2, ra, rb⟩ ⟨h3, h4, rc, rd⟩ hk4
       have hst := any_step (l := psL x y) (p := fun p => meetB p.1 p.2) (k := k) (by simp; omega)
       refine sk (nn (sq (tb (sq (te (ec 2 rfl (ec 3 rfl (ec 4 rfl (ec 49 rfl (ec 50 rfl en))))) (rg (oP (pu_index_agg (oT rfl) (oT rfl) Tryz.underlying128 y89 (by omega) (by omega)) rfl (oA (acts_alloc (z78)) pR rfl rfl (fun g5_1 _ => ?_)))))))))
       refine oA (asv (oT rfl) (oT rfl) (by exact pA 0 rfl) y89) (by exact pA 0 rfl) rfl rfl (fun _ _ => ?_)
       refine tn (nn (sq (te (ec 2 rfl (ec 3 rfl (ec 4 rfl (ec 7 rfl (ec 49 rfl (ec 50 rfl en)))))) (rg (oP (pu_pair_var0 (oT rfl) (by exact mA 0 rfl) Tryz.underlying127 y25) rfl ?_)))))
       refine oP (pu_load_p0 (oT rfl) (by exact mA 0 rfl) y25) rfl ?_
       refine oP (pu_pair_var1 (oT rfl) (by exact mA 0 rfl) Tryz.underlying127 y25) rfl ?_
       refine oP (pu_load_p1 (oT rfl) (by exact mA 0 rfl) y25) rfl ?_
       refine oA (aC (walk_fn (at' (psL x y) (k : Int)).1 (at' (psL x y) (k : Int)).2 hp.1.small hp.2.1.small hp.2.2.1 hp.2.2.2) y85 (oc (oT rfl) (oc (oT rfl) oN)) pR) pR rfl rfl (fun _ _ => ?_)
       refine mv rfl rfl (oP (pu_extract (oT rfl) rfl) rfl (oP (pu_extract (oT rfl) rfl) rfl (oP (pu_extract (oT rfl) rfl) rfl (av rfl rfl (av rfl rfl (av rfl rfl (tn (nn (sq (te (ec 2 rfl (ec 3 rfl (ec 4 rfl (ec 9 rfl (ec 49 rfl (ec 50 rfl en)))))) (rg (mv rfl rfl (oP (pls (oT rfl) Tryz.underlying36) rfl (oP (pu_gtr (oT rfl) ot) rfl (tn (nn (tc (oT rfl) (fun c64 => ?_) (fun c64 => ?_))))))))))))))))))
       · have hm := (inter_meet _ _).1 (of_decide_eq_true c64)
         rw [meet_comm] at hm
         have hd : thenR x y = (([], []), 2) := by rw [thenR, if_neg hd0, if_pos (by rw [← ps_any, ← hk2, hst, hm, Bool.true_or])]
         refine sq (te (ec 4 rfl en) (rg (oP (pu_build (d := kD) (v0 := ([], [])) (ps := [(0, 1), (1, 1)]) z44 (by kernel_rfl) rfl fills_nil) rfl (oA (asv (oT rfl) (oT rfl) (by exact pA 3 rfl) y31) (by exact pA 3 rfl) rfl rfl (fun _ _ => ?_)))))
         refine ak rfl (tn (nn (tR (block_ret (tt (tt (block_ret (tt ?_))))))))
         exact ret_cell_tmp .ret (.inl rfl) rfl () (oT rfl) (by exact mA 0 rfl) y31 (oT rfl) (fun _ _ h => (by rw [hd]; exact h)) trivial (by exact pn)
       · have hm : meetB (at' (psL x y) (k : Int)).1 (at' (psL x y) (k : Int)).2 = false := by
          rw [meet_comm, Bool.eq_false_iff]; exact fun e => of_decide_eq_false c64 ((inter_meet _ _).2 e)
         refine sk (bn (nn (te (ec 2 rfl (ec 3 rfl (ec 4 rfl (ec 49 rfl (ec 50 rfl en))))) (rg (oP (pad (oT rfl) ot (by omega)) rfl (mv rfl rfl (tn (nn ?_))))))))
         exact tg (k + 1) ⟨by omega, by rw [← hk2, hst, hm, Bool.false_or]⟩ (by omega) (ea (ec 50 rfl en) (ec 2 rfl (ec 3 rfl (ec 4 rfl (ec 49 rfl en))))) (op (by repeat first | exact pn | refine pc 1 rfl ?_))
     · have hk4 : k = 4 := by have := of_decide_eq_false c51; omega
       have hd : thenR x y = ((bothR (withoutL x.1 y.2) (withoutL y.1 x.2), bothR (withoutL x.2 y.1) (withoutL y.2 x.1)), 0) := by rw [thenR, if_neg hd0, if_neg (by rw [← ps_any, ← hk2, hk4]; simp)]
       refine tr_exit (tx (tx (bh (nn (sq (te (ec 2 rfl (ec 3 rfl (ec 4 rfl en))) (rg (oP (pf (oT rfl) y24) rfl (oP (plb (oT rfl) (by exact mA 0 rfl) (Lens.fst (a := kL) (b := kL)) y25) rfl ?_)))))))))
       refine oP (pf (oT rfl) y27) rfl (oP (plb (oT rfl) (by exact mA 1 rfl) (Lens.snd (a := kL) (b := kL)) y25) rfl ?_)
       refine oA (aC (walk_fn x.1 y.2 h1.small h4.small ra rd) y85 (oc (oT rfl) (oc (oT rfl) oN)) pR) pR rfl rfl (fun _ _ => ?_)
       refine mv rfl rfl (oP (pu_extract (oT rfl) rfl) rfl (oP (pu_extract (oT rfl) rfl) rfl (oP (pu_extract (oT rfl) rfl) rfl (av rfl rfl (av rfl rfl (av rfl rfl (tn (nn (sq (te (ec 2 rfl (ec 3 rfl (ec 4 rfl (ec 11 rfl (ec 13 rfl en))))) (rg (oP (pf (oT rfl) y27) rfl (oP (plb (oT rfl) (by exact mA 0 rfl) (Lens.snd (a := kL) (b := kL)) y25) rfl ?_)))))))))))))
       refine oP (pf (oT rfl) y24) rfl (oP (plb (oT rfl) (by exact mA 1 rfl) (Lens.fst (a := kL) (b := kL)) y25) rfl ?_)
       refine oA (aC (walk_fn x.2 y.1 h2.small h3.small rb rc) y85 (oc (oT rfl) (oc (oT rfl) oN)) pR) pR rfl rfl (fun _ _ => ?_)
       refine mv rfl rfl (oP (pu_extract (oT rfl) rfl) rfl (oP (pu_extract (oT rfl) rfl) rfl (oP (pu_extract (oT rfl) rfl) rfl (av rfl rfl (av rfl rfl (av rfl rfl (tn (nn (sq (te (ec 4 rfl (ec 11 rfl (ec 13 rfl (ec 14 rfl (ec 16 rfl en))))) (rg (mv rfl rfl (mv rfl rfl (oA (acts_callM (union_fn (K0 := noK) (n0 := 0) (withoutL x.1 y.2) (withoutL y.1 x.2) ((h1.without _).both (h3.without _))) mk_none y88 (oc (oT rfl) (oc (oT rfl) oN)) pR) pR rfl rfl (fun _ _ => ?_)))))))))))))))
       refine mv rfl rfl (mv rfl rfl (oA (acts_callM (union_fn (K0 := noK) (n0 := 0) (withoutL x.2 y.1) (withoutL y.2 x.1) ((h2.without _).both (h4.without _))) mk_none y88 (oc (oT rfl) (oc (oT rfl) oN)) pR) pR rfl rfl (fun _ _ => ?_)))
       refine tr_as 87 (OT.unfr2 (oT rfl)) (tr_as 90 (OT.unfr2 (oT rfl)) (oP (pu_build (d := kD) (v0 := ([], [])) (ps := [(0, 1), (1, 1)]) z44 (by kernel_rfl) rfl (fills_cons rfl (Lens.fst (a := kL) (b := kL)) (oT rfl) (fills_cons rfl (Lens.snd (a := kL) (b := kL)) (oT rfl) fills_nil))) rfl (oA (asv (oT rfl) (oT rfl) (by exact pA 2 rfl) y31) (by exact pA 2 rfl) rfl rfl (fun _ _ => ?_))))
       refine ak rfl (tn (nn (tR ?_)))
       exact ret_cell_tmp .ret (.inl rfl) rfl () (oT rfl) (by exact mA 0 rfl) y31 (oT rfl) (fun _ _ h => (by rw [hd]; exact h)) trivial (by exact pn)
end Go.Proofs.YtklhdalppmjnaaaGreatDoor
/- What can be reached: chains of pairs; pairs that come and go. Plain. -/
namespace Go.Dr
set_option linter.unusedVariables false
set_option linter.unusedSimpArgs false
abbrev Pr := Int × Int
inductive TC (E : List Pr) : Int → Int → Prop
 | one {a b : Int} (h : (a, b) ∈ E) : TC E a b
 | cons {a c b : Int} (h : (a, c) ∈ E) (t : TC E c b) : TC E a b
theorem TC.trans {E : List Pr} {a b c : Int} (h : TC E a b) (g : TC E b c) : TC E a c := by
 induction h with
 | one h => exact .cons h g
 | cons h _ ih => exact .cons h (ih g)
theorem TC.mono {E F : List Pr} {a b : Int} (h : TC E a b) (hs : ∀ p ∈ E, p ∈ F) : TC F a b := by
 induction h with
 | one h => exact .one (hs _ h)
 | cons h _ ih => exact .cons (hs _ h) ih
theorem TC.congr {E F : List Pr} {a b : Int} (hs : ∀ p, p ∈ E ↔ p ∈ F) : TC E a b ↔ TC F a b := ⟨fun h => h.mono fun p hp => (hs p).1 hp, fun h => h.mono fun p hp => (hs p).2 hp⟩
theorem TC.nil {a b : Int} : ¬ TC [] a b := fun h => by cases h with
 | one h => cases h
 | cons h _ => cases h
def RT (E : List Pr) (a b : Int) : Prop := b = a ∨ TC E a b
theorem RT.tc {E : List Pr} {a b c : Int} (h : RT E a b) (g : TC E b c) : TC E a c := h.elim (fun e => e ▸ g) fun h => h.trans g
theorem TC.rt {E : List Pr} {a b c : Int} (h : TC E a b) (g : RT E b c) : TC E a c := g.elim (fun e => e ▸ h) fun g => h.trans g
theorem RT.mono {E F : List Pr} {a b : Int} (h : RT E a b) (hs : ∀ p ∈ E, p ∈ F) : RT F a b := h.imp id fun h => h.mono hs
theorem RT.trans {E : List Pr} {a b c : Int} (h : RT E a b) (g : RT E b c) : RT E a c := h.elim (fun e => e ▸ g) fun h => .inr (h.rt g)
theorem TC.ends {E : List Pr} {a b : Int} (h : TC E a b) : (∃ c, (a, c) ∈ E) ∧ ∃ c, (c, b) ∈ E := by
 induction h with
 | one h => exact ⟨⟨_, h⟩, ⟨_, h⟩⟩
 | cons h _ ih => exact ⟨⟨_, h⟩, ih.2⟩
theorem tc_split {E F l : List Pr} (hs : ∀ p ∈ E, p ∈ F ∨ p ∈ l) {a b : Int} (h : TC E a b) : TC F a b ∨ ∃ p ∈ l, RT E a p.1 ∧ RT E p.2 b := by
 induction h with
 | @one a b h =>
  rcases hs _ h with h1 | h1
  · exact .inl (.one h1)
  · exact .inr ⟨_, h1, .inl rfl, .inl rfl⟩
 | @cons a c b h t ih =>
  rcases hs _ h with h1 | h1
  · rcases ih with ih | ⟨p, hp, h2, h3⟩
    · exact .inl (.cons h1 ih)
    · exact .inr ⟨p, hp, .inr ((TC.one h).rt h2), h3⟩
  · exact .inr ⟨_, h1, .inl rfl, .inr t⟩
theorem tc_insert {E F : List Pr} {p : Pr} (hs : ∀ q, q ∈ F ↔ q ∈ E ∨ q = p) {a b : Int} : TC F a b ↔ TC E a b ∨ (RT E a p.1 ∧ RT E p.2 b) := by
 have hE : ∀ q ∈ E, q ∈ F := fun q hq => (hs q).2 (.inl hq)
 have hp : TC F p.1 p.2 := .one ((hs _).2 (.inr rfl))
 constructor
 · intro h
   induction h with
   | @one a b h =>
    rcases (hs _).1 h with h1 | h1
    · exact .inl (.one h1)
    · subst h1; exact .inr ⟨.inl rfl, .inl rfl⟩
   | @cons a c b h t ih =>
    rcases (hs _).1 h with h1 | h1
    · rcases ih with ih | ⟨h2, h3⟩
      · exact .inl (.cons h1 ih)
      · exact .inr ⟨.inr ((TC.one h1).rt h2), h3⟩
    · subst h1
      rcases ih with ih | ⟨h2, h3⟩
      · exact .inr ⟨.inl rfl, .inr ih⟩
      · exact .inr ⟨.inl rfl, h3⟩
 · rintro (h | ⟨h1, h2⟩)
   · exact h.mono hE
   · exact (h1.mono hE).tc (hp.rt (h2.mono hE))
def Drv (E : List Pr) (S : Int → Int → Prop) (a b : Int) : Prop := (a, b) ∈ E ∨ ∃ c, (a, c) ∈ E ∧ S c b
theorem Drv.tc {E : List Pr} {S : Int → Int → Prop} {a b : Int} (hS : ∀ a b, S a b → TC E a b) (h : Drv E S a b) : TC E a b := h.elim .one fun ⟨c, h1, h2⟩ => .cons h1 (hS _ _ h2)
theorem tc_rest {E F l : List Pr} {S : Int → Int → Prop} (hF : ∀ p, p ∈ F ↔ p ∈ E ∧ p ∉ l) (hS : ∀ a b, S a b → TC F a b) (hg : ∀ a b, TC E a b → S a b ∨ ¬ Drv F S a b) {a b : Int} : S a b ↔ TC F a b := by
 refine ⟨hS a b, fun h => ?_⟩
 have hE : ∀ p ∈ F, p ∈ E := fun p hp => ((hF p).1 hp).1
 induction h with
 | one h => exact (hg _ _ (.one (hE _ h))).resolve_right fun hn => hn (.inl h)
 | cons h t ih => exact (hg _ _ (.cons (hE _ h) (t.mono hE))).resolve_right fun hn => hn (.inr ⟨_, h, ih⟩)
theorem tc_keep {E F l : List Pr} (hF : ∀ p, p ∈ F ↔ p ∈ E ∧ p ∉ l) {a b : Int} (h : TC E a b) (hn : ¬ ∃ p ∈ l, RT E a p.1 ∧ RT E p.2 b) : TC F a b :=
 (tc_split (E := E) (F := F) (l := l) (fun p hp => (Classical.em (p ∈ l)).elim .inr fun hl => .inl ((hF p).2 ⟨hp, hl⟩)) h).resolve_right hn
end Go.Dr
/- A relation's two maps of maps: what they hold, and what putting and taking does to them. Plain. -/
namespace Go.Dr
open Go Go.Gw
set_option linter.unusedVariables false
set_option linter.unusedSimpArgs false
abbrev Inn := Nat × List (Int × Bool)
abbrev Sd := List (Int × Inn)
def hdS (s : Sd) : List (Int × Value) := s.map fun p => (p.1, mp p.2.1)
def hasS (s : Sd) (u v : Int) : Bool := ((lkp u s).bind fun x => lkp v x.2).getD false
def ptS (s : Sd) (u : Int) : Value := (lkp u (hdS s)).getD (.map none)
def rowS (s : Sd) (u : Int) : List Int := ((lkp u s).map fun x => keys x.2).getD []
def putS (u v : Int) (g : Nat) (s : Sd) : Sd := match lkp u s with
 | some x => ptk u (x.1, ptk v true x.2) s
 | none => ptk u (g, [(v, true)]) s
def dropS (u v : Int) (s : Sd) : Sd := match lkp u s with
 | some x => ptk u (x.1, dlk v x.2) s
 | none => s
structure SdOk (s : Sd) : Prop where
 nd : (keys s).Nodup
 inn : ∀ u x, lkp u s = some x → (keys x.2).Nodup ∧ ∀ v b, lkp v x.2 = some b → b = true
theorem hdS_lkp (s : Sd) (u : Int) : lkp u (hdS s) = (lkp u s).map fun x => mp x.1 := lkp_map (fun x : Inn => mp x.1)
theorem hdS_ptk (u : Int) (x : Inn) (s : Sd) : hdS (ptk u x s) = ptk u (mp x.1) (hdS s) := ptk_map (fun x : Inn => mp x.1)
theorem ptS_some {s : Sd} {u : Int} {x : Inn} (h : lkp u s = some x) : ptS s u = mp x.1 := by unfold ptS; rw [hdS_lkp, h]; rfl
theorem ptS_none {s : Sd} {u : Int} (h : lkp u s = none) : ptS s u = .map none := by unfold ptS; rw [hdS_lkp, h]; rfl
theorem hasS_some {s : Sd} {u v : Int} {x : Inn} (h : lkp u s = some x) : hasS s u v = (lkp v x.2).getD false := by unfold hasS; rw [h]; rfl
theorem hasS_none {s : Sd} {u v : Int} (h : lkp u s = none) : hasS s u v = false := by unfold hasS; rw [h]; rfl
theorem sdok_nil : SdOk [] := ⟨List.nodup_nil, fun u x h => by cases h⟩
theorem hasS_nil (u v : Int) : hasS [] u v = false := rfl
theorem hasS_ptk {s : Sd} {u a b : Int} {x : Inn} : hasS (ptk u x s) a b = if u = a then (lkp b x.2).getD false else hasS s a b := by
 unfold hasS
 rw [lkp_put]
 split <;> rfl
theorem hasS_put {s : Sd} {u v a b : Int} {g : Nat} : hasS (putS u v g s) a b = (decide (a = u ∧ b = v) || hasS s a b) := by
 unfold putS
 cases h : lkp u s with
 | some x =>
  show hasS (ptk u (x.1, ptk v true x.2) s) a b = _
  rw [hasS_ptk]
  by_cases e : u = a
  · subst e
    rw [if_pos rfl, hasS_some h]
    show (lkp b (ptk v true x.2)).getD false = _
    rw [lkp_put]
    by_cases e2 : v = b
    · subst e2; simp
    · rw [if_neg e2, decide_eq_false (fun h => e2 h.2.symm)]; rfl
  · rw [if_neg e, decide_eq_false (fun h => e h.1.symm)]; rfl
 | none =>
  show hasS (ptk u (g, [(v, true)]) s) a b = _
  rw [hasS_ptk]
  by_cases e : u = a
  · subst e
    rw [if_pos rfl, hasS_none h]
    by_cases e2 : v = b
    · subst e2; simp [lkp]
    · have e3 : ¬ b = v := fun h => e2 h.symm
      simp [lkp, e2, e3]
  · rw [if_neg e, decide_eq_false (fun h => e h.1.symm)]; rfl
theorem hasS_drop {s : Sd} (hs : SdOk s) {u v a b : Int} : hasS (dropS u v s) a b = (!decide (a = u ∧ b = v) && hasS s a b) := by
 unfold dropS
 cases h : lkp u s with
 | some x =>
  show hasS (ptk u (x.1, dlk v x.2) s) a b = _
  rw [hasS_ptk]
  by_cases e : u = a
  · subst e
    rw [if_pos rfl, hasS_some h]
    show (lkp b (dlk v x.2)).getD false = _
    rw [lkp_del (hs.inn _ _ h).1]
    by_cases e2 : v = b
    · subst e2; simp
    · rw [if_neg e2, decide_eq_false (fun h => e2 h.2.symm)]; rfl
  · rw [if_neg e, decide_eq_false (fun h => e h.1.symm)]; rfl
 | none =>
  show hasS s a b = _
  by_cases e : a = u ∧ b = v
  · obtain ⟨rfl, rfl⟩ := e
    rw [hasS_none h]; simp
  · rw [decide_eq_false e]; rfl
theorem SdOk.ptk {s : Sd} (hs : SdOk s) {u : Int} {x : Inn} (h1 : (keys x.2).Nodup) (h2 : ∀ v b, lkp v x.2 = some b → b = true) : SdOk (ptk u x s) := ⟨ptk_nodup hs.nd, fun a y h => by
 rw [lkp_put] at h
 by_cases e : u = a
 · rw [if_pos e] at h; cases h; exact ⟨h1, h2⟩
 · rw [if_neg e] at h; exact hs.inn a y h⟩
theorem SdOk.put {s : Sd} (hs : SdOk s) {u v : Int} {g : Nat} : SdOk (putS u v g s) := by
 unfold putS
 cases h : lkp u s with
 | some x =>
  refine hs.ptk (ptk_nodup (hs.inn _ _ h).1) fun w b hb => ?_
  rw [show ((x.1, Go.Gw.ptk v true x.2) : Inn).2 = Go.Gw.ptk v true x.2 from rfl, lkp_put] at hb
  split at hb
  · cases hb; rfl
  · exact (hs.inn _ _ h).2 _ _ hb
 | none =>
  refine hs.ptk (by simp [keys]) fun w b hb => ?_
  simp only [lkp] at hb
  split at hb
  · cases hb; rfl
  · cases hb
theorem SdOk.drop {s : Sd} (hs : SdOk s) {u v : Int} : SdOk (dropS u v s) := by
 unfold dropS
 cases h : lkp u s with
 | some x =>
  refine hs.ptk (dlk_nodup (hs.inn _ _ h).1) fun w b hb => ?_
  rw [show ((x.1, dlk v x.2) : Inn).2 = dlk v x.2 from rfl, lkp_del (hs.inn _ _ h).1] at hb
  split at hb
  · cases hb
  · exact (hs.inn _ _ h).2 _ _ hb
 | none => exact hs
theorem rowS_mem {s : Sd} (hs : SdOk s) {u v : Int} : v ∈ rowS s u ↔ hasS s u v = true := by
 unfold rowS
 cases h : lkp u s with
 | some x =>
  rw [hasS_some h]
  show v ∈ keys x.2 ↔ _
  cases hv : lkp v x.2 with
  | none => exact ⟨fun hk => absurd hk (lkp_none.1 hv), fun h => by cases h⟩
  | some b => rw [(hs.inn _ _ h).2 _ _ hv]; exact ⟨fun _ => rfl, fun _ => List.mem_map.2 ⟨_, lkp_mem hv, rfl⟩⟩
 | none =>
  rw [hasS_none h]
  exact Iff.intro (fun h => nomatch h) (fun h => nomatch h)
theorem rowS_nodup {s : Sd} (hs : SdOk s) {u : Int} : (rowS s u).Nodup := by
 unfold rowS
 cases h : lkp u s with
 | some x => exact (hs.inn _ _ h).1
 | none => exact List.nodup_nil
structure RS where
 f : Sd
 t : Sd
 n : Int
structure RelOk (P : List Pr) (r : RS) : Prop where
 nd : P.Nodup
 fo : SdOk r.f
 to : SdOk r.t
 f : ∀ a b, hasS r.f a b = decide ((a, b) ∈ P)
 t : ∀ a b, hasS r.t b a = decide ((a, b) ∈ P)
 n : r.n = (P.length : Int)
theorem relok_nil : RelOk [] ⟨[], [], 0⟩ := ⟨List.nodup_nil, sdok_nil, sdok_nil, fun a b => by simp [hasS_nil], fun a b => by simp [hasS_nil], rfl⟩
theorem RelOk.put {P : List Pr} {r : RS} (h : RelOk P r) {p : Pr} (hp : p ∉ P) {g g' : Nat} : RelOk (P ++ [p]) ⟨putS p.1 p.2 g r.f, putS p.2 p.1 g' r.t, r.n + 1⟩ := ⟨List.nodup_append.2 ⟨h.nd, by simp, fun a ha b hb e => by
 have : b = p := by simpa using hb
 subst this; subst e; exact hp ha⟩, h.fo.put, h.to.put, fun a b => by
  rw [hasS_put, h.f, Bool.eq_iff_iff]
  simp only [Bool.or_eq_true, decide_eq_true_eq, List.mem_append, List.mem_singleton]
  constructor
  · rintro (⟨rfl, rfl⟩ | h1)
    · exact .inr rfl
    · exact .inl h1
  · rintro (h1 | rfl)
    · exact .inr h1
    · exact .inl ⟨rfl, rfl⟩, fun a b => by
  rw [hasS_put, h.t, Bool.eq_iff_iff]
  simp only [Bool.or_eq_true, decide_eq_true_eq, List.mem_append, List.mem_singleton]
  constructor
  · rintro (⟨rfl, rfl⟩ | h1)
    · exact .inr rfl
    · exact .inl h1
  · rintro (h1 | rfl)
    · exact .inr h1
    · exact .inl ⟨rfl, rfl⟩, by
  show r.n + 1 = _
  rw [h.n, List.length_append, List.length_singleton]; rfl⟩
theorem RelOk.drop {P : List Pr} {r : RS} (h : RelOk P r) {p : Pr} (hp : p ∈ P) : RelOk (P.erase p) ⟨dropS p.1 p.2 r.f, dropS p.2 p.1 r.t, r.n - 1⟩ := ⟨h.nd.erase p, h.fo.drop, h.to.drop, fun a b => by
      rw [hasS_drop h.fo, h.f, Bool.eq_iff_iff]
      simp only [Bool.and_eq_true, Bool.not_eq_true', decide_eq_true_eq, decide_eq_false_iff_not, h.nd.mem_erase_iff]
      constructor
      · rintro ⟨h1, h2⟩
        exact ⟨fun e => h1 ⟨congrArg Prod.fst e, congrArg Prod.snd e⟩, h2⟩
      · rintro ⟨h1, h2⟩
        exact ⟨fun e => h1 (Prod.ext e.1 e.2), h2⟩, fun a b => by
      rw [hasS_drop h.to, h.t, Bool.eq_iff_iff]
      simp only [Bool.and_eq_true, Bool.not_eq_true', decide_eq_true_eq, decide_eq_false_iff_not, h.nd.mem_erase_iff]
      constructor
      · rintro ⟨h1, h2⟩
        exact ⟨fun e => h1 ⟨congrArg Prod.snd e, congrArg Prod.fst e⟩, h2⟩
      · rintro ⟨h1, h2⟩
        exact ⟨fun e => h1 (Prod.ext e.2 e.1), h2⟩, by
      show r.n - 1 = _
      have := List.length_erase_of_mem hp
      have h2 := List.length_pos_of_mem hp
      rw [h.n, this]; omega⟩
theorem RelOk.congr {P P' : List Pr} {r : RS} (h : RelOk P r) (hp : P.Perm P') : RelOk P' r := ⟨hp.nodup_iff.1 h.nd, h.fo, h.to, fun a b => by rw [h.f]; simp only [hp.mem_iff], fun a b => by rw [h.t]; simp only [hp.mem_iff], by rw [h.n, hp.length_eq]⟩
end Go.Dr
/- Typed walks: the keys of a map as a row (maps.Keys with slices.Collect, with slices.Sorted), slices.Sort, slices.Compact of whole numbers: the kit's contracts as contracts of types. Over any program. -/
namespace Go.Gw
open Go Go.Maps Go.RowKit Go.Shelf Go.MapKept Go.Proofs
set_option linter.unusedVariables false
set_option linter.unusedSimpArgs false
section
variable {P : Program} {ρ σ : Ren} {H : FH} {w w' : World}
theorem st_below {M : Nat → Prop} (hon : On H w) (hb : Below w.heap.size w w') : St M H w H w' :=
 ⟨Sub.refl _, fun k o h => by
  have h1 := hon k o h
  have hlt : k < w.heap.size := (Array.getElem?_eq_some_iff.1 h1).1
  rw [hb.block k hlt]; exact h1, hb.os, hb.tape, hb.output, hb.size, fun k hk _ => hb.block k hk, fun k o h => .inl h⟩
theorem reps_int (H : FH) (xs : List Int) : Reps (kint .i64) H xs (xs.map encZ) := by
 refine ⟨by simp [kint, scalar], fun j x h => ?_⟩
 have hj : j < xs.length := (List.getElem?_eq_some_iff.1 h).1
 show ((xs.map encZ).drop (j * 1)).take 1 = [encZ x]
 rw [Nat.mul_one, List.drop_eq_getElem_cons (by simpa using hj), List.take_succ_cons, List.take_zero, List.getElem_map, (List.getElem?_eq_some_iff.1 h).2]
theorem row_zero {base : Nat} {e : TypeId} {v : Value} {n : Nat} {xs : List Value} (h : w.ownsRow base e 1 v n xs) : w.ownsRow 0 e 1 v n xs := ⟨h.1, h.2.imp id fun ⟨g, cap, cur, h1, _, h2⟩ => ⟨g, cap, cur, h1, Nat.zero_le _, h2⟩⟩
theorem owns_row {e : TypeId} {v : Value} {ss : List Int} {J : List It} (hon : On H w) (hb : Below w.heap.size w w') (hr : w'.ownsRow w.heap.size e 1 v ss.length (ss.map encZ)) (ho : Owns (fun _ => True) w H J) :
 Owns (fun g => g ∈ blks J ∨ w.heap.size ≤ g) w' H (OwnI e (kint .i64) v ss :: J) := by
 have hp : (OwnI e (kint .i64) v ss).p w' H := ⟨_, row_zero hr, reps_int H ss⟩
 have hs : St noM H w H w' := st_below hon hb
 have hJ : Owns (fun g => g ∈ blks J ∨ w.heap.size ≤ g) w' H J := by
  have h1 := ho.st hs fun g _ h => h
  exact ⟨h1.all, h1.nodup, fun g hg => ⟨(h1.own g hg).1, (h1.own g hg).2.1, .inl hg⟩⟩
 have hnew : ∀ g, v.ownBlock = some g → w.heap.size ≤ g ∧ g < w'.heap.size := by
  intro g hg
  rcases hr.2 with ⟨rfl, _⟩ | ⟨g', cap, cur, rfl, h1, h2, _⟩
  · cases hg
  · cases hg
    exact ⟨h1, (Array.getElem?_eq_some_iff.1 h2).1⟩
 refine Owns.append (L := [OwnI e (kint .i64) v ss]) (J := J) ⟨fun i hi => by rw [List.mem_singleton.1 hi]; exact hp, ?_, fun g hg => ?_⟩ hJ fun g hg hj => ?_
 · unfold blks
   cases hv : v.ownBlock with
   | none => rw [List.filterMap_cons_none (show (OwnI e (kint .i64) v ss).blk = none from hv)]; exact List.nodup_nil
   | some g => rw [List.filterMap_cons_some (show (OwnI e (kint .i64) v ss).blk = some g from hv)]; simp
 · obtain ⟨i, hi, h1⟩ := List.mem_filterMap.1 hg
   rw [List.mem_singleton.1 hi] at h1
   obtain ⟨h2, h3⟩ := hnew g h1
   refine ⟨h3, ?_, .inr h2⟩
   cases hH : H g with
   | none => rfl
   | some o => have := (Array.getElem?_eq_some_iff.1 (hon g o hH)).1; omega
 · obtain ⟨i, hi, h1⟩ := List.mem_filterMap.1 hg
   rw [List.mem_singleton.1 hi] at h1
   have h2 := (hnew g h1).1
   have h3 := (ho.own g hj).1
   omega
abbrev in64 (n : Int) : Prop := -9223372036854775808 ≤ n ∧ n ≤ 9223372036854775807
def KeysOf (H : FH) (w : World) (v : Value) (l : List Int) : Prop := (v = .map none ∧ l = []) ∨ ∃ (α : Type) (g : Nat) (V : α → Ty) (m : List (Int × α)) (es : Array MapEntry) (clock : Nat), v = .map (some g) ∧ w.heap[g]? = some (.map es clock) ∧ MapR encZ V H m es clock ∧ l = keys m ∧ (∀ k ∈ l, in64 k) ∧ m.length ≤ 1000000
def noR : Value → Option (DataW Unit × List MemPlace) := fun _ => some (.nil, [])
def kk : Value → Int | .int _ a => a | _ => 0
theorem keyOf_in {k : TypeId} (hk : P.underlying k = some (.int .i64)) {a : Int} (h : in64 a) : keyOf P k (encZ a) = some (.int .i64 a) := by
 have hw : (Lit.int .i64 a).wf = true := by
  obtain ⟨h1, h2⟩ := h
  have e1 : IntKind.i64.min = -9223372036854775808 := by decide
  have e2 : IntKind.i64.max = 9223372036854775807 := by decide
  simp only [Lit.wf, e1, e2, Bool.and_eq_true, decide_eq_true_eq]; omega
 simp [keyOf, hk, mapKey, encZ, hw]
theorem gives (L : SlLaysZI.n10 P ρ) (n : Nat) (hn : 1 ≤ n) {b : Nat} {v : Value} {l : List Int} (hb : w.cell? ⟨b, 0, none⟩ = some v) (hlt : b < w.heap.size) (hk : KeysOf H w v l) :
 ∃ N, N ≤ 1000000 ∧ SeqGives Fence.wide n P (ρ.f 10) #[.pointer (some ⟨b, 0, none⟩)] encZ (fun ss => ss.Perm l) N w := by
 rcases hk with ⟨rfl, rfl⟩ | ⟨α, g, V, m, es, clock, rfl, hg, hR, rfl, hin, hm⟩
 · refine ⟨0, by omega, ?_⟩
   have := AnyZI.keys_gives_nil L Fence.wide n trivial rfl b w hlt hb
   simpa only [List.perm_nil] using this
 · have hu := L.t26
   have hkey : ∀ e ∈ es.toList, ∃ a, e.key = encZ a ∧ in64 a := fun e he => by
    have h1 : e.key ∈ es.toList.map (·.key) := List.mem_map.2 ⟨e, he, rfl⟩
    rw [hR.key] at h1
    obtain ⟨p, hp, h2⟩ := List.mem_map.1 h1
    exact ⟨p.1, h2.symm, hin _ (List.mem_map.2 ⟨p, hp, rfl⟩)⟩
   have hrd : ∀ e ∈ es.toList, WideElems.rd P (ρ.t 26) noR e = some (.int .i64 (kk e.key), .nil) := fun e he => by
    obtain ⟨a, h1, h2⟩ := hkey e he
    simp [WideElems.rd, h1, keyOf_in hu h2, noR, kk, encZ]
   have hsz : es.size = m.length := hR.len
   have hst : Stamped es clock := (stamped_iff es clock).2 ⟨hR.lt, hR.bn, by
    have h1 : (es.toList.map (·.key)).Nodup := by
     rw [hR.key]
     have h2 : (m.map fun p => encZ p.1) = (keys m).map encZ := by unfold keys; rw [List.map_map]; rfl
     rw [h2]
     exact List.Pairwise.map _ (fun a b hab e => hab (by simpa [encZ] using e)) hR.nd
    exact List.pairwise_map.1 h1⟩
   have hown : w.ownsMap P (ρ.t 26) noR g es.size (.map ((es.toList.map (WideElems.rg P (ρ.t 26) noR)).foldr DataW.insert [])) :=
    ⟨es, clock, hg, ⟨by rw [hsz]; unfold maxLen; omega, hst, fun x hx => ⟨_, hrd x hx⟩⟩, Nat.le_refl _, rfl⟩
   have hks : (es.toList.map (WideElems.rg P (ρ.t 26) noR)).map (fun p => intOf p.1) = keys m := by
    have h1 : es.toList.map (fun e => intOf (WideElems.rg P (ρ.t 26) noR e).1) = es.toList.map fun e => kk e.key := List.map_congr_left fun e he => by
     unfold WideElems.rg; rw [hrd e he]; rfl
    have h2 : (es.toList.map (·.key)).map kk = (m.map fun p => encZ p.1).map kk := congrArg _ hR.key
    rw [List.map_map] at h2 ⊢
    rw [List.map_map] at h2
    exact h1.trans (h2.trans rfl)
   refine ⟨m.length, hm, ?_⟩
   have := AnyZI.keys_gives L (H := Unit) Fence.wide n trivial rfl hn b g es.size _ w hlt hb hown
   have hN : Maps.size (DataW.map ((es.toList.map (WideElems.rg P (ρ.t 26) noR)).foldr DataW.insert [])) = m.length := by
    rw [← hsz]; exact length_read es
   rw [hN] at this
   have hp : (intKeys (DataW.map ((es.toList.map (WideElems.rg P (ρ.t 26) noR)).foldr DataW.insert []))).Perm (keys m) := by
    have h1 := (WideShapes.sorted_perm (es.toList.map (WideElems.rg P (ρ.t 26) noR))).map (fun p => intOf p.1)
    rw [hks] at h1
    exact h1
   refine fun l' J W hW hJ hY h0 => ?_
   refine (this l' J W hW hJ hY h0).mono ?_
   rintro e W' ⟨h1, xs, h2, h3⟩
   exact ⟨h1, xs, h2.trans hp, h3⟩
end
section
variable {P : Program} {ρ σ τ : Ren} {α : Type} {d : Kd α} {x : α} {t : TypeId} {b : Nat} {l : List Int} {J : List It}
def HasKeys (d : Kd α) (x : α) (J : List It) (l : List Int) : Prop := ∀ H w cs, On H w → d.K H x cs → Owns (fun _ => True) w H J → ∃ v, cs = [v] ∧ KeysOf H w v l
theorem HasKeys.world (h : HasKeys d x J l) {H : FH} {w : World} (hon : On H w) (ho : Owns (fun _ => True) w H (BlkI b t d x :: J)) : b < w.heap.size ∧ ∃ v, w.cell? ⟨b, 0, none⟩ = some v ∧ KeysOf H w v l := by
 obtain ⟨cs, h1, h2⟩ := ho.all _ List.mem_cons_self
 have h3 := ho.own b (blk_mem (i := BlkI b t d x) List.mem_cons_self rfl)
 obtain ⟨v, rfl, hk⟩ := h H w cs hon h1 (Owns.right (L := [BlkI b t d x]) ho)
 exact ⟨h3.1, v, by simp [World.cell?, h2], hk⟩
theorem keys_ct (L : SlLaysZI.n7 P ρ) (hd : ∀ H v, (d.T x).p H v → ∃ o, v = .map o) : Ct P (ρ.f 7) [d.T x] [] Nat (fun b => IsV (.func (.func (ρ.f 10)) #[] #[pt b 0])) (fun b => [BlkI b (ρ.t 23) d x]) (fun _ => True) := by
 intro H w args hon hA hO
 match args, hA with
 | [v], hA =>
  have hv := hA.1
  obtain ⟨o, rfl⟩ := hd H v hv
  obtain ⟨cs, hK, hc⟩ := d.ofT hv
  refine ((callsIn_wide.1 (AnyZI.keys_in L Fence.wide 0 trivial rfl o w)).mono fun e w' hp => ?_)
  obtain ⟨rfl, rfl⟩ := hp
  refine ⟨w.heap.size, _, H, rfl, trivial, st_alloc hon _, rfl, ?_⟩
  refine owns_new (J := BlkI w.heap.size (ρ.t 23) d x) ⟨cs, hK, ?_⟩ (.inr rfl) (by simp) hon
  rw [heap_alloc_new]
  have hcs : cs = [.map o] := by
   have hl := d.len hK
   by_cases ha : d.agg = true
   · rw [ha] at hc; exact absurd hc (by intro h; cases h)
   · have ha : d.agg = false := by simpa using ha
     rw [ha] at hc
     rw [d.szone ha] at hl
     match cs, hl, hc with
     | [c], _, hc => exact congrArg (fun x => [x]) hc.symm
  rw [hcs]
theorem collect_ct (L : SlLaysZI.n8 P ρ) (L2 : SlLaysZI.n10 P σ) (e10 : ∀ args w, (callFunc (σ.f 10) args).run P w = .ok (.enter (σ.f 10) args) w) (hk : HasKeys d x J l) :
 Ct P (ρ.f 8) [IsV (.func (.func (σ.f 10)) #[] #[pt b 0])] (BlkI b t d x :: J) (Value × List Int) (fun r => IsV r.1) (fun r => OwnI (ρ.t 26) (kint .i64) r.1 r.2 :: BlkI b t d x :: J) (fun r => r.2.Perm l) := by
 intro H w args hon hA hO
 match args, hA with
 | [v], hA =>
  obtain rfl : v = .func (.func (σ.f 10)) #[] #[pt b 0] := hA.1
  obtain ⟨hlt, u, hb, hu⟩ := hk.world hon hO
  obtain ⟨N, hN, hg⟩ := gives L2 1 (Nat.le_refl _) hb hlt hu
  refine (callsIn_wide.1 (AnyZI.collect_in L Fence.wide 3 trivial trivial rfl (by omega) (σ.f 10) #[pt b 0] trivial e10 _ N (by unfold maxLen; omega) (by omega) w hg)).mono fun e w' hp => ?_
  obtain ⟨v, ss, rfl, hS, hr, _, hB⟩ := hp
  exact ⟨(v, ss), v, H, rfl, hS, st_below hon hB, rfl, owns_row hon hB hr hO⟩
theorem sorted_ct (L : SlLaysZI.n6 P ρ) (L9 : Lays.n189 P τ) (h9 : ρ.f 9 = τ.f 189) (L2 : SlLaysZI.n10 P σ) (e9 : ∀ args w, (callFunc (ρ.f 9) args).run P w = .ok (.enter (ρ.f 9) args) w) (e10 : ∀ args w, (callFunc (σ.f 10) args).run P w = .ok (.enter (σ.f 10) args) w) (hk : HasKeys d x J l) :
 Ct P (ρ.f 6) [IsV (.func (.func (σ.f 10)) #[] #[pt b 0])] (BlkI b t d x :: J) (Value × List Int) (fun r => IsV r.1) (fun r => OwnI (ρ.t 26) (kint .i64) r.1 r.2 :: BlkI b t d x :: J) (fun r => r.2.Perm l) := by
 intro H w args hon hA hO
 match args, hA with
 | [v], hA =>
  obtain rfl : v = .func (.func (σ.f 10)) #[] #[pt b 0] := hA.1
  obtain ⟨hlt, u, hb, hu⟩ := hk.world hon hO
  obtain ⟨N, hN, hg⟩ := gives L2 1 (Nat.le_refl _) hb hlt hu
  have hs : AnyZI.SortsIn P ρ Fence.wide 3 := by
   constructor
   · intro blk off cap ss W hH hblk hsz
     rw [h9]
     exact callsIn_wide.2 (Any.slices_Sort_int L9 blk off cap ss W hH hblk hsz)
   · intro p cap W
     rw [h9]
     exact callsIn_wide.2 (Any.slices_Sort_int_none L9 p cap W)
  refine (callsIn_wide.1 (AnyZI.sorted_in L Fence.wide 4 trivial trivial trivial trivial rfl (by omega) hs e9 (σ.f 10) #[pt b 0] trivial e10 _ N (by unfold maxLen; omega) (by omega) w hg)).mono fun e w' hp => ?_
  obtain ⟨v, ss, rfl, hS, hr, _, hB⟩ := hp
  have hl : (ss.mergeSort fun x y => decide (x ≤ y)).length = ss.length := by simp
  rw [← hl] at hr
  exact ⟨(v, ss.mergeSort fun x y => decide (x ≤ y)), v, H, rfl, (List.mergeSort_perm _ _).trans hS, st_below hon hB, rfl, owns_row hon hB hr hO⟩
end
section
variable {P : Program} {ρ : Ren} {H : FH} {w : World} {e : TypeId} {v : Value} {xs : List Int}
theorem reps_int_eq {cs : List Value} (h : Reps (kint .i64) H xs cs) : cs = xs.map encZ := by
 obtain ⟨h1, h2⟩ := h
 have h1 : cs.length = xs.length := by rw [h1]; exact Nat.mul_one _
 refine List.ext_getElem (by rw [h1, List.length_map]) fun j hj _ => ?_
 have h3 := h2 j xs[j] (List.getElem?_eq_getElem (by omega))
 have h4 : (cs.drop (j * 1)).take 1 = [encZ xs[j]] := h3
 rw [Nat.mul_one, List.drop_eq_getElem_cons hj, List.take_succ_cons, List.take_zero] at h4
 rw [List.getElem_map]
 exact (List.cons.inj h4).1
theorem row_or (h : (OwnI e (kint .i64) v xs).p w H) : (v = nilS ∧ xs = []) ∨ ∃ g cap cur, v = .slice (some ⟨g, 0, none⟩) xs.length cap ∧ w.heap[g]? = some (.cells cur e (0, 0)) ∧ xs.length ≤ cap ∧ cap ≤ maxLen ∧ cur.size = cap * 1 ∧ cur.toList.take xs.length = xs.map encZ := by
 obtain ⟨inner, hr, hp⟩ := h
 have he := reps_int_eq hp
 subst he
 rcases hr.2 with ⟨rfl, h0⟩ | ⟨g, cap, cur, rfl, _, h2, h3, h4, h5, h6⟩
 · exact .inl ⟨rfl, List.eq_nil_of_length_eq_zero h0⟩
 · exact .inr ⟨g, cap, cur, rfl, h2, h3, h4, h5, by rw [← h6]; exact congrArg (fun n => List.take n cur.toList) (Nat.mul_one _).symm⟩
theorem sortI_ct (L : Lays.n189 P ρ) (hx : xs.length ≤ 1000000000) : Ct P (ρ.f 189) [IsV v] [OwnI e (kint .i64) v xs] (List Int) (fun _ => AnyT) (fun ys => [OwnI e (kint .i64) v ys]) (fun ys => ys.Perm xs) := by
 intro H w args hon hA hO
 match args, hA with
 | [u], hA =>
  obtain rfl : u = v := hA.1
  rcases row_or (hO.all _ List.mem_cons_self) with ⟨rfl, rfl⟩ | ⟨g, cap, cur, rfl, hg, h1, h2, h3, h4⟩
  · refine (Any.slices_Sort_int_none L none 0 w).mono fun e' w' hp => ?_
    obtain ⟨rfl, rfl⟩ := hp
    exact ⟨[], _, H, rfl, List.Perm.refl _, St.refl hon, trivial, ⟨hO.all, hO.nodup, fun k hk => ⟨(hO.own k hk).1, (hO.own k hk).2.1, .inl hk⟩⟩⟩
  · have hlt : g < w.heap.size := (Array.getElem?_eq_some_iff.1 hg).1
    refine (Any.slices_Sort_int L g 0 cap xs w (holds_of_block_i hg h4) hlt (by omega)).mono fun e' w' hp => ?_
    obtain ⟨rfl, n, os, rfl⟩ := hp
    have hl : (xs.mergeSort fun x y => decide (x ≤ y)).length = xs.length := by simp
    have hr := ownsRow_sorted_i (w := w) (base := 0) (n := n) (os := os) hl (Nat.zero_le _) hg h1 h2 h3
    have hown := hO.own g (blk_mem (i := OwnI e (kint .i64) (.slice (some ⟨g, 0, none⟩) xs.length cap) xs) List.mem_cons_self rfl)
    refine ⟨xs.mergeSort fun x y => decide (x ≤ y), _, H, rfl, List.mergeSort_perm _ _, st_grown (row := some g) hon (grownBy_sorted_i _) fun k hk => ?_, trivial, ?_⟩
    · cases hk; exact ⟨hown.2.1, blk_mem (i := OwnI e (kint .i64) (.slice (some ⟨g, 0, none⟩) xs.length cap) xs) List.mem_cons_self rfl⟩
    · refine owns_one (I := OwnI e (kint .i64) (.slice (some ⟨g, 0, none⟩) xs.length cap) xs) (R := []) rfl rfl ⟨_, ?_, reps_int H _⟩ hO (grownBy_sorted_i _).size
      rw [hl]; exact hr
theorem compact_mem (zs : List Int) (x : Int) : x ∈ Lib.compact zs ↔ x ∈ zs := by
 have h : ∀ (d : Array Int) (m : Nat), x ∈ Lib.compactUpTo d m ↔ ∃ j, j < m ∧ d[j]! = x := by
  intro d m
  induction m with
  | zero => simp [Lib.compactUpTo]
  | succ m ih =>
   rw [Lib.compactUpTo_succ, List.mem_append, ih]
   constructor
   · rintro (⟨j, hj, h⟩ | h)
     · exact ⟨j, by omega, h⟩
     · split at h
       · exact ⟨m, by omega, (List.mem_singleton.1 h).symm⟩
       · cases h
   · rintro ⟨j, hj, h⟩
     by_cases hm : j < m
     · exact .inl ⟨j, hm, h⟩
     · obtain rfl : j = m := by omega
       by_cases hk : Lib.keeps d j = true
       · rw [if_pos hk]; exact .inr (by simp [h])
       · left
         have h1 : ¬ (j = 0 ∨ d[j]! ≠ d[j - 1]!) := by simpa [Lib.keeps] using hk
         rw [not_or, Classical.not_not] at h1
         exact ⟨j - 1, by omega, by rw [← h1.2]; exact h⟩
 unfold Lib.compact
 rw [h]
 constructor
 · rintro ⟨j, hj, rfl⟩
   have : zs.toArray[j]! = zs[j] := by simp [hj]
   rw [this]; exact List.getElem_mem hj
 · intro hx
   obtain ⟨j, hj, rfl⟩ := List.getElem_of_mem hx
   exact ⟨j, hj, by simp [hj]⟩
theorem compactI_ct (L : Lays2.n20 P ρ) (hx : xs.length ≤ 1000000000) : Ct P (ρ.f 20) [IsV v] [OwnI e (kint .i64) v xs] (Value × List Int) (fun r => IsV r.1) (fun r => [OwnI e (kint .i64) r.1 r.2]) (fun r => (∀ x, x ∈ r.2 ↔ x ∈ xs) ∧ r.2.length ≤ xs.length) := by
 intro H w args hon hA hO
 match args, hA with
 | [u], hA =>
  obtain rfl : u = v := hA.1
  rcases row_or (hO.all _ List.mem_cons_self) with ⟨rfl, rfl⟩ | ⟨g, cap, cur, rfl, hg, h1, h2, h3, h4⟩
  · refine (Any.slices_Compact_int_empty L none 0 w).mono fun e' w' hp => ?_
    obtain ⟨rfl, rfl⟩ := hp
    exact ⟨(nilS, []), _, H, rfl, ⟨fun x => Iff.rfl, Nat.le_refl _⟩, St.refl hon, rfl, ⟨hO.all, hO.nodup, fun k hk => ⟨(hO.own k hk).1, (hO.own k hk).2.1, .inl hk⟩⟩⟩
  · have hlt : g < w.heap.size := (Array.getElem?_eq_some_iff.1 hg).1
    refine (Any.slices_Compact_int L g 0 cap xs w (holds_of_block_i hg h4) (by omega) h1).mono fun e' w' hp => ?_
    obtain ⟨rfl, q, rfl⟩ := hp
    have hle : (Lib.compact xs).length ≤ xs.length := Lib.compact_length_le xs
    obtain ⟨ts, hts⟩ : ∃ ts, Lib.compact xs ++ List.replicate (xs.length - (Lib.compact xs).length) (0 : Int) = ts := ⟨_, rfl⟩
    have hl : ts.length = xs.length := by rw [← hts, List.length_append, List.length_replicate]; omega
    have hr := ownsRow_sorted_i (w := w) (base := 0) (n := q) (os := #[]) hl (Nat.zero_le _) hg h1 h2 h3
    have hgr := grownBy_sorted_i (w := w) (g := g) (n := q) (os := #[]) ts.toArray
    rw [Go.Sort.grow_empty] at hr hgr
    rw [hts]
    have hown := hO.own g (blk_mem (i := OwnI e (kint .i64) (.slice (some ⟨g, 0, none⟩) xs.length cap) xs) List.mem_cons_self rfl)
    refine ⟨(.slice (some ⟨g, 0, none⟩) (Lib.compact xs).length cap, Lib.compact xs), _, H, rfl, ⟨compact_mem xs, hle⟩, st_grown (row := some g) hon hgr fun k hk => ?_, rfl, ?_⟩
    · cases hk; exact ⟨hown.2.1, blk_mem (i := OwnI e (kint .i64) (.slice (some ⟨g, 0, none⟩) xs.length cap) xs) List.mem_cons_self rfl⟩
    · refine owns_one (I := OwnI e (kint .i64) (.slice (some ⟨g, 0, none⟩) xs.length cap) xs) (R := []) rfl rfl ⟨(Lib.compact xs).map encZ, ?_, reps_int H _⟩ hO hgr.size
      rcases hr.2 with ⟨hz, _⟩ | ⟨g', cap', cur', hz, _, q2, q3, q4, q5, q6⟩
      · cases hz
      · cases hz
        refine ⟨by simp [kint, scalar], .inr ⟨g, cap, cur', rfl, Nat.zero_le _, q2, Nat.le_trans hle h1, q4, q5, ?_⟩⟩
        rw [Nat.mul_one] at q6
        show cur'.toList.take ((Lib.compact xs).length * 1) = _
        have : cur'.toList.take (Lib.compact xs).length = (cur'.toList.take xs.length).take (Lib.compact xs).length := by rw [List.take_take, Nat.min_eq_left hle]
        rw [Nat.mul_one, this, q6, ← hts, List.map_append, List.take_left' (by rw [List.length_map])]
end
end Go.Gw
/- Typed walks: a range over a map that may be nil; a range over a map whose entries are written in turn; nested maps. Over any program. -/
namespace Go.Gw
open Go Go.MapKept
open Go.ChangeMaps (setBlock)
set_option linter.unusedVariables false
set_option linter.unusedSimpArgs false
set_option linter.unusedSectionVars false
section
variable {κ α : Type}
def RanN (o : Option Nat) (enc : κ → Value) (V : α → Ty) (m : List (κ × α)) (s : MS) : It where
 blk := o
 p := fun w H => (o = none ∧ m = [] ∧ s.es = #[]) ∨ ∃ g, o = some g ∧ w.heap[g]? = some (.map s.es s.clock) ∧ MapR enc V H m s.es s.clock
 st := fun hb hs h => h.imp id fun ⟨g, e, h1, h2⟩ => ⟨g, e, (hb g e).trans h1, h2.mono hs⟩
def RanQ (r : Nat) (o : Option Nat) (i : IS) : It where
 blk := some r
 p := fun w H => w.heap[r]? = some (.mapIter o i.since i.seen i.c0)
 st := fun hb hs h => (hb r rfl).trans h
end
section
variable {C : Cx} {Γ : Env} {L R : List It} {dst : Option Tmp} {ty : TypeId} {pos : String} {after : Array Edge} {guard : Option (Nat × Bool)} {x y z : Operand} {Q : Act → World → Prop}
variable {κ α : Type} [DecidableEq κ] {t kt et : TypeId} {K : Kd κ} {enc : κ → Value} {V : α → Ty} {m : List (κ × α)} {g r : Nat} {o : Option Nat} {k : κ} {s : MS} {i : IS} {todo : List κ} {cur : Option κ}
theorem perm_mid0 (X J Y : List It) : (X ++ (J ++ Y)).Perm (J ++ (X ++ Y)) := by
 have h : (X ++ J).Perm (J ++ X) := List.perm_append_comm
 have := h.append_right Y
 simpa only [List.append_assoc] using this
theorem ranow {ok : Nat → Prop} {w : World} {H : FH} (hr : w.heap[r]? = some (.mapIter (some g) i.since i.seen i.c0)) (hb : w.heap[g]? = some (.map s.es s.clock)) (hR : MapR enc V H m s.es s.clock) (h1 : r < w.heap.size ∧ H r = none ∧ ok r) (h2 : g < w.heap.size ∧ H g = none ∧ ok g) : Owns ok w H [RanR r g i, RanM g enc V m s] where
 all := fun j hj => by
  rcases List.mem_cons.1 hj with rfl | hj
  · exact hr
  · rw [List.mem_singleton.1 hj]; exact ⟨hb, hR⟩
 nodup := by
  show [r, g].Nodup
  have : r ≠ g := fun e => by subst e; rw [hr] at hb; cases hb
  simp [this]
 own := fun b hb => by
  have hb : b ∈ [r, g] := hb
  rcases List.mem_cons.1 hb with rfl | hb
  · exact h1
  · rw [List.mem_singleton.1 hb]; exact h2
theorem perm_tl2 {X Y J : List It} : (X ++ (Y ++ J)).Perm (J ++ (X ++ Y)) := by
 rw [← List.append_assoc]; exact List.perm_append_comm
theorem perm_tl {X J : List It} : (X ++ J).Perm (J ++ X) := List.perm_append_comm
theorem tr_mapn (hp : List.Perm L (MapI g enc V m :: R)) (h : ∀ s, Tr C Γ (RanN (some g) enc V m s :: R) Q) : Tr C Γ L Q := by
 intro a w H f st ow
 have o' := ow.perm hp
 obtain ⟨es, clock, hb, hR⟩ := o'.all _ List.mem_cons_self
 exact h ⟨es, clock⟩ a w H f st (o'.swap1 (J := RanN (some g) enc V m ⟨es, clock⟩) rfl (.inr ⟨g, rfl, hb, hR⟩))
theorem tr_mapn0 (h : Tr C Γ (RanN none enc V ([] : List (κ × α)) ⟨#[], 0⟩ :: L) Q) : Tr C Γ L Q := by
 intro a w H f st ow
 refine h a w H f st ⟨fun j hj => ?_, ?_, fun b hb => ?_⟩
 · rcases List.mem_cons.1 hj with rfl | hj
   · exact .inl ⟨rfl, rfl, rfl⟩
   · exact ow.all j hj
 · unfold blks; rw [List.filterMap_cons_none (show (RanN none enc V ([] : List (κ × α)) ⟨#[], 0⟩).blk = none from rfl)]; exact ow.nodup
 · unfold blks at hb; rw [List.filterMap_cons_none (show (RanN none enc V ([] : List (κ × α)) ⟨#[], 0⟩).blk = none from rfl)] at hb; exact ow.own b hb
theorem tr_mapnc (hp : List.Perm L (RanN (some g) enc V m s :: R)) (h : Tr C Γ (MapI g enc V m :: R) Q) : Tr C Γ L Q := by
 intro a w H f st ow
 have o' := ow.perm hp
 rcases o'.all _ List.mem_cons_self with ⟨hb, _⟩ | ⟨g', hg, hb, hR⟩
 · cases hb
 · cases hg
   exact h a w H f st (o'.swap1 (J := MapI g enc V m) rfl ⟨s.es, s.clock, hb, hR⟩)
theorem acts_range_mapn (ht : C.P.underlying t = some (.map kt et)) (hx : OT C.N Γ x (IsV (.map o))) (hm : RanN o enc V m s ∈ L) :
 Acts C Γ L ⟨dst, .range t x, ty, pos, after, guard⟩ [] (Nat × IS) (fun r => IsV (pt r.1 0)) (fun r => [RanQ r.1 o r.2]) (fun r => RanOk m s r.2 (keys m) none) := by
 cases o with
 | some g =>
  intro a w H f st ow Q K hK
  rcases ow.all _ hm with ⟨hb, _⟩ | ⟨g', hg, hb, hR⟩
  · cases hb
  · cases hg
    have hv : a.eval x = .map (some g) := hx a H f
    have hrun : (execOp a.eval ⟨dst, .range t x, ty, pos, after, guard⟩).run C.P w = .ok (.value (pt w.heap.size 0)) (w.alloc (.mapIter (some g) s.clock #[] s.clock)) := by
     have := run_range_map (P := C.P) w t kt et g s.es s.clock ht hb
     simp only [execOp, hv, Sem.run_bind, this, Result.andThen]
     rfl
    simp only [Oper.wp, hrun, Oper.upon_value]
    refine hK (w.heap.size, ⟨s.clock, #[], s.clock⟩) _ _ H ?_ (st_alloc st.on _) rfl (owns_new (J := RanQ w.heap.size (some g) ⟨s.clock, #[], s.clock⟩) (heap_alloc_new w _) (.inr rfl) (by simp) st.on)
    exact ⟨fun e he => hR.lt e he, Nat.le_refl _, Nat.le_refl _, hR.nd, fun k h => h, fun j e k h1 h2 => ⟨fun _ => List.mem_of_getElem? h2, fun _ => by simp⟩, fun k h => by cases h⟩
 | none =>
  intro a w H f st ow Q K hK
  rcases ow.all _ hm with ⟨_, rfl, he⟩ | ⟨g', hg, _⟩
  · have hv : a.eval x = .map none := hx a H f
    have hrun : (execOp a.eval ⟨dst, .range t x, ty, pos, after, guard⟩).run C.P w = .ok (.value (pt w.heap.size 0)) (w.alloc (.mapIter none 0 #[] 0)) := by
     have := run_range_nilMap (P := C.P) w t kt et ht
     simp only [execOp, hv, Sem.run_bind, this, Result.andThen]
     rfl
    simp only [Oper.wp, hrun, Oper.upon_value]
    refine hK (w.heap.size, ⟨0, #[], 0⟩) _ _ H ?_ (st_alloc st.on _) rfl (owns_new (J := RanQ w.heap.size none ⟨0, #[], 0⟩) (heap_alloc_new w _) (.inr rfl) (by simp) st.on)
    exact ⟨fun e h => by rw [he] at h; simp at h, Nat.le_refl _, Nat.zero_le _, List.nodup_nil, fun k h => h, fun j e k h1 h2 => by rw [he] at h1; simp at h1, fun k h => by cases h⟩
  · cases hg
theorem acts_next_mapn (hx : OT C.N Γ x (IsV (pt r 0))) (hm : RanN o enc V m s ∈ L) (hp : List.Perm L (RanQ r o i :: R)) (ho : RanOk m s i todo cur) :
 Acts C Γ L ⟨dst, .next x false, ty, pos, after, guard⟩ [RanQ r o i] (IS × Option κ) (fun q => NextT q.2.isSome) (fun q => [RanQ r o q.1]) (fun q => match q.2 with
  | none => todo = [] ∧ RanOk m s q.1 todo none
  | some k => k ∈ todo ∧ RanOk m s q.1 (todo.erase k) (some k)) := by
 intro a w H f st ow Q K hK
 rcases ow.all _ hm with ⟨rfl, rfl, he⟩ | ⟨g, rfl, hb, hR⟩
 · have o' := ow.perm hp
   have hr : w.heap[r]? = some (.mapIter none i.since i.seen i.c0) := o'.all _ List.mem_cons_self
   have hxv : a.eval x = pt r 0 := hx a H f
   have hrun2 : (execOp a.eval ⟨dst, .next x false, ty, pos, after, guard⟩).run C.P w = .ok (.value (.tuple #[.bool false])) w := by
    simp only [execOp, hxv, Sem.run_bind, show (pt r 0) = Value.pointer (some ⟨r, 0, none⟩) from rfl, Instr.next, getObj, Sem.run, hr, Result.andThen]
    rfl
   simp only [Oper.wp, hrun2, Oper.upon_value]
   refine hK (i, none) _ _ H ⟨List.eq_nil_iff_forall_not_mem.2 fun k hk => ?_, ho.old, ho.le, ho.lc, ho.nd, ho.sub, ho.left, fun k h => by cases h⟩ (st_grown (row := none) st.on ⟨rfl, rfl, rfl, by simp, fun k hk hne => rfl⟩ fun k hk => by cases hk) ⟨[], rfl⟩ ?_
   · have := ho.sub k hk; simp [keys] at this
   · exact owns_one (I := RanQ r none i) (J := RanQ r none i) rfl rfl hr o' (by simp)
 · have o' := ow.perm hp
   have hr : w.heap[r]? = some (.mapIter (some g) i.since i.seen i.c0) := o'.all _ List.mem_cons_self
   have ow2 : Owns _ w H [RanR r g i, RanM g enc V m s] := ranow hr hb hR (o'.own r (blk_mem (i := RanQ r (some g) i) List.mem_cons_self rfl)) (ow.own g (blk_mem (i := RanN (some g) enc V m s) hm rfl))
   exact acts_next_map (C := C) (Γ := Γ) (L := [RanR r g i, RanM g enc V m s]) (R := [RanM g enc V m s]) (dst := dst) (ty := ty) (pos := pos) (after := after) (guard := guard) (todo := todo) (cur := cur) hx (List.mem_cons_of_mem _ List.mem_cons_self) (List.Perm.refl _) ho a w H f st ow2 Q K hK
theorem pu_entry_mapn {D : Ty} {v : α} (hx : OT C.N Γ x (IsV (pt r 0))) (hr : RanQ r o i ∈ L) (hm : RanN o enc V m s ∈ L) (ho : RanOk m s i todo (some k)) (hl : lkp k m = some v) (hD : ∀ H, D.p H (enc k)) :
 Pure C Γ L ⟨dst, .entry x, ty, pos, after, guard⟩ (TupT [D, V v]) := fun a w H f st ow => by
 rcases ow.all _ hm with ⟨rfl, rfl, he⟩ | ⟨g, rfl, hb, hR⟩
 · cases hl
 · have hr1 : w.heap[r]? = some (.mapIter (some g) i.since i.seen i.c0) := ow.all _ hr
   have ow2 : Owns _ w H [RanR r g i, RanM g enc V m s] := ranow hr1 hb hR (ow.own r (blk_mem (i := RanQ r (some g) i) hr rfl)) (ow.own g (blk_mem (i := RanN (some g) enc V m s) hm rfl))
   exact pu_entry_map (C := C) (L := [RanR r g i, RanM g enc V m s]) hx List.mem_cons_self (List.mem_cons_of_mem _ List.mem_cons_self) ho hl hD a w H f st ow2
theorem keys_ptk {v : α} {m : List (κ × α)} (hn : (keys m).Nodup) (hk : k ∈ keys m) : keys (ptk k v m) = keys m := by
 obtain ⟨j, hj, hjk⟩ := List.getElem_of_mem hk
 have hj2 : j < m.length := by simpa [keys] using hj
 have hm : m[j]? = some (k, m[j].2) := by
  rw [List.getElem?_eq_getElem hj2]
  have : m[j].1 = k := by simpa [keys] using hjk
  rw [← this]
 rw [ptk_set hn hm]
 unfold keys
 rw [List.map_set]
 refine List.ext_getElem (by simp) fun i h1 h2 => ?_
 rw [List.getElem_set]
 split
 · rename_i h3; subst h3; simpa [keys] using hjk.symm
 · rfl
theorem acts_update_ran {v : α} (mk : MKey C.P kt K enc) (ht : C.P.underlying t = some (.map kt et)) (hx : OT C.N Γ x (IsV (mp g))) (hp : List.Perm L (RanM g enc V m s :: R)) (hy : OT C.N Γ y (K.T k)) (hz : OT C.N Γ z (V v)) (hk : k ∈ keys m) :
 Acts C Γ L ⟨dst, .mapUpdate t x y z, ty, pos, after, guard⟩ [RanM g enc V m s] MS (fun _ => AnyT) (fun s' => [RanM g enc V (ptk k v m) s']) (fun s' => ∀ i todo cur, RanOk m s i todo cur → RanOk (ptk k v m) s' i todo none) := by
 intro a w H f st ow Q K' hK
 have o' := ow.perm hp
 obtain ⟨hb, hR⟩ := o'.all _ List.mem_cons_self
 have hown := o'.own g (blk_mem (i := RanM g enc V m s) List.mem_cons_self rfl)
 have hxv : a.eval x = .map (some g) := hx a H f
 have hyv : a.eval y = enc k := mk.val (hy a H f)
 rcases find_run (k := k) mk hR w with ⟨h1, h2⟩ | ⟨j, e, u, h1, h2, h3, h4, h5⟩
 · exact absurd hk h2
 · have hz' := hz a H f
   have h2' : s.es[j]? = some e := by simpa using h2
   have hr : (execOp a.eval ⟨dst, .mapUpdate t x y z, ty, pos, after, guard⟩).run C.P w = .ok .skip (setMap w g (s.es.modify j fun e => { e with key := enc k, val := a.eval z }) s.clock) := by
    simp [execOp, hxv, hyv, Instr.mapUpdate, run_underlying ht, MapKept.run_getObj_map hb, mk.chk, h1, h2', h4, mk.stay, MapKept.run_setObj_map _ hb, Result.andThen]
   simp only [Oper.wp, hr, Oper.upon_skip]
   have hl : (s.es.modify j fun e => { e with key := enc k, val := a.eval z }).toList = s.es.toList.set j { e with key := enc k, val := a.eval z } := by
    rw [modify_list, modify_set h2]
   have hnt : ∀ (j' : Nat) (e' : MapEntry), (s.es.modify j fun e => { e with key := enc k, val := a.eval z }).toList[j']? = some e' → ∃ e0, s.es.toList[j']? = some e0 ∧ e0.born = e'.born := by
    intro j' e' h
    rw [hl, List.getElem?_set] at h
    split at h
    · rename_i hjj
      split at h
      · cases h; subst hjj; exact ⟨e, h2, rfl⟩
      · cases h
    · exact ⟨e', h, rfl⟩
   refine hK ⟨s.es.modify j fun e => { e with key := enc k, val := a.eval z }, s.clock⟩ _ _ H (fun i todo cur ho => ⟨fun e' he => ?_, ho.le, ho.lc, ho.nd, fun k' h => by rw [keys_ptk hR.nd hk]; exact ho.sub k' h, fun j' e' k' h6 h7 => ?_, fun k' h => by cases h⟩) (st_map st.on hown.2.1 (blk_mem (i := RanM g enc V m s) List.mem_cons_self rfl) _ _) trivial ?_
   · obtain ⟨j', hj'⟩ := List.getElem?_of_mem he
     obtain ⟨e0, h6, h7⟩ := hnt j' e' hj'
     rw [← h7]; exact ho.old e0 (List.mem_of_getElem? h6)
   · rw [keys_ptk hR.nd hk] at h7
     obtain ⟨e0, h8, h9⟩ := hnt j' e' h6
     rw [← h9]; exact ho.left j' e0 k' h8 h7
   · exact owns_one (I := RanM g enc V m s) (J := RanM g enc V (ptk k v m) ⟨s.es.modify j fun e => { e with key := enc k, val := a.eval z }, s.clock⟩) rfl rfl ⟨map_heap hb, hR.set_ h2 h3 h4 hz'⟩ o' (by simp)
theorem pu_lookup_opt {d : Kd α} {z0 : α} (mk : MKey C.P kt K enc) (ht : C.P.underlying t = some (.map kt et)) (hz : ZeroOf C.P et d z0) (hx : OT C.N Γ x (IsV (.map o))) (ho : o = none ∧ m = [] ∨ ∃ g, o = some g ∧ MapI g enc d.T m ∈ L) (hy : OT C.N Γ y (K.T k)) :
 Pure C Γ L ⟨dst, .lookup t x y false, ty, pos, after, guard⟩ (d.T ((lkp k m).getD z0)) := by
 rcases ho with ⟨rfl, rfl⟩ | ⟨g, rfl, hm⟩
 · exact pu_lookup mk ht hz (fun a H f => .inl ⟨hx a H f, rfl⟩) hy
 · exact pu_lookup_own mk ht hz hx hm hy
theorem pu_map_eql {t t2 kt et : TypeId} (ht : C.P.underlying t = some (.map kt et)) (hx : OT C.N Γ x (IsV (.map o))) : Pure C Γ L ⟨dst, .binOp .eql t x (.const (.map none)) t2, ty, pos, after, guard⟩ (BoolT o.isNone) := fun ac w H f s ow => by
 have hv : ac.eval x = .map o := hx ac H f
 have hc : ac.eval (.const (.map none)) = .map none := rfl
 have hg : (eqGuard .eql t x (.const (.map none)) (.map o) (.map none)).run C.P w = .ok () w := by simp [eqGuard]
 have he : (Op.equalIn (9999 + 1) t (.map o) (.map none)).run C.P w = .ok o.isNone w := by
  rw [Op.equalIn]
  cases o <;> simp [run_underlying ht]
 have hb : (binOp .eql t (.map o) (.map none)).run C.P w = .ok (.bool o.isNone) w := by
  show ((Op.equal t (.map o) (.map none)) >>= fun r => pure (Value.bool r)).run C.P w = _
  rw [Sem.run_bind, show (Op.equal t (.map o) (.map none)).run C.P w = _ from he]; rfl
 exact ⟨.bool o.isNone, by simp only [execOp, hv, hc, Sem.run_bind, hg, hb, Result.andThen_ok, Sem.run_pure], rfl⟩
section
variable {op : Oper} {ops : Array Oper} {P' : Exit → Act → World → Prop} {rest : List Oper} {J : List It} {ρ : Type} {T : ρ → Ty} {I : ρ → List It} {φ : ρ → Prop}
theorem op_midl (X Y : List It) (hL : L = X ++ (J ++ Y)) (hp : Acts C Γ L op J ρ T I φ) (hg : op.guard = none) (hd : dstOk C.N op.dst = true)
 (h : ∀ r, φ r → Tr C (upd op.dst (T r) Γ) (X ++ (I r ++ Y)) (wpList C.P ops P' rest)) : Tr C Γ L (wpList C.P ops P' (op :: rest)) := by
 subst hL
 refine op_acts hp (perm_mid0 X J Y) hg hd fun r hr => tr_perm (perm_mid0 X (I r) Y).symm (h r hr)
theorem op_tl (X : List It) (hL : L = X ++ J) (hp : Acts C Γ L op J ρ T I φ) (hg : op.guard = none) (hd : dstOk C.N op.dst = true)
 (h : ∀ r, φ r → Tr C (upd op.dst (T r) Γ) (X ++ I r) (wpList C.P ops P' rest)) : Tr C Γ L (wpList C.P ops P' (op :: rest)) := by
 subst hL
 exact op_acts hp List.perm_append_comm hg hd fun r hr => tr_perm List.perm_append_comm (h r hr)
theorem op_tl2 (X Z : List It) (hL : L = X ++ (Z ++ J)) (hp : Acts C Γ L op J ρ T I φ) (hg : op.guard = none) (hd : dstOk C.N op.dst = true)
 (h : ∀ r, φ r → Tr C (upd op.dst (T r) Γ) (X ++ (Z ++ I r)) (wpList C.P ops P' rest)) : Tr C Γ L (wpList C.P ops P' (op :: rest)) := by
 subst hL
 exact op_acts hp (perm_tl2 (X := X) (Y := Z)) hg hd fun r hr => tr_perm (perm_tl2 (X := X) (Y := Z)).symm (h r hr)
end
end
end Go.Gw
