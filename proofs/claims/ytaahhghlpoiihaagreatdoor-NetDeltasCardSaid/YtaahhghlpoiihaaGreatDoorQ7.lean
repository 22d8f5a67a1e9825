/- The texts JnB, G33, Jn1, Jn2, Jn3, JnE, JnC, JnD, JnF, Jn4, Jn5, JnG, Jn6, JnH, JnL, JnM, JnN, Jn7, Jn8, JnO, Jn9, JnP, Jn10, JnR, Jn11, G28, G29, G34, G35, G36, G37, G38, G39, G40, G41, G42, G43, G44, G45, G46, VlA, VlB, NtV, NtW of this claim, put together in their order. No condition of their own. -/
import Derived.Test.YtaahhghlpoiihaaGreatDoorQ4
import Derived.Test.YtaahhghlpoiihaaGreatDoorQ6
import Derived.Test.YtaahhghlpoiihaaGreatDoorQ2
import Derived.ChangeKeysEq
import Derived.Laws.StructEq
import Derived.Test.YtaahhghlpoiihaaGreatDoorQ1
import Derived.Laws.IdiomCopy
import Derived.Test.YtaahhghlpoiihaaGreatDoorRows
import Derived.Handed
import Derived.SizedLaws
import Derived.LaidLaws
import Derived.Lib.LaidTab
import Derived.Lib.TrimUEq
import Derived.Lib.AppendStr
import Derived.Lib.UnsafeStr
import Derived.Lib.Builder
import Derived.Laws.Externs
import Derived.Lib.RuneBytes
import Derived.Laws.Small
import Derived.Maps.RangeRun
import Derived.Lib.ValidLaws
import Derived.Laws.BitsAllLaws
import Derived.Test.YtaahhghlpoiihaaGreatDoorProg
import Derived.Lay
import Derived.MakeChecks
import Derived.RowKitTokens
/- Places in lists of names; names; steps of the loops over them. Plain Lean. -/
namespace Go.Jn
open Go Go.Gw Go.Tu
set_option linter.unusedVariables false
set_option linter.unusedSimpArgs false
def ixI (vs : List Lab) (x : Lab) : Int := if vs.contains x then (ix vs x : Int) else -1
theorem ixI_in {vs : List Lab} {x : Lab} (h : x ∈ vs) : ixI vs x = (ix vs x : Int) := by unfold ixI; rw [if_pos (by simpa using h)]
theorem ix_lt {vs : List Lab} {x : Lab} (h : x ∈ vs) : ix vs x < vs.length := List.idxOf_lt_length_of_mem h
section
variable {vs : List Lab} {x : Lab} {k : Nat}
theorem ixI_here (h : k < vs.length) (hno : x ∉ vs.take k) (he : x = at' vs (k : Int)) : ixI vs x = (k : Int) := by
 rw [at'_nat h] at he
 have hin : x ∈ vs := he ▸ List.getElem_mem h
 rw [ixI_in hin]
 have hs := List.take_append_drop k vs
 rw [List.drop_eq_getElem_cons h, ← he] at hs
 unfold ix
 rw [← hs, List.idxOf_append, if_neg hno, List.length_take]
 simp; omega
theorem ixI_next (h : k < vs.length) (hno : x ∉ vs.take k) (he : ¬ x = at' vs (k : Int)) : x ∉ vs.take (k + 1) := by
 rw [at'_nat h] at he
 rw [List.take_succ_eq_append_getElem h]
 simp only [List.mem_append, List.mem_singleton]
 rintro (h1 | h1)
 · exact hno h1
 · exact he h1
theorem ixI_none (hno : x ∉ vs.take vs.length) : ixI vs x = -1 := by
 rw [List.take_length] at hno
 unfold ixI; rw [if_neg (by simpa using hno)]
theorem ixI_pos : decide (0 ≤ ixI vs x) = vs.contains x := by
 unfold ixI
 split
 · rename_i h; rw [h]; simp
 · rename_i h; simp only [Bool.not_eq_true] at h; rw [h]; rfl
end
theorem name_expr (l : Lab) : (decide ((1 : Int) ≤ (l.length : Int)) && decide ((l.length : Int) ≤ 16) && !(!l.all isLow)) = nameB l := by
 unfold nameB
 rw [Bool.not_not]
 congr 1
 congr 1
 · rw [Bool.eq_iff_iff]; simp; omega
 · rw [Bool.eq_iff_iff]; simp; omega
theorem varsL_at {al : List Atm} {k : Nat} (h : k < al.length) : varsL (al.take (k + 1)) = addA (varsL (al.take k)) (at' al (k : Int)) := by
 rw [at'_nat h, List.take_succ_eq_append_getElem h, varsL_snoc]
end Go.Jn
namespace Go.Jn
open Go Go.Gw Go.Tu
def addsV (out : List Lab) (a : Atm) (j : Nat) : List Lab := ([a.1, a.2.2].take j).foldl addV out
theorem addsV_step (out : List Lab) (a : Atm) {j : Nat} (h : j < ([a.1, a.2.2] : List Lab).length) : addsV out a (j + 1) = addV (addsV out a j) (at' [a.1, a.2.2] (j : Int)) := by
 unfold addsV
 rw [at'_nat h, List.take_succ_eq_append_getElem h, List.foldl_append]; rfl
theorem addsV_len (out : List Lab) (a : Atm) (j : Nat) : (addsV out a j).length ≤ out.length + 2 := by
 have h1 : ∀ (x : Lab) (o : List Lab), (addV o x).length ≤ o.length + 1 := fun x o => by rw [addV_len]; split <;> omega
 unfold addsV
 match j with
 | 0 => simp
 | 1 => exact Nat.le_trans (h1 _ _) (by omega)
 | j + 2 => have := h1 a.2.2 (addV out a.1); have := h1 a.1 out; simp only [List.take_succ_cons, List.take_nil, List.foldl_cons, List.foldl_nil]; omega
end Go.Jn
namespace Go.Jn
open Go Go.Gw Go.Tu
def atmB (a : Atm) : Bool := nameB a.1 && nameB a.2.1 && nameB a.2.2
def preB (v : Vw) : Bool := nameB v.1 && decide (v.2.2.2.2 = []) && decide ((1 : Int) ≤ v.2.2.1.length) && decide ((v.2.2.1.length : Int) ≤ 6) && decide ((1 : Int) ≤ v.2.2.2.1.length) && decide ((v.2.2.2.1.length : Int) ≤ 8)
def reachB (v : Vw) : Bool := nameB v.1 && nameB v.2.2.2.2 && decide ((v.2.2.1.length : Int) = 0) && decide ((v.2.2.2.1.length : Int) = 0)
def checkB (v : Vw) : Bool := if v.2.1 = 2 then reachB v else if v.2.1 = 1 then preB v && v.2.2.2.1.all atmB && outB (varsL v.2.2.2.1) v.2.2.1 else false
end Go.Jn
namespace Go.Jn
open Go Go.Gw Go.Tu
theorem all_snocB {α : Type} [Inhabited α] {l : List α} {p : α → Bool} {k : Nat} (h : k < l.length) : (l.take (k + 1)).all p = ((l.take k).all p && p (at' l (k : Int))) := by
 rw [at'_nat h, List.take_succ_eq_append_getElem h, List.all_append]; simp
theorem atoms_step {v : Vw} {k : Nat} (h : k < v.2.2.2.1.length) : (preB v && (v.2.2.2.1.take k).all atmB && nameB (at' v.2.2.2.1 (k : Int)).1 && nameB (at' v.2.2.2.1 (k : Int)).2.1 && nameB (at' v.2.2.2.1 (k : Int)).2.2) = (preB v && (v.2.2.2.1.take (k + 1)).all atmB) := by
 rw [all_snocB h]; unfold atmB; simp only [Bool.and_assoc]
theorem out_step {V out : List Lab} {i : Nat} (h : i < out.length) : (outB V (out.take i) && V.contains (at' out (i : Int)) && !(out.take i).contains (at' out (i : Int))) = outB V (out.take (i + 1)) := by
 unfold outB
 rw [all_snocB h]
 have hn : (out.take (i + 1)).Nodup ↔ (out.take i).Nodup ∧ at' out (i : Int) ∉ out.take i := by
  rw [at'_nat h, List.take_succ_eq_append_getElem h, List.nodup_append]
  constructor
  · rintro ⟨h1, _, h3⟩
    exact ⟨h1, fun hm => h3 _ hm _ (by simp) rfl⟩
  · rintro ⟨h1, h2⟩
    refine ⟨h1, by simp, fun a ha b hb e => ?_⟩
    have : b = out[i] := by simpa using hb
    subst this; subst e; exact h2 ha
 rw [Bool.eq_iff_iff]
 simp only [Bool.and_eq_true, decide_eq_true_eq, hn, Bool.not_eq_true', List.contains_eq_mem, decide_eq_false_iff_not]
 constructor
 · rintro ⟨⟨⟨h1, h2⟩, h3⟩, h4⟩; exact ⟨⟨h1, h3⟩, h2, h4⟩
 · rintro ⟨⟨h1, h3⟩, h2, h4⟩; exact ⟨⟨⟨h1, h2⟩, h3⟩, h4⟩
theorem chk2 {v : Vw} {b : Bool} (h : decide (v.2.1 = 2) = true) (hb : (!reachB v) = b) : (if b then (1 : Int) else 0) = if checkB v then 0 else 1 := by
 have h1 : v.2.1 = 2 := by simpa using h
 unfold checkB; rw [if_pos h1, ← hb]; cases reachB v <;> rfl
theorem chk0 {v : Vw} (h : decide (v.2.1 = 2) = false) (h1 : decide (v.2.1 = 1) = false) : (1 : Int) = if checkB v then 0 else 1 := by
 have h2 : ¬ v.2.1 = 2 := by simpa using h
 have h3 : ¬ v.2.1 = 1 := by simpa using h1
 unfold checkB; rw [if_neg h2, if_neg h3]; rfl
theorem chk1 {v : Vw} (h : decide (v.2.1 = 2) = false) (h1 : decide (v.2.1 = 1) = true) (hp : (!(preB v && v.2.2.2.1.all atmB)) = true) : (1 : Int) = if checkB v then 0 else 1 := by
 have h2 : ¬ v.2.1 = 2 := by simpa using h
 have h3 : v.2.1 = 1 := by simpa using h1
 have h4 : (preB v && v.2.2.2.1.all atmB) = false := by cases hx : (preB v && v.2.2.2.1.all atmB) with
  | false => rfl
  | true => rw [hx] at hp; exact hp.symm
 unfold checkB; rw [if_neg h2, if_pos h3, h4]; rfl
theorem chk3 {v : Vw} {b : Bool} (h : decide (v.2.1 = 2) = false) (h1 : decide (v.2.1 = 1) = true) (hp : (!(preB v && v.2.2.2.1.all atmB)) = false) (ho : (!outB (varsL v.2.2.2.1) v.2.2.1) = b) : (if b then (1 : Int) else 0) = if checkB v then 0 else 1 := by
 have h2 : ¬ v.2.1 = 2 := by simpa using h
 have h3 : v.2.1 = 1 := by simpa using h1
 have h4 : (preB v && v.2.2.2.1.all atmB) = true := by cases hx : (preB v && v.2.2.2.1.all atmB) with
  | true => rfl
  | false => rw [hx] at hp; exact hp.symm
 unfold checkB; rw [if_neg h2, if_pos h3, h4, ← ho]; cases outB (varsL v.2.2.2.1) v.2.2.1 <;> rfl
theorem pre_lens {v : Vw} (h : preB v = true) : v.2.2.1.length ≤ 6 ∧ 1 ≤ v.2.2.1.length ∧ v.2.2.2.1.length ≤ 8 ∧ 1 ≤ v.2.2.2.1.length := by
 unfold preB at h
 simp only [Bool.and_eq_true, decide_eq_true_eq] at h
 omega
theorem pre_pat (v : Vw) : (preB v && v.2.2.2.1.all atmB) = patB v := by
 unfold preB patB atmB
 have e : ∀ (n : Nat) (c : Nat), decide ((n : Int) ≤ (c : Int)) = decide (n ≤ c) := fun n c => by rw [Bool.eq_iff_iff]; simp
 have e1 : ∀ n : Nat, decide ((1 : Int) ≤ (n : Int)) = decide (1 ≤ n) := fun n => by rw [Bool.eq_iff_iff]; simp; omega
 rw [e1, e1, show (6 : Int) = ((6 : Nat) : Int) from rfl, show (8 : Int) = ((8 : Nat) : Int) from rfl, e, e]
theorem bad_expr (v : Vw) : (decide (v.2.1 ≠ 1) || decide ((if checkB v then (0 : Int) else 1) ≠ 0)) = !okV v := by
 rw [decide_not, decide_not]
 unfold okV
 by_cases h : v.2.1 = 1
 · have h2 : ¬ v.2.1 = 2 := by omega
   unfold checkB
   rw [if_neg h2, if_pos h, pre_pat]
   cases hb : (patB v && outB (varsL v.2.2.2.1) v.2.2.1) <;> simp [h, hb]
 · simp [h]
end Go.Jn
/- Typed walks: what is owned is lent to a function that reads it. Over any program. -/
namespace Go.Gw
open Go
set_option linter.unusedVariables false
set_option linter.unusedSimpArgs false
theorem AllP.mono {H H' : FH} (hs : Sub H H') : ∀ {As : List Ty} {vs : List Value}, AllP H As vs → AllP H' As vs
 | [], [], _ => trivial
 | T :: As, v :: vs, h => ⟨Ty.mono T hs h.1, AllP.mono hs h.2⟩
section
variable {P : Program} {f : FuncId} {As As' : List Ty} {J : List It} {ρ : Type} {T : ρ → Ty} {φ : ρ → Prop} {Q : FH → Prop} {K0 : FH} {n0 : Nat}
open Classical in
theorem lend_post {H H1 H2 : FH} {w w' : World} (hon : On H w) (hO : Owns (fun _ => True) w H J) (h1 : Sub H H1) (hn : ∀ k o, H1 k = some o → H k = some o ∨ k ∈ blks J) (hs : St (fun g => g ∈ blks []) H1 w H2 w') :
 ∃ H', St (fun g => g ∈ blks J) H w H' w' ∧ Owns (fun g => g ∈ blks J ∨ w.heap.size ≤ g) w' H' J := by
 have hst : St noM H w (fun k => if H k = none ∧ k ∈ blks J then none else H2 k) w' := by
  refine ⟨fun k o e => ?_, fun k o e => ?_, hs.os, hs.tape, hs.output, hs.size, fun k hk _ => hs.keep k hk (by simp [blks]), fun k o e => ?_⟩
  · show (if H k = none ∧ k ∈ blks J then none else H2 k) = some o
    rw [if_neg (fun h => by rw [h.1] at e; cases e)]
    exact hs.sub k o (h1 k o e)
  · by_cases hc : H k = none ∧ k ∈ blks J
    · simp only [if_pos hc] at e; cases e
    · simp only [if_neg hc] at e; exact hs.on k o e
  · by_cases hc : H k = none ∧ k ∈ blks J
    · simp only [if_pos hc] at e; cases e
    · simp only [if_neg hc] at e
      rcases hs.new k o e with e2 | e2 | e2
      · rcases hn k o e2 with e3 | e3
        · exact .inl e3
        · refine .inl ?_
          cases hk : H k with
          | none => exact absurd ⟨hk, e3⟩ hc
          | some o' => have := h1 k o' hk; rw [e2] at this; cases this; rfl
      · exact .inr (.inl e2)
      · exact absurd e2 (by simp [blks])
 refine ⟨_, hst.none, ?_⟩
 have hO2 : Owns (fun g => g ∈ blks J ∨ w.heap.size ≤ g) w H J := ⟨hO.all, hO.nodup, fun g hg => ⟨(hO.own g hg).1, (hO.own g hg).2.1, .inl hg⟩⟩
 exact hO2.st0 hst
theorem Ct.lend (hf : Frz J Q) (h : Ct P f As [] ρ T (fun _ => []) φ) (hc : ∀ H args, AllP H As' args → Q H → AllP H As args) (hT : ∀ r H H' v, (T r).p H v → (T r).p H' v) : Ct P f As' J ρ T (fun _ => J) φ := by
 intro H w args hon hA hO
 have hO2 : Owns (fun g => g ∈ blks J) w H (J ++ []) := by rw [List.append_nil]; exact ⟨hO.all, hO.nodup, fun g hg => ⟨(hO.own g hg).1, (hO.own g hg).2.1, hg⟩⟩
 obtain ⟨H1, h1, h2, h3, _, h5⟩ := hf _ w H [] hon hO2
 refine (h H1 w args h2 (hc H1 args (hA.mono h1) h5) Owns.nil).mono ?_
 rintro e w' ⟨r, v, H2, rfl, hφ, hs, hv, _⟩
 obtain ⟨H', k1, k2⟩ := lend_post hon hO h1 h3 hs
 exact ⟨r, v, H', rfl, hφ, k1, hT r _ _ v hv, k2⟩
theorem CtM.lend (hf : Frz J Q) (h : CtM K0 n0 P f As [] ρ T (fun _ => []) φ) (hc : ∀ H args, AllP H As' args → Q H → AllP H As args) (hT : ∀ r H H' v, (T r).p H v → (T r).p H' v) : CtM K0 n0 P f As' J ρ T (fun _ => J) φ := by
 intro H w args hK hn hon hA hO
 have hO2 : Owns (fun g => g ∈ blks J) w H (J ++ []) := by rw [List.append_nil]; exact ⟨hO.all, hO.nodup, fun g hg => ⟨(hO.own g hg).1, (hO.own g hg).2.1, hg⟩⟩
 obtain ⟨H1, h1, h2, h3, _, h5⟩ := hf _ w H [] hon hO2
 refine (h H1 w args (hK.trans h1) hn h2 (hc H1 args (hA.mono h1) h5) Owns.nil).mono ?_
 rintro e w' ⟨r, v, H2, rfl, hφ, hs, hv, _⟩
 obtain ⟨H', k1, k2⟩ := lend_post hon hO h1 h3 hs
 exact ⟨r, v, H', rfl, hφ, k1, hT r _ _ v hv, k2⟩
theorem flat_bool {ρ : Type} {b : ρ → Bool} : ∀ (r : ρ) (H H' : FH) (v : Value), (BoolT (b r)).p H v → (BoolT (b r)).p H' v := fun _ _ _ _ h => h
theorem allP_hd {A B : Ty} {As : List Ty} {args : List Value} {H : FH} (hAB : ∀ v, A.p H v → B.p H v) (h : AllP H (A :: As) args) : AllP H (B :: As) args := by
 match args, h with
 | v :: vs, h => exact ⟨hAB v h.1, h.2⟩
theorem Ct.lend_hd {α : Type} {d : Kd α} {e : TypeId} {v : Value} {xs : List α} (h : Ct P f (SlT d xs :: As) [] ρ T (fun _ => []) φ) (hT : ∀ r H H' v, (T r).p H v → (T r).p H' v) : Ct P f (IsV v :: As) [OwnI e d v xs] ρ T (fun _ => [OwnI e d v xs]) φ :=
 Ct.lend Frz.own h (fun H args hA hQ => allP_hd (fun u hu => by rw [show u = v from hu]; exact hQ) hA) hT
end
end Go.Gw
namespace Go.Gw
open Go Go.MapKept
set_option linter.unusedVariables false
section
variable {C : Cx} {Γ : Env} {L R : List It} {dst : Option Tmp} {ty : TypeId} {pos : String} {after : Array Edge} {guard : Option (Nat × Bool)} {x y z : Operand}
variable {κ α : Type} [DecidableEq κ] {t kt et : TypeId} {K : Kd κ} {enc : κ → Value} {m : List (κ × α)} {g st : Nat} {k : κ}
theorem pu_lookup_entry {d : Kd α} {z0 : α} (mk : MKey C.P kt K enc) (ht : C.P.underlying t = some (.map kt et)) (hz : ZeroOf C.P et d z0) (hx : OT C.N Γ x (IsV (mp g))) (hm : MapE g enc d.T (ptk k ((lkp k m).getD z0) m) k st ∈ L) (hy : OT C.N Γ y (K.T k)) :
 Pure C Γ L ⟨dst, .lookup t x y false, ty, pos, after, guard⟩ (d.T ((lkp k m).getD z0)) := fun a w H f s ow => by
 obtain ⟨es, clock, hb, hR, _⟩ := ow.all _ hm
 obtain ⟨zv, hzr, hzt⟩ := run_zero (w := w) hz
 have hxv : a.eval x = mp g := hx a H f
 have hyv : a.eval y = enc k := mk.val (hy a H f)
 have hl : lkp k (ptk k ((lkp k m).getD z0) m) = some ((lkp k m).getD z0) := by rw [lkp_put, if_pos rfl]
 rcases run_lookup (k := k) mk ht hb hR hzr with ⟨h1, _⟩ | ⟨v0, v, h1, h2, h3, _⟩
 · rw [hl] at h1; cases h1
 · rw [hl] at h1; cases h1; exact ⟨v, by simp [execOp, hxv, hyv, h3, Result.andThen], h2⟩
end
end Go.Gw
namespace Go.Gw
theorem perm2_at {L : List It} (i j : Nat) {x y : It} (h : L[i]? = some x) (h' : (L.eraseIdx i)[j]? = some y) : L.Perm ([x, y] ++ (L.eraseIdx i).eraseIdx j) := (perm_at i h).trans ((perm_at j h').cons x)
end Go.Gw
/- Walks through the Go functions slices.Index[[]string,string], slices.Contains[[]string,string], query.name, rhizomeref01.Ints, as typed contracts. -/
namespace Go.Proofs.YtaahhghlpoiihaaGreatDoor
open Go Go.Gw Go.So Go.Tu Go.Jn
set_option linter.unusedVariables false
set_option linter.unusedSimpArgs false
abbrev kI : Kd Int := kint .i64
abbrev kE : Kd Ed := kpair kI (kpair kS kI)
abbrev kA : Kd Atm := kpair kS (kpair kS kS)
abbrev kV : Kd Vw := kpair kS (kpair kI (kpair (ksl kS) (kpair (ksl kA) kS)))
abbrev kPP : Kd Pr := kP2 kI
theorem zI : ZeroOf Tryz.prog 3 kI 0 := ⟨.int .i64 0, by kernel_rfl, fun H => rfl⟩
theorem zS : ZeroOf Tryz.prog 9 kS [] := ⟨.string (bs []), by kernel_rfl, fun H => rfl⟩
theorem nil_sl {α : Type} {d : Kd α} {H : FH} : (SlT d []).p H nilS := ⟨none, 0, rfl, by simp, by simp, fun h => by simp at h⟩
theorem e_p (H : FH) (t : Ed) : (kE.T t).p H (.agg #[.int .i64 t.1, .string (bs t.2.1), .int .i64 t.2.2]) := ⟨[.int .i64 t.1, .string (bs t.2.1), .int .i64 t.2.2], ⟨[_], [_, _], rfl, ⟨[_], [_], rfl, rfl, rfl⟩, rfl⟩, rfl⟩
theorem a_p (H : FH) (t : Atm) : (kA.T t).p H (.agg #[.string (bs t.1), .string (bs t.2.1), .string (bs t.2.2)]) := ⟨[.string (bs t.1), .string (bs t.2.1), .string (bs t.2.2)], ⟨[_], [_, _], rfl, ⟨[_], [_], rfl, rfl, rfl⟩, rfl⟩, rfl⟩
theorem zE : ZeroOf Tryz.prog 54 kE (0, [], 0) := ⟨.agg #[.int .i64 0, .string (bs []), .int .i64 0], by kernel_rfl, fun H => e_p H (0, [], 0)⟩
theorem zA : ZeroOf Tryz.prog 52 kA ([], [], []) := ⟨.agg #[.string (bs []), .string (bs []), .string (bs [])], by kernel_rfl, fun H => a_p H ([], [], [])⟩
theorem zV : ZeroOf Tryz.prog 25 kV ([], 0, [], [], []) := ⟨.agg #[.string (bs []), .int .i64 0, nilS, nilS, .string (bs [])], by kernel_rfl, fun H => ⟨[.string (bs []), .int .i64 0, nilS, nilS, .string (bs [])], ⟨[_], [_, _, _, _], rfl, ⟨[_], [_, _, _], rfl, ⟨[_], [_, _], ⟨nilS, rfl, nil_sl⟩, ⟨[_], [_], ⟨nilS, rfl, nil_sl⟩, rfl, rfl⟩, rfl⟩, rfl⟩, rfl⟩, rfl⟩⟩
theorem zT : ZeroOf Tryz.prog 58 kT [] := ⟨nilS, by kernel_rfl, fun H => nil_sl⟩
theorem zP : ZeroOf Tryz.prog 105 kPP (0, 0) := ⟨.agg #[.int .i64 0, .int .i64 0], by kernel_rfl, fun H => ⟨[.int .i64 0, .int .i64 0], ⟨rfl, rfl, fun j x e => by
 match j, e with
 | 0, e => cases e; rfl
 | 1, e => cases e; rfl
 | j + 2, e => simp at e⟩, rfl⟩⟩
theorem le0 {t : Ed} : Lens kE kI 0 t t.1 (fun y => (y, t.2)) := Lens.fst
theorem le1 {t : Ed} : Lens kE kS 1 t t.2.1 (fun y => (t.1, y, t.2.2)) := Lens.comp (Lens.snd (a := kI) (b := kpair kS kI)) (Lens.fst (a := kS) (b := kI))
theorem le2 {t : Ed} : Lens kE kI 2 t t.2.2 (fun y => (t.1, t.2.1, y)) := Lens.comp (Lens.snd (a := kI) (b := kpair kS kI)) (Lens.snd (a := kS) (b := kI))
theorem la0 {t : Atm} : Lens kA kS 0 t t.1 (fun y => (y, t.2)) := Lens.fst
theorem la1 {t : Atm} : Lens kA kS 1 t t.2.1 (fun y => (t.1, y, t.2.2)) := Lens.comp (Lens.snd (a := kS) (b := kpair kS kS)) (Lens.fst (a := kS) (b := kS))
theorem la2 {t : Atm} : Lens kA kS 2 t t.2.2 (fun y => (t.1, t.2.1, y)) := Lens.comp (Lens.snd (a := kS) (b := kpair kS kS)) (Lens.snd (a := kS) (b := kS))
abbrev kV4 : Kd (List Atm × Lab) := kpair (ksl kA) kS
abbrev kV3 : Kd (List Lab × List Atm × Lab) := kpair (ksl kS) kV4
abbrev kV2 : Kd (Int × List Lab × List Atm × Lab) := kpair kI kV3
theorem lv0 {t : Vw} : Lens kV kS 0 t t.1 (fun y => (y, t.2)) := Lens.fst
theorem lv1 {t : Vw} : Lens kV kI 1 t t.2.1 (fun y => (t.1, y, t.2.2)) := Lens.comp (Lens.snd (a := kS) (b := kV2)) (Lens.fst (a := kI) (b := kV3))
theorem lv2 {t : Vw} : Lens kV (ksl kS) 2 t t.2.2.1 (fun y => (t.1, t.2.1, y, t.2.2.2)) := Lens.comp (Lens.snd (a := kS) (b := kV2)) (Lens.comp (Lens.snd (a := kI) (b := kV3)) (Lens.fst (a := ksl kS) (b := kV4)))
theorem lv3 {t : Vw} : Lens kV (ksl kA) 3 t t.2.2.2.1 (fun y => (t.1, t.2.1, t.2.2.1, y, t.2.2.2.2)) := Lens.comp (Lens.snd (a := kS) (b := kV2)) (Lens.comp (Lens.snd (a := kI) (b := kV3)) (Lens.comp (Lens.snd (a := ksl kS) (b := kV4)) (Lens.fst (a := ksl kA) (b := kS))))
theorem lv4 {t : Vw} : Lens kV kS 4 t t.2.2.2.2 (fun y => (t.1, t.2.1, t.2.2.1, t.2.2.2.1, y)) := Lens.comp (Lens.snd (a := kS) (b := kV2)) (Lens.comp (Lens.snd (a := kI) (b := kV3)) (Lens.comp (Lens.snd (a := ksl kS) (b := kV4)) (Lens.snd (a := ksl kA) (b := kS))))

set_option maxRecDepth 20000 in
/-- slices.Index[[]string,string] -/
theorem IndexS_fn (vs : List Lab) (x : Lab) (hm : vs.length ≤ 1000000) : Ct Tryz.prog 27 [SlT kS vs, BsT x] ([]) Unit (fun _ => I64 (ixI vs x)) (fun _ => []) (fun _ => True) := by
 refine fn_intro Tryz.func27 rfl rfl ?_
 intro H w
 refine sq (te (ec 0 rfl (ec 1 rfl en)) (rg (ak rfl (tn (nn (sq (sq (te (ec 0 rfl (ec 1 rfl en)) (rg (mv rfl rfl (oP (pls (oT rfl) Tryz.underlying22) rfl (oP (pu_move ot) rfl (tn (nn (tb (tr_loopK (σ := Nat) (ec 0 rfl (ec 1 rfl (ec 7 rfl en))) (fun k => [(8, I64 (k : Int))]) (fun k => []) (fun k => k ≤ vs.length ∧ x ∉ vs.take k) (fun k => vs.length - k) 0 ⟨Nat.zero_le _, by simp⟩ ?_ (op (by exact pn)) ?_))))))))))))))))
 · exact (ec 8 rfl en)
 · rintro k ⟨hk, hno⟩
   refine sq (te (ec 0 rfl (ec 1 rfl (ec 7 rfl (ec 8 rfl en)))) (rg (oP (pu_lss (oT rfl) (oT rfl)) rfl (tn (nn (sq (tc (oT rfl) (fun c9 => ?_) (fun c9 => ?_))))))))
   · try simp only [cq] at c9
     refine sk (nn (sq (tb (sq (te (ec 0 rfl (ec 1 rfl (ec 7 rfl (ec 8 rfl en)))) (rg (mv rfl rfl (av rfl rfl (tn (nn (sq (te (ec 0 rfl (ec 1 rfl (ec 5 rfl (ec 7 rfl (ec 8 rfl en))))) (rg (mv rfl rfl (mv rfl rfl (mv rfl rfl (oP (pu_index (oT rfl) (oT rfl) Tryz.underlying22 y36 (by omega) (by omega)) rfl (oP (pL (oT rfl) y36) rfl (oP (pu_bs_eql (oT rfl) (oT rfl)) rfl (tn (nn (tc (oT rfl) (fun c16 => ?_) (fun c16 => ?_)))))))))))))))))))))))
     · try simp only [cq] at c16
       have hres := ixI_here (vs := vs) (x := x) (k := k) (by omega) hno c16
       refine sq (te (ec 5 rfl en) (rg (mv rfl rfl (av rfl rfl (tn (nn (tR (block_ret (tt (tt (block_ret (tt ?_))))))))))))
       exact ret_one .ret (.inl rfl) rfl () (OT.val (oT rfl) (congrArg (Value.int _) (hres.symm))) trivial (by exact pn)
     · try simp only [cq] at c16
       have hst := ixI_next (vs := vs) (x := x) (k := k) (by omega) hno c16
       refine sk (bn (nn (te (ec 0 rfl (ec 1 rfl (ec 7 rfl (ec 8 rfl en)))) (rg (oP (pad (oT rfl) ot (by omega)) rfl (mv rfl rfl (tn (nn ?_))))))))
       exact tg (k + 1) ⟨by omega, hst⟩ (by omega) (ea (ec 8 rfl en) (ec 0 rfl (ec 1 rfl (ec 7 rfl en)))) (op (by exact pn))
   · try simp only [cq] at c9
     refine tr_exit (tx (tx (bh (nn (sq (te en ?_))))))
     obtain rfl : k = vs.length := by omega
     have hres := ixI_none (vs := vs) (x := x) hno
     refine rg (ak rfl (tn (nn (tR ?_))))
     exact ret_one .ret (.inl rfl) rfl () (OT.val (oT rfl) (congrArg (Value.int _) (hres.symm))) trivial (by exact pn)
set_option maxRecDepth 20000 in
/-- slices.Contains[[]string,string] -/
theorem ContainsS_fn (vs : List Lab) (x : Lab) (hm : vs.length ≤ 1000000) : Ct Tryz.prog 46 [SlT kS vs, BsT x] ([]) Unit (fun _ => BoolT (vs.contains x)) (fun _ => []) (fun _ => True) := by
 refine fn_intro Tryz.func46 rfl rfl ?_
 intro H w
 refine sq (te (ec 0 rfl (ec 1 rfl en)) (rg (ak rfl (tn (nn (sq (te (ec 0 rfl (ec 1 rfl en)) (rg (mv rfl rfl (mv rfl rfl (oA (aC (IndexS_fn _ _ (by assumption)) y37 (oc (oT rfl) (oc (oT rfl) oN)) pR) pR rfl rfl (fun _ _ => ?_))))))))))))
 refine oP (pu_geq (oT rfl) ot) rfl (av rfl rfl (tn (nn (tR ?_))))
 exact ret_one .ret (.inl rfl) rfl () (OT.val (oT rfl) (congrArg Value.bool (ixI_pos))) trivial (by exact pn)
set_option maxRecDepth 20000 in
/-- rhizome/query.name -/
theorem name_fn (l : Lab) : Ct Tryz.prog 103 [BsT l] ([]) Unit (fun _ => BoolT (nameB l)) (fun _ => []) (fun _ => True) := by
 refine fn_intro Tryz.func103 rfl rfl ?_
 intro H w
 refine sq (te (ec 0 rfl en) (rg (ak rfl (tn (nn (sq (te (ec 0 rfl en) (rg (mv rfl rfl (oP (pu_len_bs Tryz.underlying9 (oT rfl)) rfl (oP (pu_geq (oT rfl) ot) rfl (mv rfl rfl (oG rfl rfl rfl (gm (oT rfl)) (fun hg => by (have hg1 := hg.2; (try simp only [cq2] at hg1); exact pu_move (oT rfl))) rfl ?_)))))))))))))
 refine oG rfl rfl rfl (gm (oT rfl)) (fun hg => by (have hg1 := hg.2; (try simp only [cq2] at hg1); exact pu_len_bs Tryz.underlying9 (by exact gu (oT rfl) hg))) rfl ?_
 refine oG rfl rfl rfl (gm (oT rfl)) (fun hg => by (have hg1 := hg.2; (try simp only [cq2] at hg1); exact pu_leq (by exact gu (oT rfl) hg) ot)) rfl ?_
 refine oP (pu_pick_and (oT rfl) (oT rfl)) rfl (mv rfl rfl (oG rfl rfl rfl (gm (oT rfl)) (fun hg => by (have hg1 := hg.2; (try simp only [cq2] at hg1); exact pu_move (oT rfl))) rfl ?_))
 refine op_gu_acts () rfl rfl rfl (gm (oT rfl)) (fun hg => by (have hg1 := hg.2; (try simp only [cq2] at hg1); exact acts_callM (Contains_ct (K0 := noK) (n0 := 0) _) mk_none y38 (oc (by exact gu (oT rfl) hg) (oc OT.func oN)) pR)) rfl (fun _ _ => ?_)
 refine oG rfl rfl rfl (gm (oT rfl)) (fun hg => by (have hg1 := hg.2; (try simp only [cq2] at hg1); exact pu_not (by exact gu (oT rfl) hg))) rfl ?_
 refine oP (pu_pick_and (oT rfl) (oT rfl)) rfl (av rfl rfl (tn (nn (tR ?_))))
 exact ret_one .ret (.inl rfl) rfl () (OT.val (oT rfl) (congrArg Value.bool (name_expr l))) trivial (by exact pn)

set_option maxRecDepth 20000 in
/-- rhizome/query.Vars -/
theorem Vars_fn (v : Vw) (hv : v.2.2.2.1.length ≤ 1000) : Ct Tryz.prog 25 [kV.T v] ([]) Unit (fun _ => SlT kS (varsL v.2.2.2.1)) (fun _ => []) (fun _ => True) := by
 refine fn_intro Tryz.func25 rfl rfl ?_
 intro H w
 refine sq (te (ec 0 rfl en) (rg (oA (acts_box (d := kV) (oT rfl)) pR rfl rfl (fun g0_0 _ => ?_))))
 refine ak rfl (tn (nn (sq (te (ec 1 rfl en) (rg (ak rfl (tn (nn (sq (sq (te (ec 1 rfl (ec 3 rfl en)) (tr_nilItem 9 kS (rg (oP (pf (oT rfl) y39) rfl (oP (plb (oT rfl) (by exact mA 1 rfl) lv3 y40) rfl ?_)))))))))))))))
 refine oP (pls (oT rfl) Tryz.underlying23) rfl (oP (pu_move ot) rfl (tn (nn (tb (tr_loopK (σ := Nat × Value) (ec 9 rfl (ec 10 rfl en)) (fun s => [(11, I64 (s.1 : Int)), (3, IsV s.2)]) (fun s => [OwnI 9 kS s.2 (varsL (v.2.2.2.1.take s.1)), BlkI g0_0 25 kV v]) (fun s => s.1 ≤ v.2.2.2.1.length) (fun s => v.2.2.2.1.length - s.1) (0, nilS) (Nat.zero_le _) ?_ (op (by repeat first | exact pn | refine pc 0 rfl ?_)) ?_)))))
 · exact (ec 11 rfl (ec 3 rfl en))
 · rintro ⟨k, vo⟩ hk
   dsimp only at hk ⊢
   refine sq (te (ec 3 rfl (ec 9 rfl (ec 10 rfl (ec 11 rfl en)))) (rg (oP (pu_lss (oT rfl) (oT rfl)) rfl (tn (nn (sq (tc (oT rfl) (fun c12 => ?_) (fun c12 => ?_))))))))
   · try simp only [cq] at c12
     refine sk (nn (sq (tb (sq (te (ec 3 rfl (ec 9 rfl (ec 10 rfl (ec 11 rfl en)))) ?_)))))
     obtain ⟨a, ha⟩ : ∃ a, at' v.2.2.2.1 (k : Int) = a := ⟨_, rfl⟩
     have hsn := varsL_at (k := k) (show k < v.2.2.2.1.length by omega)
     have hvl := varsL_len (v.2.2.2.1.take k)
     rw [List.length_take] at hvl
     rw [ha] at hsn
     refine rg (oP (pu_index (oT rfl) (oT rfl) Tryz.underlying23 y41 (by omega) (by omega)) rfl (oP (pL (oT rfl) y41) rfl (oA (acts_alloc (zA)) pR rfl rfl (fun g4_2 _ => ?_))))
     refine oA (asv (oT rfl) (oT rfl) (by exact pA 0 rfl) y41) (by exact pA 0 rfl) rfl rfl (fun _ _ => ?_)
     refine tn (nn (sq (te (ec 3 rfl (ec 5 rfl (ec 9 rfl (ec 10 rfl (ec 11 rfl en))))) ?_)))
     rw [ha]
     refine rg (oP (pf (oT rfl) y42) rfl (oP (plb (oT rfl) (by exact mA 0 rfl) la0 y36) rfl ?_))
     refine oP (pf (oT rfl) y43) rfl (oP (plb (oT rfl) (by exact mA 0 rfl) la2 y36) rfl ?_)
     refine oA (acts_lit (d := kS) (v0 := []) y44 y36 zS (show 2 * 1 ≤ 16777216 from by decide) (by decide) (fills_arr rfl rfl (by decide) (oT rfl) (fills_arr rfl rfl (by decide) (oT rfl) fills_nil))) pR rfl rfl (fun _ _ => ?_)
     refine oP (pls (oT rfl) Tryz.underlying22) rfl (oP (pu_move ot) rfl (tn (tr_as 19 (T := SlT kS [a.1, a.2.2]) (oT rfl) (tr_as 20 (T := I64 2) (oT rfl) ?_))))
     refine nn (tb (tr_loopK (σ := Nat × Value) (ec 9 rfl (ec 10 rfl (ec 11 rfl (ec 19 rfl (ec 20 rfl en))))) (fun s => [(21, I64 (s.1 : Int)), (3, IsV s.2)]) (fun s => [OwnI 9 kS s.2 (addsV (varsL (v.2.2.2.1.take k)) a s.1), BlkI g0_0 25 kV v]) (fun s => s.1 ≤ 2) (fun s => 2 - s.1) (0, vo) (Nat.zero_le _) ?_ (op (by repeat first | exact pn | refine pc 1 rfl ?_)) ?_))
     · exact (ec 21 rfl (ec 3 rfl en))
     · rintro ⟨j, vo2⟩ hj
       dsimp only at hj ⊢
       refine sq (te (ec 3 rfl (ec 9 rfl (ec 10 rfl (ec 11 rfl (ec 19 rfl (ec 20 rfl (ec 21 rfl en))))))) (rg (oP (pu_lss (oT rfl) (oT rfl)) rfl (tn (nn (sq (tc (oT rfl) (fun c22 => ?_) (fun c22 => ?_))))))))
       · try simp only [cq] at c22
         refine sk (nn (sq (tb (sq (te (ec 3 rfl (ec 9 rfl (ec 10 rfl (ec 11 rfl (ec 19 rfl (ec 20 rfl (ec 21 rfl en))))))) ?_)))))
         obtain ⟨x, hx⟩ : ∃ x, at' [a.1, a.2.2] (j : Int) = x := ⟨_, rfl⟩
         obtain ⟨out, ho⟩ : ∃ o, addsV (varsL (v.2.2.2.1.take k)) a j = o := ⟨_, rfl⟩
         have hol := addsV_len (varsL (v.2.2.2.1.take k)) a j
         have hst := addsV_step (varsL (v.2.2.2.1.take k)) a (j := j) (by show j < 2; omega)
         rw [hx, ho] at hst
         rw [ho] at hol
         rw [ho]
         refine rg (oP (pu_index (oT rfl) (oT rfl) Tryz.underlying22 y36 (by omega) (by omega)) rfl (oP (pL (oT rfl) y36) rfl (av rfl rfl (tn (nn (sq (te (ec 3 rfl (ec 7 rfl (ec 9 rfl (ec 10 rfl (ec 11 rfl (ec 19 rfl (ec 20 rfl (ec 21 rfl en)))))))) ?_)))))))
         rw [hx]
         refine rg (mv rfl rfl (mv rfl rfl (oA (aC (Ct.lend_hd (ContainsS_fn out x (by omega)) flat_bool) y45 (oc (oT rfl) (oc (oT rfl) oN)) (by exact pA 0 rfl)) (by exact pA 0 rfl) rfl rfl (fun _ _ => ?_))))
         refine oP (pu_not (oT rfl)) rfl (tn (nn (tc (oT rfl) (fun c28 => ?_) (fun c28 => ?_))))
         · try simp only [cq] at c28
           rw [addV, if_neg (by simpa using c28)] at hst
           refine te (ec 3 rfl (ec 7 rfl (ec 9 rfl (ec 10 rfl (ec 11 rfl (ec 19 rfl (ec 20 rfl (ec 21 rfl en)))))))) (rg (mv rfl rfl (mv rfl rfl (oA (acts_lit (d := kS) (v0 := []) y44 y36 zS (show 1 * 1 ≤ 16777216 from by decide) (by decide) (fills_arr rfl rfl (by decide) (oT rfl) fills_nil)) pR rfl rfl (fun _ _ => ?_)))))
           refine oA (acts_append (oT rfl) (by exact pA 0 rfl) (oT rfl) y44 (by (simp; omega)) (by (simp [maxLen]; omega))) (by exact pA 0 rfl) rfl rfl (fun v9_3 _ => ?_)
           refine av rfl rfl (tn (bn (nn (te (ec 3 rfl (ec 9 rfl (ec 10 rfl (ec 11 rfl (ec 19 rfl (ec 20 rfl (ec 21 rfl en))))))) (rg (oP (pad (oT rfl) ot (by omega)) rfl (mv rfl rfl (tn (nn ?_)))))))))
           exact tg (j + 1, v9_3) (by show j + 1 ≤ 2; omega) (by show 2 - (j + 1) < 2 - j; omega) (ea (ec 21 rfl (ec 3 rfl en)) (ec 9 rfl (ec 10 rfl (ec 11 rfl (ec 19 rfl (ec 20 rfl en)))))) (op (by rw [hst]; exact (by repeat first | exact pn | refine pc 0 rfl ?_)))
         · try simp only [cq] at c28
           rw [addV, if_pos (by simpa using c28)] at hst
           refine sk (bn (nn (te (ec 3 rfl (ec 9 rfl (ec 10 rfl (ec 11 rfl (ec 19 rfl (ec 20 rfl (ec 21 rfl en))))))) (rg (oP (pad (oT rfl) ot (by omega)) rfl (mv rfl rfl (tn (nn ?_))))))))
           exact tg (j + 1, vo2) (by show j + 1 ≤ 2; omega) (by show 2 - (j + 1) < 2 - j; omega) (ea (ec 21 rfl (ec 3 rfl en)) (ec 9 rfl (ec 10 rfl (ec 11 rfl (ec 19 rfl (ec 20 rfl en)))))) (op (by rw [hst]; exact (by repeat first | exact pn | refine pc 0 rfl ?_)))
       · try simp only [cq] at c22
         refine tr_exit (tx (tx (bh (bn (nn (te (ec 3 rfl (ec 9 rfl (ec 10 rfl (ec 11 rfl en)))) ?_))))))
         obtain rfl : j = 2 := by omega
         have hend : addsV (varsL (v.2.2.2.1.take k)) a 2 = varsL (v.2.2.2.1.take (k + 1)) := hsn.symm
         refine rg (oP (pad (oT rfl) ot (by omega)) rfl (mv rfl rfl (tn (nn ?_))))
         exact tg (k + 1, vo2) (by show k + 1 ≤ v.2.2.2.1.length; omega) (by omega) (ea (ec 11 rfl (ec 3 rfl en)) (ec 9 rfl (ec 10 rfl en))) (op (by rw [← hend]; exact (by repeat first | exact pn | refine pc 0 rfl ?_)))
   · try simp only [cq] at c12
     refine tr_exit (tx (tx (bh (nn (sq (te (ec 3 rfl en) ?_))))))
     obtain rfl : k = v.2.2.2.1.length := by omega
     rw [List.take_length]
     refine tr_freeze (by exact pA 0 rfl) 3 (oT rfl) ?_
     refine rg (mv rfl rfl (av rfl rfl (tn (nn (tR ?_)))))
     exact ret_one .ret (.inl rfl) rfl () (oT rfl) trivial (by exact pn)

set_option maxRecDepth 20000 in
/-- rhizome/query.Check -/
theorem Check_fn (v : Vw) (ho : v.2.2.1.length ≤ maxLen) (ha : v.2.2.2.1.length ≤ maxLen) : Ct Tryz.prog 88 [kV.T v] ([]) Unit (fun _ => I64 (if checkB v then 0 else 1)) (fun _ => []) (fun _ => True) := by
 refine fn_intro Tryz.func88 rfl rfl ?_
 intro H w
 unfold maxLen at ho ha
 refine sq (te (ec 0 rfl en) (rg (oA (acts_box (d := kV) (oT rfl)) pR rfl rfl (fun g0_0 _ => ?_))))
 refine ak rfl (tn (nn (sq (te (ec 1 rfl en) (rg (oP (pf (oT rfl) y46) rfl (oP (plb (oT rfl) (by exact mA 0 rfl) lv0 y36) rfl ?_)))))))
 refine oA (aC (name_fn _) y47 (oc (oT rfl) oN) pR) pR rfl rfl (fun _ _ => ?_)
 refine av rfl rfl (tn (nn (sq (sq (te (ec 1 rfl (ec 3 rfl en)) (rg (oP (pf (oT rfl) y48) rfl (oP (plb (oT rfl) (by exact mA 0 rfl) lv1 y2) rfl ?_))))))))
 refine tn (nn (tb (sq (te (ec 1 rfl (ec 3 rfl (ec 13 rfl en))) (rg (oP (pu_eql (oT rfl) ot) rfl (av rfl rfl (tn (nn (tc (oT rfl) (fun c14 => ?_) (fun c14 => ?_)))))))))))
 · refine te (ec 1 rfl (ec 3 rfl en)) (rg (mv rfl rfl (mv rfl rfl (oG rfl rfl rfl (gm (oT rfl)) (fun hg => by (have hg1 := hg.2; (try simp only [cq2] at hg1); exact pf (oT rfl) y49)) rfl ?_))))
   refine oG rfl rfl rfl (gm (oT rfl)) (fun hg => by (have hg1 := hg.2; (try simp only [cq2] at hg1); exact plb (by exact gu (oT rfl) hg) (by exact mA 0 rfl) lv4 y36)) rfl ?_
   refine op_gu_acts () rfl rfl rfl (gm (oT rfl)) (fun hg => by (have hg1 := hg.2; (try simp only [cq2] at hg1); exact aC (name_fn _) y47 (oc (by exact gu (oT rfl) hg) oN) pR)) rfl (fun _ _ => ?_)
   refine oP (pu_pick_and (oT rfl) (oT rfl)) rfl (mv rfl rfl (oG rfl rfl rfl (gm (oT rfl)) (fun hg => by (have hg1 := hg.2; (try simp only [cq2] at hg1); exact pf (oT rfl) y50)) rfl ?_))
   refine oG rfl rfl rfl (gm (oT rfl)) (fun hg => by (have hg1 := hg.2; (try simp only [cq2] at hg1); exact plb (by exact gu (oT rfl) hg) (by exact mA 0 rfl) lv2 y51)) rfl ?_
   refine oG rfl rfl rfl (gm (oT rfl)) (fun hg => by (have hg1 := hg.2; (try simp only [cq2] at hg1); exact pls (by exact gu (oT rfl) hg) Tryz.underlying22)) rfl ?_
   refine oG rfl rfl rfl (gm (oT rfl)) (fun hg => by (have hg1 := hg.2; (try simp only [cq2] at hg1); exact pu_eql (by exact gu (oT rfl) hg) ot)) rfl ?_
   refine oP (pu_pick_and (oT rfl) (oT rfl)) rfl (mv rfl rfl (oG rfl rfl rfl (gm (oT rfl)) (fun hg => by (have hg1 := hg.2; (try simp only [cq2] at hg1); exact pf (oT rfl) y39)) rfl ?_))
   refine oG rfl rfl rfl (gm (oT rfl)) (fun hg => by (have hg1 := hg.2; (try simp only [cq2] at hg1); exact plb (by exact gu (oT rfl) hg) (by exact mA 0 rfl) lv3 y40)) rfl ?_
   refine oG rfl rfl rfl (gm (oT rfl)) (fun hg => by (have hg1 := hg.2; (try simp only [cq2] at hg1); exact pls (by exact gu (oT rfl) hg) Tryz.underlying23)) rfl ?_
   refine oG rfl rfl rfl (gm (oT rfl)) (fun hg => by (have hg1 := hg.2; (try simp only [cq2] at hg1); exact pu_eql (by exact gu (oT rfl) hg) ot)) rfl ?_
   refine oP (pu_pick_and (oT rfl) (oT rfl)) rfl (av rfl rfl (tn (bn (nn (sq (sq (te (ec 3 rfl en) (rg (mv rfl rfl (oP (pu_not (oT rfl)) rfl (tn (nn (tc (oT rfl) (fun c119 => ?_) (fun c119 => ?_))))))))))))))
   · refine sq (te en (rg (ak rfl (tn (nn (tR (tt ?_)))))))
     exact ret_one .ret (.inl rfl) rfl () (OT.val (oT rfl) (congrArg (Value.int _) (chk2 (b := true) c14 c119))) trivial (by exact pn)
   · refine sk (nn (sq (te en (rg (ak rfl (tn (nn (tR ?_))))))))
     exact ret_one .ret (.inl rfl) rfl () (OT.val (oT rfl) (congrArg (Value.int _) (chk2 (b := false) c14 c119))) trivial (by exact pn)
 · refine sq (te (ec 1 rfl (ec 3 rfl (ec 13 rfl en))) (rg (oP (pu_eql (oT rfl) ot) rfl (av rfl rfl (tn (nn (tc (oT rfl) (fun c34 => ?_) (fun c34 => ?_))))))))
   · refine sq (te (ec 1 rfl (ec 3 rfl en)) (rg (mv rfl rfl (mv rfl rfl (oG rfl rfl rfl (gm (oT rfl)) (fun hg => by (have hg1 := hg.2; (try simp only [cq2] at hg1); exact pf (oT rfl) y49)) rfl ?_)))))
     refine oG rfl rfl rfl (gm (oT rfl)) (fun hg => by (have hg1 := hg.2; (try simp only [cq2] at hg1); exact plb (by exact gu (oT rfl) hg) (by exact mA 0 rfl) lv4 y36)) rfl ?_
     refine oG rfl rfl rfl (gm (oT rfl)) (fun hg => by (have hg1 := hg.2; (try simp only [cq2] at hg1); exact pu_bs_eql (by exact gu (oT rfl) hg) ot)) rfl ?_
     refine oP (pu_pick_and (oT rfl) (oT rfl)) rfl (mv rfl rfl (oG rfl rfl rfl (gm (oT rfl)) (fun hg => by (have hg1 := hg.2; (try simp only [cq2] at hg1); exact pf (oT rfl) y50)) rfl ?_))
     refine oG rfl rfl rfl (gm (oT rfl)) (fun hg => by (have hg1 := hg.2; (try simp only [cq2] at hg1); exact plb (by exact gu (oT rfl) hg) (by exact mA 0 rfl) lv2 y51)) rfl ?_
     refine oG rfl rfl rfl (gm (oT rfl)) (fun hg => by (have hg1 := hg.2; (try simp only [cq2] at hg1); exact pls (by exact gu (oT rfl) hg) Tryz.underlying22)) rfl ?_
     refine oG rfl rfl rfl (gm (oT rfl)) (fun hg => by (have hg1 := hg.2; (try simp only [cq2] at hg1); exact pu_geq (by exact gu (oT rfl) hg) ot)) rfl ?_
     refine oP (pu_pick_and (oT rfl) (oT rfl)) rfl (mv rfl rfl (oG rfl rfl rfl (gm (oT rfl)) (fun hg => by (have hg1 := hg.2; (try simp only [cq2] at hg1); exact pf (oT rfl) y50)) rfl ?_))
     refine oG rfl rfl rfl (gm (oT rfl)) (fun hg => by (have hg1 := hg.2; (try simp only [cq2] at hg1); exact plb (by exact gu (oT rfl) hg) (by exact mA 0 rfl) lv2 y51)) rfl ?_
     refine oG rfl rfl rfl (gm (oT rfl)) (fun hg => by (have hg1 := hg.2; (try simp only [cq2] at hg1); exact pls (by exact gu (oT rfl) hg) Tryz.underlying22)) rfl ?_
     refine oG rfl rfl rfl (gm (oT rfl)) (fun hg => by (have hg1 := hg.2; (try simp only [cq2] at hg1); exact pu_leq (by exact gu (oT rfl) hg) ot)) rfl ?_
     refine oP (pu_pick_and (oT rfl) (oT rfl)) rfl (mv rfl rfl (oG rfl rfl rfl (gm (oT rfl)) (fun hg => by (have hg1 := hg.2; (try simp only [cq2] at hg1); exact pf (oT rfl) y39)) rfl ?_))
     refine oG rfl rfl rfl (gm (oT rfl)) (fun hg => by (have hg1 := hg.2; (try simp only [cq2] at hg1); exact plb (by exact gu (oT rfl) hg) (by exact mA 0 rfl) lv3 y40)) rfl ?_
     refine oG rfl rfl rfl (gm (oT rfl)) (fun hg => by (have hg1 := hg.2; (try simp only [cq2] at hg1); exact pls (by exact gu (oT rfl) hg) Tryz.underlying23)) rfl ?_
     refine oG rfl rfl rfl (gm (oT rfl)) (fun hg => by (have hg1 := hg.2; (try simp only [cq2] at hg1); exact pu_geq (by exact gu (oT rfl) hg) ot)) rfl ?_
     refine oP (pu_pick_and (oT rfl) (oT rfl)) rfl (mv rfl rfl (oG rfl rfl rfl (gm (oT rfl)) (fun hg => by (have hg1 := hg.2; (try simp only [cq2] at hg1); exact pf (oT rfl) y39)) rfl ?_))
     refine oG rfl rfl rfl (gm (oT rfl)) (fun hg => by (have hg1 := hg.2; (try simp only [cq2] at hg1); exact plb (by exact gu (oT rfl) hg) (by exact mA 0 rfl) lv3 y40)) rfl ?_
     refine oG rfl rfl rfl (gm (oT rfl)) (fun hg => by (have hg1 := hg.2; (try simp only [cq2] at hg1); exact pls (by exact gu (oT rfl) hg) Tryz.underlying23)) rfl ?_
     refine oG rfl rfl rfl (gm (oT rfl)) (fun hg => by (have hg1 := hg.2; (try simp only [cq2] at hg1); exact pu_leq (by exact gu (oT rfl) hg) ot)) rfl ?_
     refine oP (pu_pick_and (oT rfl) (oT rfl)) rfl (av rfl rfl (tn (nn (sq (sq (te (ec 1 rfl (ec 3 rfl en)) (rg (oP (pf (oT rfl) y39) rfl (oP (plb (oT rfl) (by exact mA 0 rfl) lv3 y40) rfl ?_)))))))))
     refine oP (pls (oT rfl) Tryz.underlying23) rfl (oP (pu_move ot) rfl (tn (nn (tb (tr_loopK (σ := Nat) (ec 1 rfl (ec 67 rfl (ec 68 rfl en))) (fun k => [(69, I64 (k : Int)), (3, BoolT (preB v && (v.2.2.2.1.take k).all atmB))]) (fun k => [BlkI g0_0 25 kV v]) (fun k => k ≤ v.2.2.2.1.length) (fun k => v.2.2.2.1.length - k) 0 (Nat.zero_le _) ?_ (op (by repeat first | exact pn | refine pc 0 rfl ?_)) ?_)))))
     · exact (ec 69 rfl (es_cons (t := 3) (OT.val (oT rfl) (congrArg Value.bool (by rw [List.take_zero]; simp [preB]))) en))
     · rintro k hk
       refine sq (te (ec 1 rfl (ec 3 rfl (ec 67 rfl (ec 68 rfl (ec 69 rfl en))))) (rg (oP (pu_lss (oT rfl) (oT rfl)) rfl (tn (nn (sq (tc (oT rfl) (fun c70 => ?_) (fun c70 => ?_))))))))
       · refine sk (nn (sq (tb (sq (te (ec 1 rfl (ec 3 rfl (ec 67 rfl (ec 68 rfl (ec 69 rfl en))))) (rg (oP (pu_index (oT rfl) (oT rfl) Tryz.underlying23 y41 (by omega) (by (simp [maxLen] at *; omega))) rfl ?_)))))))
         refine oP (pL (oT rfl) y41) rfl (oA (acts_alloc (zA)) pR rfl rfl (fun g10_2 _ => ?_))
         refine oA (asv (oT rfl) (oT rfl) (by exact pA 0 rfl) y41) (by exact pA 0 rfl) rfl rfl (fun _ _ => ?_)
         refine tn (nn (te (ec 1 rfl (ec 3 rfl (ec 5 rfl (ec 67 rfl (ec 68 rfl (ec 69 rfl en)))))) (rg (mv rfl rfl (mv rfl rfl (oG rfl rfl rfl (gm (oT rfl)) (fun hg => by (have hg1 := hg.2; (try simp only [cq2] at hg1); exact pf (oT rfl) y42)) rfl ?_))))))
         refine oG rfl rfl rfl (gm (oT rfl)) (fun hg => by (have hg1 := hg.2; (try simp only [cq2] at hg1); exact plb (by exact gu (oT rfl) hg) (by exact mA 0 rfl) la0 y36)) rfl ?_
         refine op_gu_acts () rfl rfl rfl (gm (oT rfl)) (fun hg => by (have hg1 := hg.2; (try simp only [cq2] at hg1); exact aC (name_fn _) y47 (oc (by exact gu (oT rfl) hg) oN) pR)) rfl (fun _ _ => ?_)
         refine oP (pu_pick_and (oT rfl) (oT rfl)) rfl (mv rfl rfl (oG rfl rfl rfl (gm (oT rfl)) (fun hg => by (have hg1 := hg.2; (try simp only [cq2] at hg1); exact pf (oT rfl) y52)) rfl ?_))
         refine oG rfl rfl rfl (gm (oT rfl)) (fun hg => by (have hg1 := hg.2; (try simp only [cq2] at hg1); exact plb (by exact gu (oT rfl) hg) (by exact mA 0 rfl) la1 y36)) rfl ?_
         refine op_gu_acts () rfl rfl rfl (gm (oT rfl)) (fun hg => by (have hg1 := hg.2; (try simp only [cq2] at hg1); exact aC (name_fn _) y47 (oc (by exact gu (oT rfl) hg) oN) pR)) rfl (fun _ _ => ?_)
         refine oP (pu_pick_and (oT rfl) (oT rfl)) rfl (mv rfl rfl (oG rfl rfl rfl (gm (oT rfl)) (fun hg => by (have hg1 := hg.2; (try simp only [cq2] at hg1); exact pf (oT rfl) y43)) rfl ?_))
         refine oG rfl rfl rfl (gm (oT rfl)) (fun hg => by (have hg1 := hg.2; (try simp only [cq2] at hg1); exact plb (by exact gu (oT rfl) hg) (by exact mA 0 rfl) la2 y36)) rfl ?_
         refine op_gu_acts () rfl rfl rfl (gm (oT rfl)) (fun hg => by (have hg1 := hg.2; (try simp only [cq2] at hg1); exact aC (name_fn _) y47 (oc (by exact gu (oT rfl) hg) oN) pR)) rfl (fun _ _ => ?_)
         refine oP (pu_pick_and (oT rfl) (oT rfl)) rfl (av rfl rfl (tn (bn (nn (te (ec 1 rfl (ec 3 rfl (ec 67 rfl (ec 68 rfl (ec 69 rfl en))))) (rg (oP (pad (oT rfl) ot (by (simp [maxLen] at *; omega))) rfl ?_)))))))
         refine mv rfl rfl (tn (nn ?_))
         exact tg (k + 1) (by simp only [decide_eq_true_eq] at c70; omega) (by simp only [decide_eq_true_eq] at c70; omega) (ea (ec 69 rfl (es_cons (t := 3) (OT.val (oT rfl) (congrArg Value.bool (atoms_step (by simp only [decide_eq_true_eq] at c70; omega)))) en)) (ec 1 rfl (ec 67 rfl (ec 68 rfl en)))) (op (by repeat first | exact pn | refine pc 1 rfl ?_))
       · refine tr_exit (tx (tx (bh (nn (sq (sq (te (ec 1 rfl (ec 3 rfl en)) (rg (mv rfl rfl (oP (pu_not (oT rfl)) rfl (tn (nn (tc (oT rfl) (fun c91 => ?_) (fun c91 => ?_))))))))))))))
         · obtain rfl : k = v.2.2.2.1.length := by simp only [decide_eq_false_iff_not] at c70; omega
           rw [List.take_length] at c91
           refine sq (te en (rg (ak rfl (tn (nn (tR (tt (block_ret (tt ?_)))))))))
           exact ret_one .ret (.inl rfl) rfl () (OT.val (oT rfl) (congrArg (Value.int _) (chk1 c14 c34 c91))) trivial (by exact pn)
         · obtain rfl : k = v.2.2.2.1.length := by simp only [decide_eq_false_iff_not] at c70; omega
           rw [List.take_length] at c91
           have hpa : (preB v && v.2.2.2.1.all atmB) = true := by simpa using c91
           obtain ⟨hp1, hp2⟩ := Bool.and_eq_true_iff.1 hpa
           obtain ⟨hl1, hl2, hl3, hl4⟩ := pre_lens hp1
           have hvl := varsL_len v.2.2.2.1
           refine sk (nn (sq (te (ec 1 rfl (ec 3 rfl en)) (rg (oP (plv (oT rfl) (by exact mA 0 rfl) y53) rfl ?_)))))
           refine oA (aC (Vars_fn _ (by omega)) y54 (oc (oT rfl) oN) pR) pR rfl rfl (fun _ _ => ?_)
           refine av rfl rfl (tn (nn (sq (te (ec 1 rfl (ec 3 rfl (ec 6 rfl en))) (rg (oP (pf (oT rfl) y50) rfl (oP (plb (oT rfl) (by exact mA 0 rfl) lv2 y51) rfl ?_)))))))
           refine oP (pls (oT rfl) Tryz.underlying22) rfl (oP (pu_move ot) rfl (tn (nn (tb (tr_loopK (σ := Nat) (ec 1 rfl (ec 6 rfl (ec 95 rfl (ec 96 rfl en)))) (fun i => [(97, I64 (i : Int)), (3, BoolT (outB (varsL v.2.2.2.1) (v.2.2.1.take i)))]) (fun i => [BlkI g0_0 25 kV v]) (fun i => i ≤ v.2.2.1.length) (fun i => v.2.2.1.length - i) 0 (Nat.zero_le _) ?_ (op (by repeat first | exact pn | refine pc 0 rfl ?_)) ?_)))))
           · exact (ec 97 rfl (es_cons (t := 3) (OT.val (oT rfl) (congrArg Value.bool (by rw [List.take_length, hpa]; rfl))) en))
           · rintro i hi
             refine sq (te (ec 1 rfl (ec 3 rfl (ec 6 rfl (ec 95 rfl (ec 96 rfl (ec 97 rfl en)))))) (rg (oP (pu_lss (oT rfl) (oT rfl)) rfl (tn (nn (sq (tc (oT rfl) (fun c98 => ?_) (fun c98 => ?_))))))))
             · refine sk (nn (sq (tb (sq (te (ec 1 rfl (ec 3 rfl (ec 6 rfl (ec 95 rfl (ec 96 rfl (ec 97 rfl en)))))) (rg (mv rfl rfl (oP (pu_index (oT rfl) (oT rfl) Tryz.underlying22 y36 (by omega) (by (simp [maxLen] at *; omega))) rfl ?_))))))))
               refine oP (pL (oT rfl) y36) rfl (av rfl rfl (av rfl rfl (tn (nn (te (ec 1 rfl (ec 3 rfl (ec 6 rfl (ec 7 rfl (ec 8 rfl (ec 95 rfl (ec 96 rfl (ec 97 rfl en)))))))) (rg (mv rfl rfl (mv rfl rfl (oG rfl rfl rfl (gm (oT rfl)) (fun hg => by (have hg1 := hg.2; (try simp only [cq2] at hg1); exact pu_move (oT rfl))) rfl ?_)))))))))
               refine oG rfl rfl rfl (gm (oT rfl)) (fun hg => by (have hg1 := hg.2; (try simp only [cq2] at hg1); exact pu_move (oT rfl))) rfl ?_
               refine op_gu_acts () rfl rfl rfl (gm (oT rfl)) (fun hg => by (have hg1 := hg.2; (try simp only [cq2] at hg1); exact aC (ContainsS_fn (varsL v.2.2.2.1) (at' v.2.2.1 (i : Int)) (by omega)) y45 (oc (by exact gu (oT rfl) hg) (oc (by exact gu (oT rfl) hg) oN)) pR)) rfl (fun _ _ => ?_)
               refine oP (pu_pick_and (oT rfl) (oT rfl)) rfl (mv rfl rfl (oG rfl rfl rfl (gm (oT rfl)) (fun hg => by (have hg1 := hg.2; (try simp only [cq2] at hg1); exact pf (oT rfl) y50)) rfl ?_))
               refine oG rfl rfl rfl (gm (oT rfl)) (fun hg => by (have hg1 := hg.2; (try simp only [cq2] at hg1); exact plb (by exact gu (oT rfl) hg) (by exact mA 0 rfl) lv2 y51)) rfl ?_
               refine oG rfl rfl rfl (gm (oT rfl)) (fun hg => by (have hg1 := hg.2; (try simp only [cq2] at hg1); exact pu_move (oT rfl))) rfl ?_
               refine oG rfl rfl rfl (gm (oT rfl)) (fun hg => by (have hg1 := hg.2; (try simp only [cq2] at hg1); exact pu_slice_hi (by exact gu (oT rfl) hg) (by exact gu (oT rfl) hg) Tryz.underlying22 y36 (by omega) (by omega))) rfl ?_
               refine oG rfl rfl rfl (gm (oT rfl)) (fun hg => by (have hg1 := hg.2; (try simp only [cq2] at hg1); exact pu_move (oT rfl))) rfl ?_
               refine op_gu_acts () rfl rfl rfl (gm (oT rfl)) (fun hg => by (have hg1 := hg.2; (try simp only [cq2] at hg1); exact aC (ContainsS_fn (v.2.2.1.take (i : Int).toNat) (at' v.2.2.1 (i : Int)) (by rw [List.length_take]; omega)) y45 (oc (by exact gu (oT rfl) hg) (oc (by exact gu (oT rfl) hg) oN)) pR)) rfl (fun _ _ => ?_)
               refine oG rfl rfl rfl (gm (oT rfl)) (fun hg => by (have hg1 := hg.2; (try simp only [cq2] at hg1); exact pu_not (by exact gu (oT rfl) hg))) rfl ?_
               refine oP (pu_pick_and (oT rfl) (oT rfl)) rfl (av rfl rfl (tn (bn (nn (te (ec 1 rfl (ec 3 rfl (ec 6 rfl (ec 95 rfl (ec 96 rfl (ec 97 rfl en)))))) (rg (oP (pad (oT rfl) ot (by omega)) rfl (mv rfl rfl (tn (nn ?_))))))))))
               exact tg (i + 1) (by simp only [decide_eq_true_eq] at c98; omega) (by simp only [decide_eq_true_eq] at c98; omega) (ea (ec 97 rfl (es_cons (t := 3) (OT.val (oT rfl) (congrArg Value.bool (by rw [Int.toNat_natCast]; exact out_step (by simp only [decide_eq_true_eq] at c98; omega)))) en)) (ec 1 rfl (ec 6 rfl (ec 95 rfl (ec 96 rfl en))))) (op (by repeat first | exact pn | refine pc 0 rfl ?_))
             · refine tr_exit (tx (tx (bh (bn (nn (sq (sq (te (ec 3 rfl en) (rg (mv rfl rfl (oP (pu_not (oT rfl)) rfl (tn (nn (tc (oT rfl) (fun c119 => ?_) (fun c119 => ?_)))))))))))))))
               · refine sq (te en (rg (ak rfl (tn (nn (tR (tt ?_)))))))
                 exact ret_one .ret (.inl rfl) rfl () (OT.val (oT rfl) (congrArg (Value.int _) (chk3 (b := true) c14 c34 c91 (by rw [show v.2.2.1.take i = v.2.2.1 from List.take_of_length_le (by simp only [decide_eq_false_iff_not] at c98; omega)] at c119; exact c119)))) trivial (by exact pn)
               · refine sk (nn (sq (te en (rg (ak rfl (tn (nn (tR ?_))))))))
                 exact ret_one .ret (.inl rfl) rfl () (OT.val (oT rfl) (congrArg (Value.int _) (chk3 (b := false) c14 c34 c91 (by rw [show v.2.2.1.take i = v.2.2.1 from List.take_of_length_le (by simp only [decide_eq_false_iff_not] at c98; omega)] at c119; exact c119)))) trivial (by exact pn)
   · refine te en (rg (ak rfl (tn (bn (nn (sq (sq (te (ec 3 rfl en) (rg (mv rfl rfl (oP (pu_not (oT rfl)) rfl (tn (nn (tc (oT rfl) (fun c119 => ?_) (fun c119 => ?_)))))))))))))))
     · refine sq (te en (rg (ak rfl (tn (nn (tR (tt ?_)))))))
       exact ret_one .ret (.inl rfl) rfl () (OT.val (oT rfl) (congrArg (Value.int _) (chk0 c14 c34))) trivial (by exact pn)
     · refine sk (nn (sq (te en (rg (ak rfl (tn (nn (tR ?_))))))))
       exact ret_one .ret (.inl rfl) rfl () (OT.val (oT rfl) (congrArg (Value.int _) (absurd c119 (by simp)))) trivial (by exact pn)
set_option maxRecDepth 20000 in
/-- rhizome/join.bad -/
theorem bad_fn (v : Vw) (ho : v.2.2.1.length ≤ maxLen) (ha : v.2.2.2.1.length ≤ maxLen) : Ct Tryz.prog 72 [kV.T v] ([]) Unit (fun _ => BoolT (!okV v)) (fun _ => []) (fun _ => True) := by
 refine fn_intro Tryz.func72 rfl rfl ?_
 intro H w
 refine sq (te (ec 0 rfl en) (rg (oA (acts_box (d := kV) (oT rfl)) pR rfl rfl (fun g0_0 _ => ?_))))
 refine ak rfl (tn (nn (sq (te (ec 1 rfl en) (rg (oP (pf (oT rfl) y48) rfl (oP (plb (oT rfl) (by exact mA 0 rfl) lv1 y2) rfl ?_)))))))
 refine oP (pu_neq (oT rfl) ot) rfl (mv rfl rfl (oG rfl rfl rfl (gm (oT rfl)) (fun hg => by (have hg1 := hg.2; (try simp only [cq2] at hg1); exact plv (oT rfl) (by exact mA 0 rfl) y53)) rfl ?_))
 refine op_gu_acts () rfl rfl rfl (gm (oT rfl)) (fun hg => by (have hg1 := hg.2; (try simp only [cq2] at hg1); exact aC (Check_fn _ (by assumption) (by assumption)) y55 (oc (by exact gu (oT rfl) hg) oN) pR)) rfl (fun _ _ => ?_)
 refine oG rfl rfl rfl (gm (oT rfl)) (fun hg => by (have hg1 := hg.2; (try simp only [cq2] at hg1); exact pu_neq (by exact gu (oT rfl) hg) ot)) rfl ?_
 refine oP (pu_pick_or (oT rfl) (oT rfl)) rfl (av rfl rfl (tn (nn (tR ?_))))
 exact ret_one .ret (.inl rfl) rfl () (OT.val (oT rfl) (congrArg Value.bool (bad_expr v))) trivial (by exact pn)
end Go.Proofs.YtaahhghlpoiihaaGreatDoor
/- Pairs and edges compared; the kinds of map keys. -/
namespace Go.Proofs.YtaahhghlpoiihaaGreatDoor
open Go Go.Gw Go.So Go.Tu Go.Jn Go.MapKept
set_option linter.unusedVariables false
set_option linter.unusedSimpArgs false
abbrev encP (p : Pr) : Value := .agg #[.int .i64 p.1, .int .i64 p.2]
abbrev encS (l : Lab) : Value := .string (bs l)
theorem aggP {H : FH} {u : Pr} {a : Value} (h : (kPP.T u).p H a) : a = encP u := by
 obtain ⟨cs, hK, rfl⟩ := kPP.ofT h
 have hl : cs.length = 2 := kPP.len hK
 obtain ⟨_, _, h2⟩ := hK
 have e0 := h2 0 u.1 rfl
 have e1 := h2 1 u.2 rfl
 match cs, hl with
 | [c0, c1], _ =>
  have f0 : [c0] = [Value.int .i64 u.1] := e0
  have f1 : [c1] = [Value.int .i64 u.2] := e1
  rw [show c0 = Value.int .i64 u.1 from by simpa using f0, show c1 = Value.int .i64 u.2 from by simpa using f1]; rfl
theorem run_equalPd (w : World) (d : Nat) (u v : Pr) : (Op.equalIn (d + 1 + 1) 105 (encP u) (encP v)).run Tryz.prog w = .ok (decide (u = v)) w := by
 have hu : Tryz.prog.underlying 105 = some (.array 2 3) := Tryz.underlying105
 have hk : Tryz.prog.plainKey 3 = true := by decide +kernel
 have h3 : Tryz.prog.underlying 3 = some (.int .i64) := Tryz.underlying3
 have hc : Tryz.prog.cellsOf 3 = 1 := by decide +kernel
 obtain ⟨i, hi⟩ : ∃ i, Tryz.prog.info? 3 = some i := Option.isSome_iff_exists.1 (by decide +kernel)
 rw [run_equalIn_array w (d + 1) _ _ hu hi, hc]
 have p : ∀ (xs : Array Value) (o : Nat) (q : Value), xs[o]? = some q → (part 3 xs o).run Tryz.prog w = .ok q w := fun xs o q h => run_part_plain w hk h
 have e : ∀ (a b : Int), (Op.equalIn (d + 1) 3 (.int .i64 a) (.int .i64 b)).run Tryz.prog w = .ok (a == b) w := fun a b => run_equalIn_int w d 3 .i64 .i64 a b h3
 have p0 : ∀ a b : Int, (part 3 #[.int .i64 a, .int .i64 b] 0).run Tryz.prog w = .ok (.int .i64 a) w := fun a b => p _ 0 _ rfl
 have p1 : ∀ a b : Int, (part 3 #[.int .i64 a, .int .i64 b] 1).run Tryz.prog w = .ok (.int .i64 b) w := fun a b => p _ 1 _ rfl
 obtain ⟨u1, u2⟩ := u
 obtain ⟨v1, v2⟩ := v
 simp only [show List.range 2 = [0, 1] from rfl, Op.eqItems, Sem.run_bind, Nat.mul_one, p0, p1, e, Result.andThen_ok]
 by_cases h1 : u1 = v1
 · by_cases h2 : u2 = v2
   · simp [h1, h2, p1, e]
   · simp [h1, h2, p1, e]
 · simp [h1]
theorem chkP (em : Bool) (k : Pr) (w : World) : (Instr.checkKey em 10000 105 (encP k)).run Tryz.prog w = .ok () w := by
 have hu : Tryz.prog.underlying 105 = some (.array 2 3) := Tryz.underlying105
 have h3 : Tryz.prog.underlying 3 = some (.int .i64) := Tryz.underlying3
 have hk : Tryz.prog.plainKey 3 = true := by decide +kernel
 have hc : Tryz.prog.cellsOf 3 = 1 := by decide +kernel
 obtain ⟨i, hi⟩ : ∃ i, Tryz.prog.info? 3 = some i := Option.isSome_iff_exists.1 (by decide +kernel)
 rw [show (10000 : Nat) = 9999 + 1 from rfl, Instr.checkKey]
 simp only [Sem.run_bind, run_underlying hu, Result.andThen_ok]
 simp only [Std.Legacy.Range.forIn_eq_forIn_range', Std.Legacy.Range.size, Nat.sub_zero, Nat.add_one_sub_one, Nat.div_one]
 have p0 : (part 3 #[.int .i64 k.1, .int .i64 k.2] 0).run Tryz.prog w = .ok (.int .i64 k.1) w := run_part_plain w hk rfl
 have p1 : (part 3 #[.int .i64 k.1, .int .i64 k.2] 1).run Tryz.prog w = .ok (.int .i64 k.2) w := run_part_plain w hk rfl
 have c : ∀ n : Int, (Instr.checkKey em 9999 3 (.int .i64 n)).run Tryz.prog w = .ok () w := fun n => run_checkKey h3 (by simp [IsKey]) em 9998
 rw [show List.range' 0 2 = [0, 1] from rfl]
 simp only [List.forIn_cons, List.forIn_nil, Sem.run_bind, run_sizeOf w hi, hc, Result.andThen_ok, Nat.zero_mul, Nat.one_mul, Nat.mul_one, p0, p1, c, Sem.run_pure]
theorem mkP : MKey Tryz.prog 105 kPP encP :=
 MKey.ofAsk (d := .array 2 3) Tryz.underlying105 aggP (fun a b => rfl) chkP (fun w a b => by
  rw [show Op.equal 105 (encP a) (encP b) = Op.equalIn 10000 105 (encP a) (encP b) from rfl]; exact run_equalPd w 9998 a b) (fun k => by simp [Instr.sameBits])
theorem mkI : MKey Tryz.prog 3 kI (Value.int .i64) := mkey_int Tryz.underlying3
theorem mkS : MKey Tryz.prog 9 kS encS :=
 MKey.ofNow Tryz.underlying9 (fun x => by simp [IsKey]) fun a b => by
  show some (bs a == bs b) = _
  congr 1
  rw [Bool.eq_iff_iff, bytes_beq, decide_eq_true_eq]
  exact ⟨fun h => by simpa using congrArg (fun x : ByteArray => x.data.toList) h, fun h => by rw [h]⟩
theorem ev_eq {H : FH} {t : Ed} {a : Value} (h : (kE.T t).p H a) : a = .agg #[.int .i64 t.1, .string (bs t.2.1), .int .i64 t.2.2] := by
 obtain ⟨cs, ⟨c1, c2, h1, ⟨c3, c4, h3, h4, rfl⟩, rfl⟩, rfl⟩ := h
 have e1 : c1 = [Value.int .i64 t.1] := h1
 have e3 : c3 = [Value.string (bs t.2.1)] := h3
 have e4 : c4 = [Value.int .i64 t.2.2] := h4
 subst e1 e3 e4
 rfl
abbrev tvE (t : Ed) : Array Value := #[.int .i64 t.1, .string (bs t.2.1), .int .i64 t.2.2]
theorem run_equalEd (w : World) (d : Nat) (u v : Ed) : (Op.equalIn (d + 1 + 1) 54 (.agg (tvE u)) (.agg (tvE v))).run Tryz.prog w = .ok (decide (u = v)) w := by
 have hf : Tryz.prog.underlying 54 = some (.struct (Tryz.prog.fieldsOf 54)) := by unfold Program.fieldsOf; rw [Tryz.underlying54]
 have hp : Tryz.prog.stoodInHeld 54 = false := by decide +kernel
 rw [run_equalIn_agg w (d + 1) 54 _ _ hf hp]
 clear hf
 simp only [Program.fieldsOf, Tryz.underlying54]
 have kS' : Tryz.prog.plainKey 9 = true := by decide +kernel
 have kI' : Tryz.prog.plainKey 3 = true := by decide +kernel
 have uS : Tryz.prog.underlying 9 = some .string := Tryz.underlying9
 have uI : Tryz.prog.underlying 3 = some (.int .i64) := Tryz.underlying3
 have p0 : ∀ t : Ed, (part 3 (tvE t) 0).run Tryz.prog w = .ok (.int .i64 t.1) w := fun t => run_part_plain w kI' rfl
 have p1 : ∀ t : Ed, (part 9 (tvE t) 1).run Tryz.prog w = .ok (.string (bs t.2.1)) w := fun t => run_part_plain w kS' rfl
 have p2 : ∀ t : Ed, (part 3 (tvE t) 2).run Tryz.prog w = .ok (.int .i64 t.2.2) w := fun t => run_part_plain w kI' rfl
 have e3 : ∀ (a b : Int), (Op.equalIn (d + 1) 3 (.int .i64 a) (.int .i64 b)).run Tryz.prog w = .ok (a == b) w := fun a b => run_equalIn_int w d 3 .i64 .i64 a b uI
 have e9 : ∀ (a b : List UInt8), (Op.equalIn (d + 1) 9 (.string (bs a)) (.string (bs b))).run Tryz.prog w = .ok (decide (a = b)) w := fun a b => by rw [run_equalIn_string w d 9 _ _ uS, beq_bs]
 obtain ⟨u0, u1, u2⟩ := u
 obtain ⟨v0, v1, v2⟩ := v
 simp only [Op.eqFields, show ("From" ≠ "_") from by decide, show ("Label" ≠ "_") from by decide, show ("To" ≠ "_") from by decide, if_true, ne_eq, not_false_eq_true, Sem.run_bind, p0, p1, p2, e3, e9, Result.andThen_ok]
 by_cases h0 : u0 = v0
 · by_cases h1 : u1 = v1
   · by_cases h2 : u2 = v2 <;> simp [h0, h1, h2, p1, p2, e3, e9, Op.eqFields]
   · simp [h0, h1, p1, e3, e9]
 · simp [h0]
theorem eqEd : EqOk Tryz.prog 54 kE := fun H w u v a b x y ha hb => by
 rw [ev_eq ha, ev_eq hb]
 have hg : Tryz.prog.eqGuardType Tryz.prog.depth 54 = false := by decide +kernel
 refine ⟨run_eqGuard_agg w .eql 54 x y _ _ hg, run_eqGuard_agg w .neq 54 x y _ _ hg, ?_, ?_⟩
 · rw [run_eql_struct w 54, show (Op.equalIn 10000 54 (.agg (tvE u)) (.agg (tvE v))).run Tryz.prog w = _ from run_equalEd w 9998 u v]; rfl
 · rw [run_neq_struct w 54, show (Op.equalIn 10000 54 (.agg (tvE u)) (.agg (tvE v))).run Tryz.prog w = _ from run_equalEd w 9998 u v]; rfl
abbrev kX : Kd (Value × Value × Value) := kpair kraw (kpair kraw kraw)
theorem lx0 {t : Value × Value × Value} : Lens kX kraw 0 t t.1 (fun y => (y, t.2)) := Lens.fst
theorem lx1 {t : Value × Value × Value} : Lens kX kraw 1 t t.2.1 (fun y => (t.1, y, t.2.2)) := Lens.comp (Lens.snd (a := kraw) (b := kpair kraw kraw)) (Lens.fst (a := kraw) (b := kraw))
theorem lx2 {t : Value × Value × Value} : Lens kX kraw 2 t t.2.2 (fun y => (t.1, t.2.1, y)) := Lens.comp (Lens.snd (a := kraw) (b := kpair kraw kraw)) (Lens.snd (a := kraw) (b := kraw))
theorem zX : ZeroOf Tryz.prog 158 kX (.map none, nilS, .map none) := ⟨.agg #[.map none, nilS, .map none], by kernel_rfl, fun H => ⟨[.map none, nilS, .map none], ⟨[_], [_, _], ⟨rfl, rfl⟩, ⟨[_], [_], ⟨rfl, rfl⟩, ⟨rfl, rfl⟩, rfl⟩, rfl⟩, rfl⟩⟩
abbrev Fr := Int × Value × List Int
structure Rec where
 g : Nat
 gf : Nat
 gh : Nat
 va : Value
 all : List Pr
 has : List (Pr × Int)
 frm : List Fr
def absR (r : Rec) : Ix := (r.frm.map (fun f => (f.1, f.2.2)), r.all, r.has)
def frI (f : Fr) : It := OwnI 3 kI f.2.1 f.2.2
def hdV (frm : List Fr) : List (Int × Value) := frm.map fun f => (f.1, f.2.1)
abbrev encI : Int → Value := Value.int .i64
def recI (r : Rec) : List It := BlkI r.g 158 kX (mp r.gf, r.va, mp r.gh) :: MapI r.gf encI IsV (hdV r.frm) :: MapI r.gh encP kI.T r.has :: OwnI 105 kPP r.va r.all :: r.frm.map frI
def recsI (m : List (Lab × Rec)) : List It := m.flatMap fun p => recI p.2
def ptrs (m : List (Lab × Rec)) : List (Lab × Value) := m.map fun p => (p.1, pt p.2.g 0)
def abss (m : List (Lab × Rec)) : List (Lab × Ix) := m.map fun p => (p.1, absR p.2)
def ptrOf (o : Option Rec) : Option Addr := o.map fun r => ⟨r.g, 0, none⟩
theorem ptr_lkp (lab : Lab) (m : List (Lab × Rec)) : (lkp lab (ptrs m)).getD (.pointer none) = .pointer (ptrOf (lkp lab m)) := by
 unfold ptrs
 rw [lkp_map (fun r : Rec => pt r.g 0)]
 cases lkp lab m <;> rfl
theorem abs_lkp (lab : Lab) (m : List (Lab × Rec)) : lkp lab (abss m) = (lkp lab m).map absR := lkp_map absR
theorem abs_ptk (lab : Lab) (r : Rec) (m : List (Lab × Rec)) : abss (ptk lab r m) = ptk lab (absR r) (abss m) := ptk_map absR
theorem ptrs_ptk (lab : Lab) (r : Rec) (m : List (Lab × Rec)) : ptrs (ptk lab r m) = ptk lab (pt r.g 0) (ptrs m) := ptk_map (fun r : Rec => pt r.g 0)
theorem ptk_same {κ α : Type} [DecidableEq κ] {k : κ} {x : α} : ∀ {m : List (κ × α)}, lkp k m = some x → ptk k x m = m
 | [], h => by cases h
 | (a, b) :: m, h => by
  unfold lkp at h
  unfold ptk
  by_cases e : a = k
  · rw [if_pos e] at h ⊢; cases h; rw [← e]
  · rw [if_neg e] at h ⊢; rw [ptk_same h]
theorem recs_perm {lab : Lab} {r : Rec} {m : List (Lab × Rec)} : (recsI (ptk lab r m)).Perm (recI r ++ recsI (dlk lab m)) := by
 have := (ptk_perm (k := lab) (x := r) (m := m)).flatMap_right (fun p : Lab × Rec => recI p.2)
 exact this
theorem frs_perm {n : Int} {x : Value × List Int} {m : List Fr} : ((ptk n x m).map frI).Perm (OwnI 3 kI x.1 x.2 :: (dlk n m).map frI) := (ptk_perm (k := n) (x := x) (m := m)).map frI
theorem hdV_ptk (n : Int) (x : Value × List Int) (m : List Fr) : hdV (ptk n x m) = ptk n x.1 (hdV m) := ptk_map (fun x : Value × List Int => x.1)
theorem frA_ptk (n : Int) (x : Value × List Int) (m : List Fr) : (ptk n x m).map (fun f => (f.1, f.2.2)) = ptk n x.2 (m.map fun f => (f.1, f.2.2)) := ptk_map (fun x : Value × List Int => x.2)
theorem hdV_lkp (n : Int) (m : List Fr) : (lkp n (hdV m)).getD nilS = ((lkp n m).getD (nilS, [])).1 := by
 unfold hdV
 rw [lkp_map (fun x : Value × List Int => x.1)]
 cases lkp n m <;> rfl
theorem frA_lkp (n : Int) (m : List Fr) : (lkp n (m.map fun f => (f.1, f.2.2))).getD [] = ((lkp n m).getD (nilS, [])).2 := by
 rw [lkp_map (fun x : Value × List Int => x.2)]
 cases lkp n m <;> rfl
section
variable {C : Cx} {Γ : Env} {L R : List It} {φ : Act → World → Prop}
theorem tr_pickF (n : Int) {m : List Fr} (hp : L.Perm (m.map frI ++ R)) (h : Tr C Γ (OwnI 3 kI ((lkp n (hdV m)).getD nilS) ((lkp n m).getD (nilS, [])).2 :: ((dlk n m).map frI ++ R)) φ) : Tr C Γ L φ := by
 refine tr_perm hp ?_
 rw [hdV_lkp] at h
 cases hl : lkp n m with
 | none =>
  rw [hl, dlk_none (lkp_none.1 hl)] at h
  exact tr_nilItem 3 kI h
 | some x =>
  rw [hl] at h
  have h1 : (m.map frI).Perm (OwnI 3 kI x.1 x.2 :: (dlk n m).map frI) := (lkp_perm hl).map frI
  exact tr_perm (h1.append_right R) h
end
abbrev kFrom : Kd (List (Int × List Int)) := kmap encI (ksl kI).T
abbrev kHas : Kd (List (Pr × Int)) := kmap encP kI.T
abbrev kIx : Kd Ix := kpair kFrom (kpair (ksl kPP) kHas)
theorem ly0 {t : Ix} : Lens kIx kFrom 0 t t.1 (fun y => (y, t.2)) := Lens.fst
theorem ly1 {t : Ix} : Lens kIx (ksl kPP) 1 t t.2.1 (fun y => (t.1, y, t.2.2)) := Lens.comp (Lens.snd (a := kFrom) (b := kpair (ksl kPP) kHas)) (Lens.fst (a := ksl kPP) (b := kHas))
theorem ly2 {t : Ix} : Lens kIx kHas 2 t t.2.2 (fun y => (t.1, t.2.1, y)) := Lens.comp (Lens.snd (a := kFrom) (b := kpair (ksl kPP) kHas)) (Lens.snd (a := ksl kPP) (b := kHas))
theorem recF (r : Rec) : Frz (recI r) fun H => (AtT kIx (absR r)).p H (pt r.g 0) := by
 have h1 : Frz (r.frm.map frI) fun H => ∀ f ∈ r.frm, (SlT kI f.2.2).p H f.2.1 := Frz.map_ (f := frI) (Q := fun f H => (SlT kI f.2.2).p H f.2.1) (fun f => Mono.ty) r.frm fun f => Frz.own
 have h2 := (Frz.blk (g := r.g) (t := 158) (d := kX) (x := (mp r.gf, r.va, mp r.gh))).cons Mono.ty
  ((Frz.mapI (g := r.gf) (enc := encI) (V := IsV) (m := hdV r.frm)).cons Mono.ty
   ((Frz.mapI (g := r.gh) (enc := encP) (V := kI.T) (m := r.has)).cons Mono.ty
    ((Frz.own (t := 105) (d := kPP) (v := r.va) (xs := r.all)).cons Mono.ty h1)))
 refine Frz.imp (J := recI r) h2 ?_
 rintro H ⟨q1, q2, q3, q4, q5⟩
 refine AtT.conv q1 ?_
 rintro cs ⟨c1, c2, k1, ⟨c3, c4, k3, k4, rfl⟩, rfl⟩
 have e1 : c1 = [mp r.gf] := k1.1
 have e3 : c3 = [r.va] := k3.1
 have e4 : c4 = [mp r.gh] := k4.1
 subst e1 e3 e4
 refine ⟨_, _, ⟨mp r.gf, rfl, ?_⟩, ⟨[r.va], [mp r.gh], ⟨r.va, rfl, q4⟩, ⟨mp r.gh, rfl, q3⟩, rfl⟩, rfl⟩
 show (MapT encI (ksl kI).T (r.frm.map fun f => (f.1, f.2.2))).p H (mp r.gf)
 rcases q2 with ⟨h, _⟩ | ⟨g, es, clock, h1, h2, h3⟩
 · cases h
 · refine .inr ⟨g, es, clock, h1, h2, ?_, fun i e p hi hp => ?_, ?_, h3.bn, h3.lt⟩
   · rw [h3.key]; unfold hdV; rw [List.map_map, List.map_map]; rfl
   · rw [List.getElem?_map] at hp
     cases hm : r.frm[i]? with
     | none => rw [hm] at hp; cases hp
     | some f =>
      rw [hm] at hp
      cases hp
      have h4 := h3.val i e (f.1, f.2.1) hi (by unfold hdV; rw [List.getElem?_map, hm]; rfl)
      rw [show e.val = f.2.1 from h4]
      exact q5 f (List.mem_of_getElem? hm)
   · have := h3.nd
     unfold hdV keys at this
     unfold keys
     rw [List.map_map] at this ⊢
     exact this
theorem recsF (g : Nat) (m : List (Lab × Rec)) : Frz (MapI g encS IsV (ptrs m) :: recsI m) fun H => (MapT encS (kpt kIx).T (m.map fun p => (p.1, some (absR p.2)))).p H (mp g) := by
 have h1 : Frz (recsI m) fun H => ∀ p ∈ m, (AtT kIx (absR p.2)).p H (pt p.2.g 0) := Frz.flat (f := fun p : Lab × Rec => recI p.2) (Q := fun p H => (AtT kIx (absR p.2)).p H (pt p.2.g 0)) (fun p => Mono.ty) m fun p _ => recF p.2
 refine ((Frz.mapI (g := g) (enc := encS) (V := IsV) (m := ptrs m)).cons Mono.ty h1).imp ?_
 rintro H ⟨q1, q2⟩
 rcases q1 with ⟨h, _⟩ | ⟨g', es, clock, h1, h2, h3⟩
 · cases h
 · refine .inr ⟨g', es, clock, h1, h2, ?_, fun i e p hi hp => ?_, ?_, h3.bn, h3.lt⟩
   · rw [h3.key]; unfold ptrs; rw [List.map_map, List.map_map]; rfl
   · rw [List.getElem?_map] at hp
     cases hm : m[i]? with
     | none => rw [hm] at hp; cases hp
     | some f =>
      rw [hm] at hp
      cases hp
      have h4 := h3.val i e (f.1, pt f.2.g 0) hi (by unfold ptrs; rw [List.getElem?_map, hm]; rfl)
      rw [show e.val = pt f.2.g 0 from h4]
      exact q2 f (List.mem_of_getElem? hm)
   · have := h3.nd
     unfold ptrs keys at this
     unfold keys
     rw [List.map_map] at this ⊢
     exact this
end Go.Proofs.YtaahhghlpoiihaaGreatDoor
/- Steps of byLabel's walk over the index's items. -/
namespace Go.Gw
open Go
theorem picks_all {L : List It} : Picks L L := ⟨[], by simp⟩
theorem picks_drop {L M : List It} {x : It} (h : Picks L M) : Picks (x :: L) M := let ⟨R, hR⟩ := h; ⟨x :: R, (hR.cons x).trans List.perm_middle.symm⟩
theorem picks_trans {L M N : List It} (h : Picks L M) (h' : Picks M N) : Picks L N := by
 obtain ⟨R, hR⟩ := h
 obtain ⟨S, hS⟩ := h'
 exact ⟨S ++ R, hR.trans ((hS.append_right R).trans (by rw [List.append_assoc]))⟩
theorem picks_perm {L M : List It} (h : L.Perm M) : Picks L M := ⟨[], by simpa using h⟩
end Go.Gw
namespace Go.Proofs.YtaahhghlpoiihaaGreatDoor
open Go Go.Gw Go.So Go.Tu Go.Jn Go.MapKept
set_option linter.unusedVariables false
set_option linter.unusedSimpArgs false
section
variable {C : Cx} {Γ : Env} {X Y : List It} {φ : Act → World → Prop}
theorem tr_pickF2 (n : Int) {m : List Fr} (h : Tr C Γ (OwnI 3 kI ((lkp n (hdV m)).getD nilS) ((lkp n m).getD (nilS, [])).2 :: (Y ++ ((dlk n m).map frI ++ X))) φ) : Tr C Γ (Y ++ (m.map frI ++ X)) φ := by
 have hp : (Y ++ (m.map frI ++ X)).Perm (m.map frI ++ (Y ++ X)) := by
  rw [← List.append_assoc, ← List.append_assoc]
  exact List.Perm.append_right X List.perm_append_comm
 refine tr_pickF n hp (tr_perm ?_ h)
 refine List.Perm.cons _ ?_
 rw [← List.append_assoc, ← List.append_assoc]
 exact List.Perm.append_right X List.perm_append_comm
theorem tr_pickR2 (lab : Lab) {r : Rec} {m : List (Lab × Rec)} (hl : lkp lab m = some r) (h : Tr C Γ (Y ++ (recI r ++ recsI (dlk lab m))) φ) : Tr C Γ (Y ++ recsI m) φ :=
 tr_perm (List.Perm.append_left Y ((lkp_perm hl).flatMap_right (fun p : Lab × Rec => recI p.2))) h
end
theorem recs_back {g : Nat} {lab : Lab} {r : Rec} {recs : List (Lab × Rec)} : Picks (MapI g encS IsV (ptrs (ptk lab r recs)) :: (recI r ++ recsI (dlk lab recs))) (MapI g encS IsV (ptrs (ptk lab r recs)) :: recsI (ptk lab r recs)) := picks_perm (recs_perm.symm.cons _)
theorem frs_back {n : Int} {x : Value × List Int} {m : List Fr} {X : List It} : Picks (OwnI 3 kI x.1 x.2 :: ((dlk n m).map frI ++ X)) ((ptk n x m).map frI ++ X) := picks_perm ((frs_perm.symm.append_right X))
theorem step_yes {r : Rec} {p : Pr} {v w : Value} (hc : (lkp p r.has).getD 0 + 1 = 1) : absR { r with has := ptk p ((lkp p r.has).getD 0 + 1) r.has, all := r.all ++ [p], va := v, frm := ptk p.1 (w, ((lkp p.1 r.frm).getD (nilS, [])).2 ++ [p.2]) r.frm } = stepI (absR r) p := by
 unfold stepI absR
 simp only [if_pos hc, frA_ptk, frA_lkp]
theorem step_no {r : Rec} {p : Pr} (hc : ¬ (lkp p r.has).getD 0 + 1 = 1) : absR { r with has := ptk p ((lkp p r.has).getD 0 + 1) r.has } = stepI (absR r) p := by
 unfold stepI absR
 simp only [if_neg hc]
theorem lab_step {l : List Ed} {k : Nat} {e : Ed} {recs : List (Lab × Rec)} {r r' : Rec} (h : k < l.length) (he : at' l (k : Int) = e) (hr : abss recs = byLab (l.take k)) (hc : absR r = (lkp e.2.1 (byLab (l.take k))).getD ([], [], [])) (hs : absR r' = stepI (absR r) (e.1, e.2.2)) : abss (ptk e.2.1 r' recs) = byLab (l.take (k + 1)) := by
 rw [abs_ptk, hs, hr, hc]
 rw [at'_nat h] at he
 rw [List.take_succ_eq_append_getElem h, he]
 unfold byLab
 rw [List.foldl_append]; rfl
theorem cur_bound {l : List Ed} {k : Nat} {lab : Lab} {r : Rec} (h : k ≤ l.length) (hc : absR r = (lkp lab (byLab (l.take k))).getD ([], [], [])) (p : Pr) : 0 ≤ (lkp p r.has).getD 0 ∧ (lkp p r.has).getD 0 ≤ l.length ∧ r.all.length ≤ l.length ∧ ((lkp p.1 r.frm).getD (nilS, [])).2.length ≤ l.length := by
 obtain ⟨hx, _⟩ := byLab_ok (l.take k) lab
 rw [← hc] at hx
 have h1 := prs_len (l.take k) lab
 rw [List.length_take] at h1
 have h2 := hx.h0 p
 have h3 := hx.hl p
 have h4 := hx.al
 have h5 := hx.fl p.1
 have e5 : (lkp p.1 (absR r).1).getD [] = ((lkp p.1 r.frm).getD (nilS, [])).2 := frA_lkp p.1 r.frm
 rw [e5] at h5
 have e4 : (absR r).2.1 = r.all := rfl
 rw [e4] at h4
 have e3 : (absR r).2.2 = r.has := rfl
 rw [e3] at h2 h3
 refine ⟨h2, ?_, ?_, ?_⟩ <;> omega
def optM (m : List (Lab × Ix)) : List (Lab × Option Ix) := m.map fun p => (p.1, some p.2)
theorem optM_abs (m : List (Lab × Rec)) : (m.map fun p => (p.1, some (absR p.2))) = optM (abss m) := by unfold optM abss; rw [List.map_map]; rfl
end Go.Proofs.YtaahhghlpoiihaaGreatDoor
namespace Go.Proofs.YtaahhghlpoiihaaGreatDoor
open Go Go.Gw Go.So Go.Tu Go.Jn Go.MapKept
set_option linter.unusedVariables false
set_option linter.unusedSimpArgs false
section
variable {g : Nat} {lab : Lab} {r : Rec} {recs : List (Lab × Rec)} {T1 T2 : It}
theorem own_yes {n : Int} {w va : Value} {xs : List Int} {all : List Pr} {has : List (Pr × Int)} :
 Picks (MapI r.gf encI IsV (ptk n w (hdV r.frm)) :: OwnI 3 kI w xs :: BlkI r.g 158 kX (mp r.gf, va, mp r.gh) :: OwnI 105 kPP va all :: MapI r.gh encP kI.T has :: T1 :: MapI g encS IsV (ptrs (ptk lab r recs)) :: T2 :: ((dlk n r.frm).map frI ++ recsI (dlk lab recs)))
  (MapI g encS IsV (ptrs (ptk lab { r with has := has, all := all, va := va, frm := ptk n (w, xs) r.frm } recs)) :: recsI (ptk lab { r with has := has, all := all, va := va, frm := ptk n (w, xs) r.frm } recs)) := by
 refine picks_trans ?_ recs_back
 rw [ptrs_ptk, ptrs_ptk]
 unfold recI
 rw [hdV_ptk]
 refine picks_cons 6 rfl (picks_cons 2 rfl (picks_cons 0 rfl (picks_cons 2 rfl (picks_cons 1 rfl ?_))))
 show Picks (OwnI 3 kI w xs :: T1 :: T2 :: ((dlk n r.frm).map frI ++ recsI (dlk lab recs))) ((ptk n (w, xs) r.frm).map frI ++ recsI (dlk lab recs))
 refine picks_trans ?_ frs_back
 exact picks_cons 0 rfl (picks_drop (picks_drop picks_all))
theorem own_no {has : List (Pr × Int)} :
 Picks (MapI r.gh encP kI.T has :: T1 :: MapI g encS IsV (ptrs (ptk lab r recs)) :: T2 :: BlkI r.g 158 kX (mp r.gf, r.va, mp r.gh) :: MapI r.gf encI IsV (hdV r.frm) :: OwnI 105 kPP r.va r.all :: (r.frm.map frI ++ recsI (dlk lab recs)))
  (MapI g encS IsV (ptrs (ptk lab { r with has := has } recs)) :: recsI (ptk lab { r with has := has } recs)) := by
 refine picks_trans ?_ recs_back
 rw [ptrs_ptk, ptrs_ptk]
 unfold recI
 exact picks_cons 2 rfl (picks_cons 3 rfl (picks_cons 3 rfl (picks_cons 0 rfl (picks_cons 2 rfl (picks_drop (picks_drop picks_all))))))
theorem own_new {gx gf gh : Nat} (hn : lkp lab recs = none) :
 Picks (MapI g encS IsV (ptk lab (pt gx 0) (ptrs recs)) :: OwnI 105 kPP nilS [] :: BlkI gx 158 kX (mp gf, nilS, mp gh) :: MapI gh encP kI.T [] :: MapI gf encI IsV [] :: T1 :: recsI recs)
  (MapI g encS IsV (ptrs (ptk lab ⟨gx, gf, gh, nilS, [], [], []⟩ recs)) :: T1 :: (recI ⟨gx, gf, gh, nilS, [], [], []⟩ ++ recsI (dlk lab recs))) := by
 rw [ptrs_ptk, dlk_none (lkp_none.1 hn)]
 exact picks_cons 0 rfl (picks_cons 4 rfl (picks_cons 1 rfl (picks_cons 2 rfl (picks_cons 1 rfl (picks_cons 0 rfl picks_all)))))
theorem own_old (hr : lkp lab recs = some r) :
 Picks (T1 :: MapI g encS IsV (ptrs recs) :: (recI r ++ recsI (dlk lab recs))) (MapI g encS IsV (ptrs (ptk lab r recs)) :: T1 :: (recI r ++ recsI (dlk lab recs))) := by
 rw [ptk_same hr]
 exact picks_cons 1 rfl (picks_cons 0 rfl picks_all)
end
end Go.Proofs.YtaahhghlpoiihaaGreatDoor
/- Rows with an atom more, counted as they come. Plain Lean. -/
namespace Go.Jn
open Go Go.Gw Go.Tu
set_option linter.unusedVariables false
set_option linter.unusedSimpArgs false
section
variable {x : Ix} {r : Tp} {f t : Nat} {nx : List Tp}
abbrev goodN (nx : List Tp) (o : Option Ix) (r : Tp) (f t : Nat) : Bool := decide (nx.length + (ext o r f t).length ≤ 3000)
theorem ext_A (h1 : f < r.length) (h2 : t < r.length) : ext (some x) r f t = if (lkp (r.getD f 0, r.getD t 0) x.2.2).getD 0 = 0 then [] else [r] := by rw [ext_some, if_pos ⟨h1, h2⟩]
theorem ext_B (h1 : f < r.length) (h2 : ¬ t < r.length) : ext (some x) r f t = ((lkp (r.getD f 0) x.1).getD []).map (fun b => r ++ [b]) := by rw [ext_some, if_neg (fun e => h2 e.2), if_pos h1]
theorem ext_C (h1 : ¬ f < r.length) : ext (some x) r f t = x.2.1.filterMap (extC r t) := by rw [ext_some, if_neg (fun e => h1 e.1), if_neg h1]
theorem A_yes {b : Bool} (h1 : f < r.length) (h2 : t < r.length) (hc : decide ((lkp (r.getD f 0, r.getD t 0) x.2.2).getD 0 = 0) = false) (hb : b = decide (((nx ++ [r]).length : Int) ≤ 3000)) : (decide ((lkp (r.getD f 0, r.getD t 0) x.2.2).getD 0 = 0) || b) = goodN nx (some x) r f t := by
 unfold goodN
 rw [ext_A h1 h2, if_neg (by simpa using hc), hc, hb, Bool.false_or, Bool.eq_iff_iff]
 simp only [decide_eq_true_eq, List.length_append, List.length_singleton]; omega
theorem A_no {b : Bool} (h1 : f < r.length) (h2 : t < r.length) (hn : nx.length ≤ 3000) (hc : decide ((lkp (r.getD f 0, r.getD t 0) x.2.2).getD 0 = 0) = true) : (decide ((lkp (r.getD f 0, r.getD t 0) x.2.2).getD 0 = 0) || b) = goodN nx (some x) r f t := by
 unfold goodN
 rw [ext_A h1 h2, if_pos (by simpa using hc), hc, Bool.true_or]
 symm; simpa using hn
theorem map_snoc {α β : Type} [Inhabited α] {l : List α} (f : α → β) {k : Nat} (h : k < l.length) : (l.take (k + 1)).map f = (l.take k).map f ++ [f (at' l (k : Int))] := by
 rw [at'_nat h, List.take_succ_eq_append_getElem h, List.map_append]; rfl
theorem fmap_snoc {α β : Type} [Inhabited α] {l : List α} (f : α → Option β) {k : Nat} (h : k < l.length) : (l.take (k + 1)).filterMap f = (l.take k).filterMap f ++ (f (at' l (k : Int))).toList := by
 rw [at'_nat h, List.take_succ_eq_append_getElem h, List.filterMap_append]
 congr 1
theorem B_false {i : Nat} {bl : List Int} (he : (lkp (r.getD f 0) x.1).getD [] = bl) (h1 : f < r.length) (h2 : ¬ t < r.length) (hi : i < bl.length) {s : List Tp} (hs : s.length = nx.length + i + 1) (hc : ¬ ((s.length : Int) ≤ 3000)) : false = goodN nx (some x) r f t := by
 unfold goodN
 rw [ext_B h1 h2, he, List.length_map]
 symm; simp only [decide_eq_false_iff_not]; omega
theorem B_true {bl : List Int} (he : (lkp (r.getD f 0) x.1).getD [] = bl) (h1 : f < r.length) (h2 : ¬ t < r.length) (hn : nx.length + bl.length ≤ 3000) : true = goodN nx (some x) r f t := by
 unfold goodN
 rw [ext_B h1 h2, he, List.length_map]
 symm; simpa using hn
theorem fmap_le {α β : Type} (f : α → Option β) (l : List α) (k : Nat) : ((l.take k).filterMap f).length ≤ (l.filterMap f).length := by
 have h := List.take_append_drop k l
 have h2 : (l.filterMap f).length = ((l.take k).filterMap f).length + ((l.drop k).filterMap f).length := by
  conv => lhs; rw [← h]
  rw [List.filterMap_append, List.length_append]
 omega
theorem C_false {i : Nat} (h1 : ¬ f < r.length) {s : List Tp} (hs : s = nx ++ (x.2.1.take (i + 1)).filterMap (extC r t)) (hc : ¬ ((s.length : Int) ≤ 3000)) : false = goodN nx (some x) r f t := by
 unfold goodN
 rw [ext_C h1]
 have := fmap_le (extC r t) x.2.1 (i + 1)
 rw [hs, List.length_append] at hc
 symm; simp only [decide_eq_false_iff_not]; omega
theorem C_true (h1 : ¬ f < r.length) (hn : (nx ++ x.2.1.filterMap (extC r t)).length ≤ 3000) : true = goodN nx (some x) r f t := by
 unfold goodN
 rw [ext_C h1, ← List.length_append]
 symm; simpa using hn
end
end Go.Jn
/- Walks through the Go functions join.byLabel, as typed contracts. -/
namespace Go.Proofs.YtaahhghlpoiihaaGreatDoor
open Go Go.Gw Go.So Go.Tu Go.Jn
set_option linter.unusedVariables false
set_option linter.unusedSimpArgs false

set_option maxRecDepth 20000 in
/-- rhizome/join.byLabel -/
theorem byLabel_fn (l : List Ed) (hm : l.length ≤ 1000000) : Ct Tryz.prog 73 [SlT kE l] ([]) Unit (fun _ => MapT encS (kpt kIx).T (optM (byLab l))) (fun _ => []) (fun _ => True) := by
 refine fn_intro Tryz.func73 rfl rfl ?_
 intro H w
 refine sq (te (ec 0 rfl en) (rg (ak rfl (tn (nn (sq (te (ec 0 rfl en) (rg (oA (acts_makeMap encS IsV) pR rfl rfl (fun g1_0 _ => ?_))))))))))
 refine av rfl rfl (tn (nn (sq (sq (te (ec 0 rfl (ec 3 rfl en)) (rg (mv rfl rfl (oP (pls (oT rfl) Tryz.underlying26) rfl (oP (pu_move ot) rfl (tn (nn (tb (tr_loopK (σ := Nat × List (Lab × Rec)) (ec 3 rfl (ec 9 rfl (ec 10 rfl en))) (fun s => [(11, I64 (s.1 : Int))]) (fun s => (MapI g1_0 encS IsV (ptrs s.2) :: recsI s.2)) (fun s => s.1 ≤ l.length ∧ abss s.2 = byLab (l.take s.1)) (fun s => l.length - s.1) (0, []) ⟨Nat.zero_le _, rfl⟩ ?_ (op pl) ?_)))))))))))))
 · exact (ec 11 rfl en)
 · rintro ⟨k, recs⟩ ⟨hk, habs⟩
   dsimp only at hk habs ⊢
   refine sq (te (ec 3 rfl (ec 9 rfl (ec 10 rfl (ec 11 rfl en)))) (rg (oP (pu_lss (oT rfl) (oT rfl)) rfl (tn (nn (sq (tc (oT rfl) (fun c12 => ?_) (fun c12 => ?_))))))))
   · refine sk (nn (sq (tb (sq (te (ec 3 rfl (ec 9 rfl (ec 10 rfl (ec 11 rfl en)))) ?_)))))
     have hkl : k < l.length := by simpa using c12
     obtain ⟨e, he⟩ : ∃ e, at' l (k : Int) = e := ⟨_, rfl⟩
     refine rg (oP (pu_index (oT rfl) (oT rfl) Tryz.underlying26 y56 (by omega) (by omega)) rfl (oP (pL (oT rfl) y56) rfl (oA (acts_alloc (zE)) pR rfl rfl (fun g4_2 _ => ?_))))
     refine oA (asv (oT rfl) (oT rfl) (by exact pA 0 rfl) y56) (by exact pA 0 rfl) rfl rfl (fun _ _ => ?_)
     refine tn (nn (sq (te (ec 3 rfl (ec 5 rfl (ec 9 rfl (ec 10 rfl (ec 11 rfl en))))) ?_)))
     rw [he]
     refine rg (mv rfl rfl (oP (pf (oT rfl) y57) rfl (oP (plb (oT rfl) (by exact mA 0 rfl) le1 y36) rfl ?_)))
     refine oP (pu_lookup_raw mkS Tryz.underlying137 (z0 := (.pointer none)) (by kernel_rfl) (oT rfl) (by exact mA 1 rfl) (oT rfl)) rfl ?_
     refine av rfl rfl (tn (nn (tr_joinK (σ := Rec) (ec 3 rfl (ec 5 rfl (ec 9 rfl (ec 10 rfl (ec 11 rfl en))))) (fun cur => [(6, IsV (pt cur.g 0))]) (fun cur => MapI g1_0 encS IsV (ptrs (ptk e.2.1 cur recs)) :: BlkI g4_2 54 kE e :: BlkI cur.g 158 kX (mp cur.gf, cur.va, mp cur.gh) :: MapI cur.gf encI IsV (hdV cur.frm) :: MapI cur.gh encP kI.T cur.has :: OwnI 105 kPP cur.va cur.all :: (cur.frm.map frI ++ recsI (dlk e.2.1 recs))) (fun cur => absR cur = (lkp e.2.1 (byLab (l.take k))).getD ([], [], [])) ?_ ?_)))
     · refine sq (te (ec 3 rfl (ec 5 rfl (ec 6 rfl (ec 9 rfl (ec 10 rfl (ec 11 rfl en)))))) ?_)
       rw [ptr_lkp]
       refine rg (mv rfl rfl (oP (pu_ptr_eql ptr_is (oT rfl) Tryz.underlying141) rfl (tn (nn (tc (oT rfl) (fun c20 => ?_) (fun c20 => ?_))))))
       · have hnone : lkp e.2.1 recs = none := by
          cases hx : lkp e.2.1 recs with
          | none => rfl
          | some r => rw [hx] at c20; cases c20
         refine sq (te (ec 3 rfl (ec 5 rfl (ec 9 rfl (ec 10 rfl (ec 11 rfl en))))) (rg (oA (acts_makeMap encI IsV) pR rfl rfl (fun g7_0 _ => ?_))))
         refine oA (acts_makeMap encP kI.T) pR rfl rfl (fun g7_1 _ => ?_)
         refine oP (pu_build (d := kX) (v0 := (.map none, nilS, .map none)) (ps := [(0, 1), (1, 1), (2, 1)]) zX (by kernel_rfl) rfl (fills_cons rfl lx0 (by exact OT.raw (oT rfl) rfl) (fills_cons rfl lx2 (by exact OT.raw (oT rfl) rfl) fills_nil))) rfl ?_
         refine oA (acts_box (d := kX) (oT rfl)) pR rfl rfl (fun g7_3 _ => ?_)
         refine av rfl rfl (tn (nn (te (ec 3 rfl (ec 5 rfl (ec 6 rfl (ec 9 rfl (ec 10 rfl (ec 11 rfl en)))))) (tr_nilItem 105 kPP (rg (mv rfl rfl (oP (pf (oT rfl) y57) rfl (oP (plb (oT rfl) (by exact mA 4 rfl) le1 y36) rfl ?_))))))))
         refine mv rfl rfl (oA (acts_update mkS Tryz.underlying137 (oT rfl) (by exact pA 5 rfl) (oT rfl) (oT rfl)) (by exact pA 5 rfl) rfl rfl (fun _ _ => ?_))
         refine tn (nn ?_)
         exact tr_joined ({ g := g7_3, gf := g7_0, gh := g7_1, va := nilS, all := [], has := [], frm := [] }) (by rw [← habs, abs_lkp, hnone]; rfl) (ea (ec 6 rfl en) (ec 3 rfl (ec 5 rfl (ec 9 rfl (ec 10 rfl (ec 11 rfl en)))))) (op (own_new hnone))
       · obtain ⟨r, hr⟩ : ∃ r, lkp e.2.1 recs = some r := by
          cases hx : lkp e.2.1 recs with
          | none => rw [hx] at c20; cases c20
          | some r => exact ⟨r, rfl⟩
         refine tr_pickR2 (Y := [_, _]) e.2.1 hr ?_
         rw [hr]
         refine sk (nn ?_)
         exact tr_joined r (by rw [← habs, abs_lkp, hr]; rfl) (ea (ec 6 rfl en) (ec 3 rfl (ec 5 rfl (ec 9 rfl (ec 10 rfl (ec 11 rfl en)))))) (op (own_old hr))
     · rintro cur hcur
       refine sq (te (ec 3 rfl (ec 5 rfl (ec 6 rfl (ec 9 rfl (ec 10 rfl (ec 11 rfl en)))))) ?_)
       obtain ⟨hb1, hb2, hb3, hb4⟩ := cur_bound (l := l) (by omega) hcur (e.1, e.2.2)
       refine rg (oP (pf (oT rfl) y58) rfl (oP (plb (oT rfl) (by exact mA 1 rfl) le0 y2) rfl ?_))
       refine oP (pf (oT rfl) y59) rfl (oP (plb (oT rfl) (by exact mA 1 rfl) le2 y2) rfl ?_)
       refine oP (pu_build_arr (d := kPP) (v0 := (0, 0)) (agg := false) Tryz.underlying105 y2 zP rfl (fills_cons rfl Lens.p0 (oT rfl) (fills_cons rfl Lens.p1 (oT rfl) fills_nil))) rfl (oA (acts_alloc (zP)) pR rfl rfl (fun g9_5 _ => ?_))
       refine oA (asv (oT rfl) (oT rfl) (by exact pA 0 rfl) y60) (by exact pA 0 rfl) rfl rfl (fun _ _ => ?_)
       refine tn (nn (sq (te (ec 3 rfl (ec 5 rfl (ec 6 rfl (ec 7 rfl (ec 9 rfl (ec 10 rfl (ec 11 rfl en))))))) (tr_perm (perm_at 5 rfl) (tr_perm (perm_at 1 rfl) ?_)))))
       apply tr_anyG (ρ := Nat) (φ := fun rr => True) (p := 7) (Lf := fun c rr => cond c (MapE cur.gh encP kI.T (ptk (e.1, e.2.2) ((lkp (e.1, e.2.2) cur.has).getD 0) cur.has) (e.1, e.2.2) rr :: BlkI g9_5 105 kPP (e.1, e.2.2) :: MapI g1_0 encS IsV (ptrs (ptk e.2.1 cur recs)) :: BlkI g4_2 54 kE e :: BlkI cur.g 158 kX (mp cur.gf, cur.va, mp cur.gh) :: MapI cur.gf encI IsV (hdV cur.frm) :: OwnI 105 kPP cur.va cur.all :: (cur.frm.map frI ++ recsI (dlk e.2.1 recs))) (BlkI g9_5 105 kPP (e.1, e.2.2) :: MapI cur.gh encP kI.T cur.has :: MapI g1_0 encS IsV (ptrs (ptk e.2.1 cur recs)) :: BlkI g4_2 54 kE e :: BlkI cur.g 158 kX (mp cur.gf, cur.va, mp cur.gh) :: MapI cur.gf encI IsV (hdV cur.frm) :: OwnI 105 kPP cur.va cur.all :: (cur.frm.map frI ++ recsI (dlk e.2.1 recs)))) 0 (by kernel_rfl) (m := 9) (ns := [[(6, none)], [(34, some 0)], [(35, some 1)], [(36, some 2)], [(7, none)], [(37, some 3), (38, some 4)], [(39, some 5)], [(37, some 3), (38, some 4)], [(41, some 7)]]) (by kernel_rfl) (by kernel_rfl) (Ts := fun rr => [_, _, _, _, _, _, _, TupT [kI.T ((lkp (e.1, e.2.2) cur.has).getD 0), I64 (rr : Int)], I64 (rr : Int)]) (fun _ => rfl)
       case hops =>
        refine ⟨?_, ?_, ?_, ?_, ?_, ?_, ?_, ?_, ?_, trivial⟩
        · exact ⟨cBf (by kernel_rfl) fun r _ => rgo r rfl ⟨rfl, trivial⟩ (rmv rfl), fun _ _ _ _ => rfl⟩
        · exact ⟨cBf (by kernel_rfl) fun r _ => rgo r rfl ⟨rfl, trivial⟩ (rP (pu_nilCheck (oT rfl))), fun _ _ _ _ => rfl⟩
        · exact ⟨cBf (by kernel_rfl) fun r _ => rgo r rfl ⟨rfl, trivial⟩ (rP (pf (oT rfl) y61)), fun _ _ _ _ => rfl⟩
        · exact ⟨cBf (by kernel_rfl) fun r _ => rgo r rfl ⟨rfl, trivial⟩ (rP (pu_load_rawf (oT rfl) (by exact mA 4 rfl) lx2 y62)), fun _ _ _ _ => rfl⟩
        · exact ⟨cBf (by kernel_rfl) fun r _ => rgo r rfl ⟨rfl, trivial⟩ (rP (plv (oT rfl) (by exact mA 0 rfl) y60)), fun _ _ _ _ => rfl⟩
        · exact ⟨cB (fun r hc => rgo r rfl ⟨rfl, trivial⟩ (rP (pu_lookup_own mkP Tryz.underlying156 zI (oT rfl) (by exact mA 1 rfl) (oT rfl)))) fun r hc => rgo r rfl ⟨rfl, trivial⟩ (rP (pu_lookup_entry mkP Tryz.underlying156 zI (oT rfl) (by exact mA 0 rfl) (oT rfl))), fun _ _ _ _ => rfl⟩
        · exact ⟨by intro c r hc; cases c <;> exact rgo r rfl ⟨rfl, trivial⟩ (rP (pad (oT rfl) ot (by omega))), fun _ _ _ _ => rfl⟩
        · refine ⟨?_, ?_⟩
          · exact cBf (by kernel_rfl) fun r _ => ropg_acts rfl (acts_entry mkP Tryz.underlying156 zI (oT rfl) (by exact pA 1 rfl) (oT rfl)) (by exact pA 1 rfl) (fun r => pR) (fun _ _ _ => trivial) (fun _ _ _ _ h => h)
          · exact fun _ h => absurd h (by decide)
        · refine ⟨?_, ?_⟩
          · exact cBt (by kernel_rfl) fun r _ => rgo r rfl ⟨rfl, trivial⟩ (rP (pu_extract (oT rfl) rfl))
          · exact fun h => Bool.noConfusion (h.symm.trans (by kernel_rfl : okFlag _ _ _ _ = false))
       case h =>
        intro s10_7 _
        refine oA (acts_entryStore (oT rfl) (by exact pA 0 rfl) (oT rfl) (oT rfl)) (by exact pA 0 rfl) rfl rfl (fun _ _ => ?_)
        refine tn ?_
        rw [ptk_put]
        refine nn (sq (te (ec 3 rfl (ec 5 rfl (ec 6 rfl (ec 7 rfl (ec 9 rfl (ec 10 rfl (ec 11 rfl en))))))) ?_))
        apply tr_any (m := 5) (ns := [[(6, none)], [(43, some 0)], [(44, some 1)], [(45, some 2)], [(7, none)]]) (by kernel_rfl) (by kernel_rfl) (Ts := [_, _, _, _, _]) rfl
        case hops =>
         refine ⟨?_, ?_, ?_, ?_, ?_, trivial⟩
         · exact rmv rfl
         · exact rP (pu_nilCheck (oT rfl))
         · exact rP (pf (oT rfl) y61)
         · exact rP (pu_load_rawf (oT rfl) (by exact mA 4 rfl) lx2 y62)
         · exact rP (plv (oT rfl) (by exact mA 1 rfl) y60)
        case h =>
         refine oP (pu_lookup_own mkP Tryz.underlying156 zI (oT rfl) (by exact mA 0 rfl) (oT rfl)) rfl ?_
         refine oP (pu_eql (oT rfl) ot) rfl (tn (nn (tc (oT rfl) (fun c49 => ?_) (fun c49 => ?_))))
         · have hc : ((lkp (e.1, e.2.2) cur.has).getD 0 + 1) = 1 := by rw [lkp_put, if_pos rfl] at c49; simpa using c49
           refine sq (te (ec 3 rfl (ec 5 rfl (ec 6 rfl (ec 7 rfl (ec 9 rfl (ec 10 rfl (ec 11 rfl en))))))) ?_)
           apply tr_anyG (ρ := Value) (φ := fun rr => True) (p := 7) (Lf := fun c rr => cond c (OwnI 105 kPP rr (cur.all ++ [(e.1, e.2.2)]) :: MapI cur.gh encP kI.T (ptk (e.1, e.2.2) ((lkp (e.1, e.2.2) cur.has).getD 0 + 1) cur.has) :: BlkI g9_5 105 kPP (e.1, e.2.2) :: MapI g1_0 encS IsV (ptrs (ptk e.2.1 cur recs)) :: BlkI g4_2 54 kE e :: BlkI cur.g 158 kX (mp cur.gf, cur.va, mp cur.gh) :: MapI cur.gf encI IsV (hdV cur.frm) ::  (cur.frm.map frI ++ recsI (dlk e.2.1 recs))) (MapI cur.gh encP kI.T (ptk (e.1, e.2.2) ((lkp (e.1, e.2.2) cur.has).getD 0 + 1) cur.has) :: BlkI g9_5 105 kPP (e.1, e.2.2) :: MapI g1_0 encS IsV (ptrs (ptk e.2.1 cur recs)) :: BlkI g4_2 54 kE e :: BlkI cur.g 158 kX (mp cur.gf, cur.va, mp cur.gh) :: MapI cur.gf encI IsV (hdV cur.frm) :: OwnI 105 kPP cur.va cur.all :: (cur.frm.map frI ++ recsI (dlk e.2.1 recs)))) nilS (by kernel_rfl) (m := 8) (ns := [[(6, none)], [(6, none)], [(51, some 1)], [(52, some 2)], [(53, some 3)], [(7, none)], [(55, some 5)], [(54, some 4), (56, some 6)]]) (by kernel_rfl) (by kernel_rfl) (Ts := fun rr => [_, _, _, _, _, _, _, IsV rr]) (fun _ => rfl)
           case hops =>
            refine ⟨?_, ?_, ?_, ?_, ?_, ?_, ?_, ?_, trivial⟩
            · exact ⟨by intro c r hc; cases c <;> exact rgo r rfl ⟨rfl, trivial⟩ (rmv rfl), fun _ _ _ _ => rfl⟩
            · exact ⟨cBf (by kernel_rfl) fun r _ => rgo r rfl ⟨rfl, trivial⟩ (rmv rfl), fun _ _ _ _ => rfl⟩
            · exact ⟨cBf (by kernel_rfl) fun r _ => rgo r rfl ⟨rfl, trivial⟩ (rP (pu_nilCheck (oT rfl))), fun _ _ _ _ => rfl⟩
            · exact ⟨cBf (by kernel_rfl) fun r _ => rgo r rfl ⟨rfl, trivial⟩ (rP (pf (oT rfl) y63)), fun _ _ _ _ => rfl⟩
            · exact ⟨cBf (by kernel_rfl) fun r _ => rgo r rfl ⟨rfl, trivial⟩ (rP (pu_load_rawf (oT rfl) (by exact mA 4 rfl) lx1 y64)), fun _ _ _ _ => rfl⟩
            · exact ⟨cBf (by kernel_rfl) fun r _ => rgo r rfl ⟨rfl, trivial⟩ (rP (plv (oT rfl) (by exact mA 1 rfl) y60)), fun _ _ _ _ => rfl⟩
            · exact ⟨cBf (by kernel_rfl) fun r _ => rgo r rfl ⟨rfl, trivial⟩ (rop_acts rfl (acts_lit (d := kPP) (v0 := (0, 0)) y65 y60 zP (show 1 * 2 ≤ 16777216 from by decide) (by decide) (fills_arr rfl rfl (by decide) (oT rfl) fills_nil)) (fun _ _ _ _ h => h)), fun _ _ _ _ => rfl⟩
            · refine ⟨?_, ?_⟩
              · exact cBf (by kernel_rfl) fun r _ => ropg_acts rfl (acts_append (oT rfl) (by exact pA 6 rfl) (oT rfl) y65 (by (simp; omega)) (by (simp [maxLen]; omega))) (by exact pA 6 rfl) (fun r => pR) (fun _ _ _ => trivial) (fun _ _ _ _ h => h)
              · exact fun _ h => absurd h (by decide)
           case h =>
            intro v12_7 _
            refine oP (pu_nilCheck (oT rfl)) rfl (oP (pf (oT rfl) y63) rfl (tr_fact (mem_at 0 rfl) own_cell fun hone => (oA (acts_store_rawf (oT rfl) (oT rfl) (by assumption) (by exact pA 5 rfl) lx1 y64) (by exact pA 5 rfl) rfl rfl (fun _ _ => ?_))))
            refine tn (nn (te (ec 3 rfl (ec 5 rfl (ec 6 rfl (ec 9 rfl (ec 10 rfl (ec 11 rfl en)))))) (tr_pickF2 (Y := [_, _, _, _, _, _, _]) e.1 ?_)))
            apply tr_anyG (ρ := Value) (φ := fun rr => True) (p := 16) (Lf := fun c rr => cond c (OwnI 3 kI rr (((lkp e.1 cur.frm).getD (nilS, [])).2 ++ [e.2.2]) :: BlkI cur.g 158 kX (mp cur.gf, v12_7, mp cur.gh) :: OwnI 105 kPP v12_7 (cur.all ++ [(e.1, e.2.2)]) :: MapI cur.gh encP kI.T (ptk (e.1, e.2.2) ((lkp (e.1, e.2.2) cur.has).getD 0 + 1) cur.has) :: BlkI g9_5 105 kPP (e.1, e.2.2) :: MapI g1_0 encS IsV (ptrs (ptk e.2.1 cur recs)) :: BlkI g4_2 54 kE e :: MapI cur.gf encI IsV (hdV cur.frm) :: ((dlk e.1 cur.frm).map frI ++ recsI (dlk e.2.1 recs))) (OwnI 3 kI ((lkp e.1 (hdV cur.frm)).getD nilS) ((lkp e.1 cur.frm).getD (nilS, [])).2 :: BlkI cur.g 158 kX (mp cur.gf, v12_7, mp cur.gh) :: OwnI 105 kPP v12_7 (cur.all ++ [(e.1, e.2.2)]) :: MapI cur.gh encP kI.T (ptk (e.1, e.2.2) ((lkp (e.1, e.2.2) cur.has).getD 0 + 1) cur.has) :: BlkI g9_5 105 kPP (e.1, e.2.2) :: MapI g1_0 encS IsV (ptrs (ptk e.2.1 cur recs)) :: BlkI g4_2 54 kE e :: MapI cur.gf encI IsV (hdV cur.frm) :: ((dlk e.1 cur.frm).map frI ++ recsI (dlk e.2.1 recs)))) nilS (by kernel_rfl) (m := 17) (ns := [[(6, none)], [(60, some 0)], [(61, some 1)], [(62, some 2)], [(5, none)], [(64, some 4)], [(6, none)], [(66, some 6)], [(67, some 7)], [(68, some 8)], [(5, none)], [(70, some 10)], [(69, some 9), (71, some 11)], [(5, none)], [(73, some 13)], [(74, some 14)], [(72, some 12), (75, some 15)]]) (by kernel_rfl) (by kernel_rfl) (Ts := fun rr => [_, _, _, _, _, _, _, _, _, _, _, _, _, _, _, _, IsV rr]) (fun _ => rfl)
            case hops =>
             refine ⟨?_, ?_, ?_, ?_, ?_, ?_, ?_, ?_, ?_, ?_, ?_, ?_, ?_, ?_, ?_, ?_, ?_, trivial⟩
             · exact ⟨by intro c r hc; cases c <;> exact rgo r rfl ⟨rfl, trivial⟩ (rmv rfl), fun _ _ _ _ => rfl⟩
             · exact ⟨by intro c r hc; cases c <;> exact rgo r rfl ⟨rfl, trivial⟩ (rP (pu_nilCheck (oT rfl))), fun _ _ _ _ => rfl⟩
             · exact ⟨by intro c r hc; cases c <;> exact rgo r rfl ⟨rfl, trivial⟩ (rP (pf (oT rfl) y66)), fun _ _ _ _ => rfl⟩
             · exact ⟨by intro c r hc; cases c <;> exact rgo r rfl ⟨rfl, trivial⟩ (rP (pu_load_rawf (oT rfl) (by exact mA 1 rfl) lx0 y67)), fun _ _ _ _ => rfl⟩
             · exact ⟨by intro c r hc; cases c <;> exact rgo r rfl ⟨rfl, trivial⟩ (rP (pf (oT rfl) y58)), fun _ _ _ _ => rfl⟩
             · exact ⟨by intro c r hc; cases c <;> exact rgo r rfl ⟨rfl, trivial⟩ (rP (plb (oT rfl) (by exact mA 6 rfl) le0 y2)), fun _ _ _ _ => rfl⟩
             · exact ⟨cBf (by kernel_rfl) fun r _ => rgo r rfl ⟨rfl, trivial⟩ (rmv rfl), fun _ _ _ _ => rfl⟩
             · exact ⟨cBf (by kernel_rfl) fun r _ => rgo r rfl ⟨rfl, trivial⟩ (rP (pu_nilCheck (oT rfl))), fun _ _ _ _ => rfl⟩
             · exact ⟨cBf (by kernel_rfl) fun r _ => rgo r rfl ⟨rfl, trivial⟩ (rP (pf (oT rfl) y66)), fun _ _ _ _ => rfl⟩
             · exact ⟨cBf (by kernel_rfl) fun r _ => rgo r rfl ⟨rfl, trivial⟩ (rP (pu_load_rawf (oT rfl) (by exact mA 1 rfl) lx0 y67)), fun _ _ _ _ => rfl⟩
             · exact ⟨cBf (by kernel_rfl) fun r _ => rgo r rfl ⟨rfl, trivial⟩ (rP (pf (oT rfl) y58)), fun _ _ _ _ => rfl⟩
             · exact ⟨cBf (by kernel_rfl) fun r _ => rgo r rfl ⟨rfl, trivial⟩ (rP (plb (oT rfl) (by exact mA 6 rfl) le0 y2)), fun _ _ _ _ => rfl⟩
             · exact ⟨cBf (by kernel_rfl) fun r _ => rgo r rfl ⟨rfl, trivial⟩ (rP (pu_lookup_raw mkI Tryz.underlying79 (z0 := nilS) (by kernel_rfl) (oT rfl) (by exact mA 7 rfl) (oT rfl))), fun _ _ _ _ => rfl⟩
             · exact ⟨cBf (by kernel_rfl) fun r _ => rgo r rfl ⟨rfl, trivial⟩ (rP (pf (oT rfl) y59)), fun _ _ _ _ => rfl⟩
             · exact ⟨cBf (by kernel_rfl) fun r _ => rgo r rfl ⟨rfl, trivial⟩ (rP (plb (oT rfl) (by exact mA 6 rfl) le2 y2)), fun _ _ _ _ => rfl⟩
             · exact ⟨cBf (by kernel_rfl) fun r _ => rgo r rfl ⟨rfl, trivial⟩ (rop_acts rfl (acts_lit (d := kI) (v0 := 0) y68 y2 zI (show 1 * 1 ≤ 16777216 from by decide) (by decide) (fills_arr rfl rfl (by decide) (oT rfl) fills_nil)) (fun _ _ _ _ h => h)), fun _ _ _ _ => rfl⟩
             · refine ⟨?_, ?_⟩
               · exact cBf (by kernel_rfl) fun r _ => ropg_acts rfl (acts_append (oT rfl) (by exact pA 0 rfl) (oT rfl) y68 (by (simp [maxLen] at *; omega)) (by (simp [maxLen] at *; omega))) (by exact pA 0 rfl) (fun r => pR) (fun _ _ _ => trivial) (fun _ _ _ _ h => h)
               · exact fun _ h => absurd h (by decide)
            case h =>
             intro v13_16 _
             refine oA (acts_update mkI Tryz.underlying79 (oT rfl) (by exact pA 7 rfl) (oT rfl) (oT rfl)) (by exact pA 7 rfl) rfl rfl (fun _ _ => ?_)
             refine tn (bn (nn (te (ec 3 rfl (ec 9 rfl (ec 10 rfl (ec 11 rfl en)))) (rg (oP (pad (oT rfl) ot (by omega)) rfl (mv rfl rfl (tn (nn ?_))))))))
             exact tg (k + 1, ptk e.2.1 { cur with has := (ptk (e.1, e.2.2) ((lkp (e.1, e.2.2) cur.has).getD 0 + 1) cur.has), all := cur.all ++ [(e.1, e.2.2)], va := v12_7, frm := ptk e.1 (v13_16, ((lkp e.1 cur.frm).getD (nilS, [])).2 ++ [e.2.2]) cur.frm } recs) ⟨(by show k + 1 ≤ l.length; omega), lab_step hkl he habs hcur (step_yes hc)⟩ (by omega) (ea (ec 11 rfl en) (ec 3 rfl (ec 9 rfl (ec 10 rfl en)))) (op own_yes)
         · have hc : ¬ ((lkp (e.1, e.2.2) cur.has).getD 0 + 1) = 1 := by rw [lkp_put, if_pos rfl] at c49; simpa using c49
           refine sk (bn (nn (te (ec 3 rfl (ec 9 rfl (ec 10 rfl (ec 11 rfl en)))) (rg (oP (pad (oT rfl) ot (by omega)) rfl (mv rfl rfl (tn (nn ?_))))))))
           exact tg (k + 1, ptk e.2.1 { cur with has := (ptk (e.1, e.2.2) ((lkp (e.1, e.2.2) cur.has).getD 0 + 1) cur.has) } recs) ⟨(by show k + 1 ≤ l.length; omega), lab_step hkl he habs hcur (step_no hc)⟩ (by omega) (ea (ec 11 rfl en) (ec 3 rfl (ec 9 rfl (ec 10 rfl en)))) (op own_no)
   · refine tr_exit (tx (tx (bh (nn (sq (te (ec 3 rfl en) ?_))))))
     have hkl : k = l.length := by simp only [decide_eq_false_iff_not] at c12; omega
     rw [hkl, List.take_length] at habs
     refine rg (mv rfl rfl (av rfl rfl (tn (tr_frz (recsF g1_0 recs) (R := []) (by rw [List.append_nil]) 2 (oT rfl) (fun H q => by rw [optM_abs, habs] at q; exact q) ?_))))
     refine nn (tR ?_)
     exact ret_one .ret (.inl rfl) rfl () (oT rfl) trivial (by exact pn)
abbrev takeV (g : Nat) : Value := .func (.func 74) #[] #[pt g 0]
theorem zLI : ZeroOf Tryz.prog 39 (ksl kI) [] := ⟨nilS, by kernel_rfl, fun H => nil_sl⟩
theorem zPt : ZeroOf Tryz.prog 141 (kpt kIx) none := ⟨.pointer none, by kernel_rfl, fun H => rfl⟩
theorem zr : ZeroOf Tryz.prog 37 kraw nilS := ⟨nilS, by kernel_rfl, fun H => ⟨rfl, rfl⟩⟩

set_option maxRecDepth 20000 in
/-- slices.Clone[rhizome/api.Tuple,int] -/
theorem CloneO_fn (xs : Tp) (hm : xs.length ≤ 1000000) : Ct Tryz.prog 63 [SlT kI xs] ([]) Value (fun v => IsV v) (fun v => [OwnI 3 kI v xs]) (fun _ => True) := by
 refine fn_intro Tryz.func63 rfl rfl ?_
 intro H w
 refine sq (te (ec 0 rfl en) (rg (ak rfl (tn (nn (sq (sq (te (ec 0 rfl en) (rg (mv rfl rfl (oA (acts_isnil (oT rfl) Tryz.underlying58) pR rfl rfl (fun b1 hb1 => ?_))))))))))))
 refine tn (nn (tc (oT rfl) (fun c4 => ?_) (fun c4 => ?_)))
 · try simp only [cq] at c4
   obtain rfl := hb1 c4
   refine tr_nilItem 3 kI (sq (te en (rg (ak rfl (tn (nn (tR (tt ?_))))))))
   exact ret_one .ret (.inl rfl) rfl nilS (oT rfl) trivial (by repeat first | exact pn | refine pc 0 rfl ?_)
 · try simp only [cq] at c4
   refine sk (nn (sq (te (ec 0 rfl en) (rg (oA (acts_lit_own (d := kI) (v0 := 0) y28 y2 zI (show 0 * 1 ≤ 16777216 from by decide) (by decide) fills_nil) pR rfl rfl (fun v3_0 _ => ?_))))))
   refine mv rfl rfl (oA (acts_append (oT rfl) (by exact pA 0 rfl) (oT rfl) y28 (by (simp; omega)) (by (simp [maxLen]; omega))) (by exact pA 0 rfl) rfl rfl (fun v3_2 _ => ?_))
   refine av rfl rfl (tn (nn (tR ?_)))
   exact ret_one .ret (.inl rfl) rfl _ (oT rfl) trivial (by repeat first | exact pn | refine pc 0 rfl ?_)
set_option maxRecDepth 20000 in
/-- rhizome/join.Rows$1 -/
theorem Rows1_fn (t : Tp) (g : Nat) (v : Value) (nx : List Tp) (hm : nx.length ≤ 1000000) : Ct Tryz.prog 74 [SlT kI t, IsV (pt g 0)] ([BlkI g 37 kraw v, OwnI 58 kT v (nx)]) Value (fun r => BoolT (decide (((nx ++ [t]).length : Int) ≤ 3000))) (fun r => [BlkI g 37 kraw r, OwnI 58 kT r (nx ++ [t])]) (fun _ => True) := by
 refine fn_intro Tryz.func74 rfl rfl ?_
 intro H w
 refine sq (te (ec 0 rfl (ec 1 rfl en)) (rg (ak rfl (tn (nn (sq (te (ec 0 rfl (ec 1 rfl en)) (rg (oP (pu_load_rawv (oT rfl) (by exact mA 0 rfl) y25) rfl ?_)))))))))
 refine mv rfl rfl (oA (acts_lit (d := kT) (v0 := []) y29 y0 zT (show 1 * 1 ≤ 16777216 from by decide) (by decide) (fills_arr rfl rfl (by decide) (oT rfl) fills_nil)) pR rfl rfl (fun _ _ => ?_))
 refine oA (acts_append (oT rfl) (by exact pA 1 rfl) (oT rfl) y29 (by (simp; omega)) (by (simp [maxLen]; omega))) (by exact pA 1 rfl) rfl rfl (fun v1_3 _ => ?_)
 refine tr_fact (mem_at 0 rfl) own_cell fun hone => (oA (acts_store_rawv (oT rfl) (oT rfl) (by assumption) (by exact pA 1 rfl) y25) (by exact pA 1 rfl) rfl rfl (fun _ _ => ?_))
 refine tn (nn (sq (te (ec 1 rfl en) (rg (oP (pu_load_rawv (oT rfl) (by exact mA 0 rfl) y25) rfl ?_)))))
 refine oP (pu_len_own (oT rfl) (by exact mA 1 rfl) Tryz.underlying37) rfl ?_
 refine oP (pu_leq (oT rfl) ot) rfl (av rfl rfl (tn (nn (tR ?_))))
 exact ret_one .ret (.inl rfl) rfl v1_3 (oT rfl) trivial (by repeat first | exact pn | refine pc 0 rfl ?_)
set_option maxRecDepth 20000 in
/-- rhizome/join.extend -/
theorem extend_fn (o : Option Ix) (r : Tp) (f t : Nat) (g : Nat) (v : Value) (nx : List Tp) (hf : f ≤ r.length) (ht : t ≤ r.length + 1) (hft : f < r.length → t ≤ r.length) (hn : nx.length ≤ 3000) (hr : r.length ≤ 1000) (hx : ∀ x, o = some x → x.2.1.length ≤ 1000000 ∧ ∀ n, ((lkp n x.1).getD []).length ≤ 1000000) : Ct Tryz.prog 75 [PtrT kIx o, SlT kI r, I64 (f : Int), I64 (t : Int), IsV (takeV g)] ([BlkI g 37 kraw v, OwnI 58 kT v (nx)]) (Value × List Tp) (fun p => BoolT (goodN nx o r f t)) (fun p => [BlkI g 37 kraw p.1, OwnI 58 kT p.1 (p.2)]) (fun p => nx.length + (ext o r f t).length ≤ 3000 → p.2 = nx ++ ext o r f t) := by
 refine fn_intro Tryz.func75 rfl rfl ?_
 intro H w
 refine sq (te (ec 0 rfl (ec 1 rfl (ec 2 rfl (ec 3 rfl (ec 4 rfl en))))) (rg (ak rfl (tn (nn (sq (sq (te (ec 0 rfl (ec 1 rfl (ec 2 rfl (ec 3 rfl (ec 4 rfl en))))) (rg (mv rfl rfl (oP (pu_opt_eql (oT rfl) Tryz.underlying141) rfl (tn (nn (tc (oT rfl) (fun c18 => ?_) (fun c18 => ?_)))))))))))))))
 · obtain rfl : o = none := by cases o with
    | none => rfl
    | some x => cases c18
   refine sq (te en (rg (ak rfl (tn (nn (tR (tt ?_)))))))
   exact ret_one .ret (.inl rfl) rfl (v, nx) (OT.val (oT rfl) (congrArg Value.bool ((decide_eq_true (by show nx.length + 0 ≤ 3000; omega)).symm))) (fun _ => (List.append_nil nx).symm) (by repeat first | exact pn | refine pc 0 rfl ?_)
 · obtain ⟨x, rfl⟩ : ∃ x, o = some x := by cases o with
    | none => cases c18
    | some x => exact ⟨x, rfl⟩
   obtain ⟨hx1, hx2⟩ := hx x rfl
   refine tr_as 0 (T := AtT kIx x) (oT rfl) (sk (nn (sq (sq (te (ec 0 rfl (ec 1 rfl (ec 2 rfl (ec 3 rfl (ec 4 rfl en))))) (rg (mv rfl rfl (oP (pls (oT rfl) Tryz.underlying58) rfl (av rfl rfl (tn (nn (tb (sq (te (ec 0 rfl (ec 1 rfl (ec 2 rfl (ec 3 rfl (ec 4 rfl (ec 11 rfl en)))))) (rg (mv rfl rfl (mv rfl rfl (oP (pu_lss (oT rfl) (oT rfl)) rfl (mv rfl rfl (oG rfl rfl rfl (gm (oT rfl)) (fun hg => by (have hg1 := hg.2; (try simp only [cq2] at hg1); exact pu_move (oT rfl))) rfl ?_))))))))))))))))))))
   refine oG rfl rfl rfl (gm (oT rfl)) (fun hg => by (have hg1 := hg.2; (try simp only [cq2] at hg1); exact pu_move (oT rfl))) rfl ?_
   refine oG rfl rfl rfl (gm (oT rfl)) (fun hg => by (have hg1 := hg.2; (try simp only [cq2] at hg1); exact pu_lss (by exact gu (oT rfl) hg) (by exact gu (oT rfl) hg))) rfl ?_
   refine oP (pu_pick_and (oT rfl) (oT rfl)) rfl (av rfl rfl (tn (nn (tc (oT rfl) (fun c57 => ?_) (fun c57 => ?_)))))
   · obtain ⟨hA1, hA2⟩ : f < r.length ∧ t < r.length := by simp only [Bool.and_eq_true, decide_eq_true_eq] at c57; omega
     refine sq (te (ec 0 rfl (ec 1 rfl (ec 2 rfl (ec 3 rfl (ec 4 rfl en))))) ?_)
     apply tr_any (m := 18) (ns := [[(0, none)], [(66, some 0)], [(67, some 1)], [(68, some 2)], [(1, none)], [(2, none)], [(70, some 4), (71, some 5)], [(72, some 6)], [(1, none)], [(3, none)], [(74, some 8), (75, some 9)], [(76, some 10)], [(73, some 7), (77, some 11)], [(69, some 3), (78, some 12)], [(79, some 13)], [(80, some 14)], [(4, none), (81, some 15)], [(1, none), (81, some 15)]]) (by kernel_rfl) (by kernel_rfl) (Ts := [_, _, _, _, _, _, _, _, _, _, _, _, _, _, _, _, _, _]) rfl
     case hops =>
      refine ⟨?_, ?_, ?_, ?_, ?_, ?_, ?_, ?_, ?_, ?_, ?_, ?_, ?_, ?_, ?_, ?_, ?_, ?_, trivial⟩
      · exact rmv rfl
      · exact rP (pu_nilCheck_at (oT rfl))
      · exact rP (pu_faddr_at (oT rfl) ly2 y61)
      · exact rP (pL (oT rfl) y62)
      · exact rmv rfl
      · exact rmv rfl
      · exact rP (pu_index (oT rfl) (oT rfl) Tryz.underlying58 y2 (by omega) (by omega))
      · exact rP (pL (oT rfl) y2)
      · exact rmv rfl
      · exact rmv rfl
      · exact rP (pu_index (oT rfl) (oT rfl) Tryz.underlying58 y2 (by omega) (by omega))
      · exact rP (pL (oT rfl) y2)
      · exact rP (pu_build_arr (d := kPP) (v0 := (0, 0)) (agg := false) Tryz.underlying105 y2 zP rfl (fills_cons rfl Lens.p0 (oT rfl) (fills_cons rfl Lens.p1 (oT rfl) fills_nil)))
      · exact rP (pu_lookup mkP Tryz.underlying156 zI (oT rfl) (oT rfl))
      · exact rP (pu_eql (oT rfl) ot)
      · exact rmv rfl
      · exact rG rfl rfl rfl (gm (oT rfl)) (fun hg => by (have hg1 := hg.2; exact rmv rfl))
      · exact rG rfl rfl rfl (gm (oT rfl)) (fun hg => by (have hg1 := hg.2; exact rmv rfl))
     case h =>
      refine op_gu_split rfl rfl rfl rfl (oT rfl) (fun hsp => ?_) (fun hsp => ?_)
      · refine oA (acts_callv (gu (oT rfl) ⟨trivial, hsp⟩) (CtV.of [pt g 0] (Rows1_fn (r) g (v) (nx) (by omega)) (by kernel_rfl)) (oc (gu (oT rfl) ⟨trivial, hsp⟩) oN) (perm2_at 0 0 rfl rfl)) (perm2_at 0 0 rfl rfl) rfl rfl (fun v15_18 _ => ?_)
        refine oP (pu_pick_or (oT rfl) (by exact OT.gu_in (oT rfl) ⟨trivial, by assumption⟩)) rfl ?_
        refine av rfl rfl (tn (nn (tR (block_ret (tt ?_)))))
        exact ret_one .ret (.inl rfl) rfl (v15_18, nx ++ [r]) (OT.val (oT rfl) (congrArg Value.bool (A_yes hA1 hA2 hsp rfl))) (fun _ => by show nx ++ [r] = nx ++ ext (some x) r f t; rw [ext_A hA1 hA2]; exact congrArg (nx ++ ·) (if_neg (of_decide_eq_false hsp)).symm) (by repeat first | exact pn | refine pc 0 rfl ?_)
      · refine oP (pu_pick_or (oT rfl) (by exact OT.gu_out (T := BoolT true) (oT rfl) (by simp_all))) rfl ?_
        refine av rfl rfl (tn (nn (tR (block_ret (tt ?_)))))
        exact ret_one .ret (.inl rfl) rfl (v, nx) (OT.val (oT rfl) (congrArg Value.bool (A_no hA1 hA2 hn hsp))) (fun _ => by show nx = nx ++ ext (some x) r f t; rw [ext_A hA1 hA2]; exact (List.append_nil nx).symm.trans (congrArg (nx ++ ·) (if_pos (of_decide_eq_true hsp)).symm)) (by repeat first | exact pn | refine pc 0 rfl ?_)
   · have hnA : ¬ (f < r.length ∧ t < r.length) := by rintro ⟨h1, h2⟩; simp only [Bool.and_eq_false_iff, decide_eq_false_iff_not] at c57; omega
     refine sq (te (ec 0 rfl (ec 1 rfl (ec 2 rfl (ec 3 rfl (ec 4 rfl (ec 11 rfl en)))))) (rg (mv rfl rfl (mv rfl rfl (oP (pu_lss (oT rfl) (oT rfl)) rfl (av rfl rfl (tn (nn (tc (oT rfl) (fun c86 => ?_) (fun c86 => ?_))))))))))
     · have hB1 : f < r.length := by simpa using c86
       have hB2 : ¬ t < r.length := fun e => hnA ⟨hB1, e⟩
       obtain ⟨bl, he1⟩ : ∃ bl, (lkp (at' r (f : Int)) x.1).getD [] = bl := ⟨_, rfl⟩
       have he : (lkp (r.getD f 0) x.1).getD [] = bl := he1
       have hbl : bl.length ≤ 1000000 := he ▸ hx2 (r.getD f 0)
       refine sq (te (ec 0 rfl (ec 1 rfl (ec 2 rfl (ec 4 rfl en)))) ?_)
       apply tr_any (m := 11) (ns := [[(0, none)], [(90, some 0)], [(91, some 1)], [(92, some 2)], [(1, none)], [(2, none)], [(94, some 4), (95, some 5)], [(96, some 6)], [(93, some 3), (97, some 7)], [(98, some 8)], []]) (by kernel_rfl) (by kernel_rfl) (Ts := [_, _, _, _, _, _, _, _, _, _, _]) rfl
       case hops =>
        refine ⟨?_, ?_, ?_, ?_, ?_, ?_, ?_, ?_, ?_, ?_, ?_, trivial⟩
        · exact rmv rfl
        · exact rP (pu_nilCheck_at (oT rfl))
        · exact rP (pu_faddr_at (oT rfl) ly0 y66)
        · exact rP (pL (oT rfl) y67)
        · exact rmv rfl
        · exact rmv rfl
        · exact rP (pu_index (oT rfl) (oT rfl) Tryz.underlying58 y2 (by omega) (by omega))
        · exact rP (pL (oT rfl) y2)
        · exact rP (pu_lookup mkI Tryz.underlying79 zLI (oT rfl) (oT rfl))
        · exact rP (pls (oT rfl) Tryz.underlying39)
        · exact rP (pu_move ot)
       case h =>
        refine tn ?_
        rw [he1]
        refine nn (tb (tr_loopK (σ := Nat × Value) (ec 1 rfl (ec 4 rfl (ec 98 rfl (ec 99 rfl en)))) (fun s => [(100, I64 (s.1 : Int))]) (fun s => [BlkI g 37 kraw s.2, OwnI 58 kT s.2 (nx ++ (bl.take s.1).map (fun b => r ++ [b]))]) (fun s => s.1 ≤ bl.length ∧ nx.length + s.1 ≤ 3000) (fun s => bl.length - s.1) (0, v) ⟨Nat.zero_le _, hn⟩ ?_ (op (by rw [List.take_zero, List.map_nil, List.append_nil]; exact pl)) ?_))
        · exact (ec 100 rfl en)
        · rintro ⟨i, vi⟩ ⟨hi, hin⟩
          dsimp only at hi hin ⊢
          refine sq (te (ec 1 rfl (ec 4 rfl (ec 98 rfl (ec 99 rfl (ec 100 rfl en))))) ?_)
          have hil : (nx ++ ((bl.take i).map (fun b => r ++ [b]))).length = nx.length + i := by rw [List.length_append, List.length_map, List.length_take]; omega
          refine rg (oP (pu_lss (oT rfl) (oT rfl)) rfl (tn (nn (sq (tc (oT rfl) (fun c101 => ?_) (fun c101 => ?_))))))
          · refine sk (nn (sq (tb (sq (te (ec 1 rfl (ec 4 rfl (ec 98 rfl (ec 99 rfl (ec 100 rfl en))))) ?_)))))
            have hst := map_snoc (fun b => r ++ [b]) (l := bl) (k := i) (by simpa using c101)
            refine rg (oP (pu_index (oT rfl) (oT rfl) Tryz.underlying39 y2 (by omega) (by (simp [maxLen] at *; omega))) rfl ?_)
            refine oP (pL (oT rfl) y2) rfl (av rfl rfl (tn (nn (sq (te (ec 1 rfl (ec 4 rfl (ec 13 rfl (ec 98 rfl (ec 99 rfl (ec 100 rfl en)))))) (rg (mv rfl rfl (mv rfl rfl (oA (aC (CloneO_fn _ (by omega)) y30 (oc (oT rfl) oN) pR) pR rfl rfl (fun v20_2 _ => ?_))))))))))
            refine mv rfl rfl (oA (acts_lit (d := kI) (v0 := 0) y28 y2 zI (show 1 * 1 ≤ 16777216 from by decide) (by decide) (fills_arr rfl rfl (by decide) (oT rfl) fills_nil)) pR rfl rfl (fun _ _ => ?_))
            refine oA (acts_append (oT rfl) (by exact pA 0 rfl) (oT rfl) y28 (by (simp; omega)) (by (simp [maxLen]; omega))) (by exact pA 0 rfl) rfl rfl (fun v20_5 _ => ?_)
            refine tr_freeze (perm_at 0 rfl) 109 (oT rfl) (oA (acts_callv (oT rfl) (CtV.of [pt g 0] (Rows1_fn (r ++ [at' bl (i : Int)]) g (vi) (nx ++ (bl.take i).map (fun b => r ++ [b])) (by omega)) (by kernel_rfl)) (oc (oT rfl) oN) (perm2_at 0 0 rfl rfl)) (perm2_at 0 0 rfl rfl) rfl rfl (fun v20_6 _ => ?_))
            refine oP (pu_not (oT rfl)) rfl (tn (nn (tc (oT rfl) (fun c111 => ?_) (fun c111 => ?_))))
            · refine sq (te en (rg (ak rfl (tn (nn (tR (block_ret (tt (tt (block_ret (block_ret (tt ?_))))))))))))
              have hbf := B_false (nx := nx) (t := t) he hB1 hB2 (i := i) (by simpa using c101) (s := nx ++ (bl.take i).map (fun b => r ++ [b]) ++ [r ++ [at' bl (i : Int)]]) (by rw [List.length_append, hil]; rfl) (by have h9 := c111; simp only [Bool.not_eq_true', decide_eq_false_iff_not] at h9; exact h9)
              exact ret_one .ret (.inl rfl) rfl (v20_6, _) (OT.val (oT rfl) (congrArg Value.bool (hbf))) (fun hq => absurd hbf (by unfold goodN; rw [decide_eq_true hq]; simp)) (by repeat first | exact pn | refine pc 0 rfl ?_)
            · refine sk (bn (nn (te (ec 1 rfl (ec 4 rfl (ec 98 rfl (ec 99 rfl (ec 100 rfl en))))) (rg (oP (pad (oT rfl) ot (by omega)) rfl (mv rfl rfl (tn (nn ?_))))))))
              exact tg (i + 1, v20_6) ⟨by show i + 1 ≤ _; simp only [decide_eq_true_eq] at c101; omega, by show nx.length + (i + 1) ≤ 3000; have h9 := c111; simp only [Bool.not_eq_false', decide_eq_true_eq, List.length_append, List.length_singleton] at h9; rw [List.length_append] at hil; omega⟩ (by simp only [decide_eq_true_eq] at c101; show bl.length - (i + 1) < bl.length - i; omega) (ea (ec 100 rfl en) (ec 1 rfl (ec 4 rfl (ec 98 rfl (ec 99 rfl en))))) (op (by rw [hst, ← List.append_assoc]; exact (by repeat first | exact pn | refine pc 0 rfl ?_)))
          · refine tr_exit (tx (tx (bh (bn (nn (sq (te en (rg (ak rfl (tn (nn (tR ?_))))))))))))
            obtain rfl : i = bl.length := by simp only [decide_eq_false_iff_not] at c101; omega
            exact ret_one .ret (.inl rfl) rfl (vi, nx ++ (bl.take bl.length).map (fun b => r ++ [b])) (OT.val (oT rfl) (congrArg Value.bool (B_true he hB1 hB2 (by omega)))) (fun _ => by show nx ++ _ = nx ++ ext (some x) r f t; rw [ext_B hB1 hB2, he, List.take_length]) (by repeat first | exact pn | refine pc 0 rfl ?_)
     · have hC1 : ¬ f < r.length := by simpa using c86
       refine sq (te (ec 0 rfl (ec 1 rfl (ec 3 rfl (ec 4 rfl (ec 11 rfl en))))) (rg (mv rfl rfl (oP (pu_nilCheck_at (oT rfl)) rfl (oP (pu_faddr_at (oT rfl) ly1 y63) rfl (oP (pL (oT rfl) y64) rfl (oP (pls (oT rfl) Tryz.underlying110) rfl (oP (pu_move ot) rfl (tn (nn (tb (tr_loopK (σ := Nat × Value) (ec 1 rfl (ec 3 rfl (ec 4 rfl (ec 11 rfl (ec 24 rfl (ec 25 rfl en)))))) (fun s => [(26, I64 (s.1 : Int))]) (fun s => [BlkI g 37 kraw s.2, OwnI 58 kT s.2 (nx ++ (x.2.1.take s.1).filterMap (extC r t))]) (fun s => s.1 ≤ x.2.1.length ∧ (nx ++ (x.2.1.take s.1).filterMap (extC r t)).length ≤ 3000) (fun s => x.2.1.length - s.1) (0, v) ⟨Nat.zero_le _, by simpa using hn⟩ ?_ (op (by rw [List.take_zero, List.filterMap_nil, List.append_nil]; exact pl)) ?_))))))))))))
       · exact (ec 26 rfl en)
       · rintro ⟨i, vi⟩ ⟨hi, hin⟩
         dsimp only at hi hin ⊢
         refine sq (te (ec 1 rfl (ec 3 rfl (ec 4 rfl (ec 11 rfl (ec 24 rfl (ec 25 rfl (ec 26 rfl en))))))) (rg (oP (pu_lss (oT rfl) (oT rfl)) rfl (tn (nn (sq (tc (oT rfl) (fun c27 => ?_) (fun c27 => ?_))))))))
         · refine sk (nn (sq (tb (sq (te (ec 1 rfl (ec 3 rfl (ec 4 rfl (ec 11 rfl (ec 24 rfl (ec 25 rfl (ec 26 rfl en))))))) ?_)))))
           obtain ⟨p, hp⟩ : ∃ p, at' x.2.1 (i : Int) = p := ⟨_, rfl⟩
           have hil : i < x.2.1.length := by simpa using c27
           have hst := fmap_snoc (extC r t) (l := x.2.1) (k := i) hil
           rw [hp] at hst
           refine rg (oP (pu_index (oT rfl) (oT rfl) Tryz.underlying110 y60 (by omega) (by omega)) rfl (oP (pL (oT rfl) y60) rfl (oA (acts_alloc (zP)) pR rfl rfl (fun g6_2 _ => ?_))))
           refine oA (asv (oT rfl) (oT rfl) (by exact pA 0 rfl) y60) (by exact pA 0 rfl) rfl rfl (fun _ _ => ?_)
           refine tn (nn (sq (te (ec 1 rfl (ec 3 rfl (ec 4 rfl (ec 11 rfl (ec 15 rfl (ec 24 rfl (ec 25 rfl (ec 26 rfl en)))))))) ?_)))
           rw [hp]
           apply tr_anyG (ρ := Value) (φ := fun rr => True) (p := 1) (Lf := fun c rr => cond c (OwnI 3 kI rr r :: BlkI g6_2 105 kPP p :: BlkI g 37 kraw vi :: OwnI 58 kT vi (nx ++ (x.2.1.take i).filterMap (extC r t)) :: []) (BlkI g6_2 105 kPP p :: BlkI g 37 kraw vi :: OwnI 58 kT vi (nx ++ (x.2.1.take i).filterMap (extC r t)) :: [])) nilS (by kernel_rfl) (m := 5) (ns := [[(1, none)], [(30, some 0)], [(15, none)], [(32, some 2)], [(33, some 3)]]) (by kernel_rfl) (by kernel_rfl) (Ts := fun rr => [_, IsV rr, _, kI.T p.1, SlT kI [p.1]]) (fun _ => rfl)
           case hops =>
            refine ⟨?_, ?_, ?_, ?_, ?_, trivial⟩
            · exact ⟨cBf (by kernel_rfl) fun r _ => rgo r rfl ⟨rfl, trivial⟩ (rmv rfl), fun _ _ _ _ => rfl⟩
            · refine ⟨?_, ?_⟩
              · exact cBf (by kernel_rfl) fun r _ => ropg_acts rfl (aC (CloneO_fn _ (by omega)) y30 (oc (oT rfl) oN) pR) pR (fun r => pR) (fun _ _ _ => trivial) (fun _ _ _ _ h => h)
              · exact fun _ h => absurd h (by decide)
            · exact ⟨cB (fun r hc => rgo r rfl ⟨rfl, trivial⟩ (rP (pu_pair_var0 (oT rfl) (by exact mA 0 rfl) Tryz.underlying105 y2))) fun r hc => rgo r rfl ⟨rfl, trivial⟩ (rP (pu_pair_var0 (oT rfl) (by exact mA 1 rfl) Tryz.underlying105 y2)), fun _ _ _ _ => rfl⟩
            · exact ⟨cB (fun r hc => rgo r rfl ⟨rfl, trivial⟩ (rP (pu_load_p0 (d := kI) (v := p) (oT rfl) (by exact mA 0 rfl) y2))) fun r hc => rgo r rfl ⟨rfl, trivial⟩ (rP (pu_load_p0 (d := kI) (v := p) (oT rfl) (by exact mA 1 rfl) y2)), fun _ _ _ _ => rfl⟩
            · exact ⟨by intro c r hc; cases c <;> exact rgo r rfl ⟨rfl, trivial⟩ (rop_acts rfl (acts_lit (d := kI) (v0 := 0) y28 y2 zI (show 1 * 1 ≤ 16777216 from by decide) (by decide) (fills_arr rfl rfl (by decide) (oT rfl) fills_nil)) (fun _ _ _ _ h => h)), fun _ _ _ _ => rfl⟩
           case h =>
            intro v7_1 _
            refine oA (acts_append (oT rfl) (by exact pA 0 rfl) (oT rfl) y28 (by (simp; omega)) (by (simp [maxLen]; omega))) (by exact pA 0 rfl) rfl rfl (fun v7_5 _ => ?_)
            refine av rfl rfl (tn (nn (sq (sq (te (ec 1 rfl (ec 3 rfl (ec 4 rfl (ec 11 rfl (ec 15 rfl (ec 16 rfl (ec 24 rfl (ec 25 rfl (ec 26 rfl en))))))))) (rg (mv rfl rfl (mv rfl rfl (oP (pad (oT rfl) ot (by omega)) rfl (oP (pu_eql (oT rfl) (oT rfl)) rfl (tn (nn (tc (oT rfl) (fun c39 => ?_) (fun c39 => ?_))))))))))))))
            · have ht1 : t = r.length + 1 := by simp only [decide_eq_true_eq] at c39; omega
              have hrow : extC r t p = some (r ++ [p.1] ++ [p.2]) := by unfold extC; rw [if_pos ht1]
              refine te (ec 1 rfl (ec 3 rfl (ec 4 rfl (ec 11 rfl (ec 15 rfl (ec 16 rfl (ec 24 rfl (ec 25 rfl (ec 26 rfl en))))))))) (rg (mv rfl rfl (oP (pu_pair_var1 (oT rfl) (by exact mA 1 rfl) Tryz.underlying105 y2) rfl ?_)))
              refine oP (pu_load_p1 (d := kI) (v := p) (oT rfl) (by exact mA 1 rfl) y2) rfl ?_
              refine oA (acts_lit (d := kI) (v0 := 0) y28 y2 zI (show 1 * 1 ≤ 16777216 from by decide) (by decide) (fills_arr rfl rfl (by decide) (oT rfl) fills_nil)) pR rfl rfl (fun _ _ => ?_)
              refine oA (acts_append (oT rfl) (by exact pA 0 rfl) (oT rfl) y28 (by (simp; omega)) (by (simp [maxLen]; omega))) (by exact pA 0 rfl) rfl rfl (fun v9_4 _ => ?_)
              refine av rfl rfl (tn (nn (sq (te (ec 1 rfl (ec 3 rfl (ec 4 rfl (ec 11 rfl (ec 16 rfl (ec 24 rfl (ec 25 rfl (ec 26 rfl en)))))))) (rg (mv rfl rfl (mv rfl rfl (tr_freeze (perm_at 0 rfl) 53 (oT rfl) (oA (acts_callv (oT rfl) (CtV.of [pt g 0] (Rows1_fn (_) g (vi) (nx ++ (x.2.1.take i).filterMap (extC r t)) (by omega)) (by kernel_rfl)) (oc (oT rfl) oN) (perm2_at 1 1 rfl rfl)) (perm2_at 1 1 rfl rfl) rfl rfl (fun v11_2 _ => ?_))))))))))
              refine oP (pu_not (oT rfl)) rfl (tn (nn (tc (oT rfl) (fun c55 => ?_) (fun c55 => ?_))))
              · refine sq (te en (rg (ak rfl (tn (nn (tR (block_ret (tt (tt (block_ret (block_ret (tt ?_))))))))))))
                have hbf := C_false (nx := nx) (t := t) hC1 (i := i) (s := nx ++ (x.2.1.take i).filterMap (extC r t) ++ [_]) (by rw [hst, hrow, Option.toList_some, List.append_assoc]) (by have h9 := c55; simp only [Bool.not_eq_true', decide_eq_false_iff_not] at h9; exact h9)
                exact ret_one .ret (.inl rfl) rfl (v11_2, _) (OT.val (oT rfl) (congrArg Value.bool (hbf))) (fun hq => absurd hbf (by unfold goodN; rw [decide_eq_true hq]; simp)) (by repeat first | exact pn | refine pc 0 rfl ?_)
              · refine sk (bn (nn (te (ec 1 rfl (ec 3 rfl (ec 4 rfl (ec 11 rfl (ec 24 rfl (ec 25 rfl (ec 26 rfl en))))))) (rg (oP (pad (oT rfl) ot (by omega)) rfl (mv rfl rfl (tn (nn ?_))))))))
                exact tg (i + 1, v11_2) ⟨(by show i + 1 ≤ _; omega), (by show (nx ++ (x.2.1.take (i + 1)).filterMap (extC r t)).length ≤ 3000; have h9 := c55; simp only [Bool.not_eq_false', decide_eq_true_eq] at h9; rw [hst, hrow, Option.toList_some, ← List.append_assoc]; simp only [List.length_append, List.length_singleton] at h9 ⊢; omega)⟩ (by show x.2.1.length - (i + 1) < x.2.1.length - i; omega) (ea (ec 26 rfl en) (ec 1 rfl (ec 3 rfl (ec 4 rfl (ec 11 rfl (ec 24 rfl (ec 25 rfl en))))))) (op (by rw [hst, hrow, Option.toList_some, ← List.append_assoc]; exact (by repeat first | exact pn | refine pc 0 rfl ?_)))
            · have ht1 : ¬ t = r.length + 1 := by simp only [decide_eq_false_iff_not] at c39; omega
              refine sq (te (ec 1 rfl (ec 3 rfl (ec 4 rfl (ec 11 rfl (ec 15 rfl (ec 16 rfl (ec 24 rfl (ec 25 rfl (ec 26 rfl en))))))))) ?_)
              apply tr_any (m := 6) (ns := [[(16, none)], [(3, none)], [(45, some 0), (46, some 1)], [(47, some 2)], [(15, none)], [(49, some 4)]]) (by kernel_rfl) (by kernel_rfl) (Ts := [_, _, _, _, _, _]) rfl
              case hops =>
               refine ⟨?_, ?_, ?_, ?_, ?_, ?_, trivial⟩
               · exact rmv rfl
               · exact rmv rfl
               · exact rP (pio (oT rfl) (by exact mA 0 rfl) (oT rfl) Tryz.underlying58 y2 (by omega) (by (simp; omega)))
               · exact rP (plo (oT rfl) (by exact mA 0 rfl) (by omega) (by (simp; omega)) y2)
               · exact rP (pu_pair_var1 (oT rfl) (by exact mA 1 rfl) Tryz.underlying105 y2)
               · exact rP (pu_load_p1 (d := kI) (v := p) (oT rfl) (by exact mA 1 rfl) y2)
              case h =>
               refine oP (pu_neq (oT rfl) (oT rfl)) rfl (tn (nn (tc (oT rfl) (fun c51 => ?_) (fun c51 => ?_))))
               · have hrow : extC r t p = none := by unfold extC; rw [if_neg ht1]; exact if_neg (of_decide_eq_true c51)
                 refine tr_exit (tx (bh (nn (te (ec 1 rfl (ec 3 rfl (ec 4 rfl (ec 11 rfl (ec 24 rfl (ec 25 rfl (ec 26 rfl en))))))) (rg (oP (pad (oT rfl) ot (by omega)) rfl (mv rfl rfl (tn (nn ?_)))))))))
                 exact tg (i + 1, vi) ⟨(by show i + 1 ≤ _; omega), (by show (nx ++ (x.2.1.take (i + 1)).filterMap (extC r t)).length ≤ 3000; rw [hst, hrow, Option.toList_none, List.append_nil]; exact hin)⟩ (by show x.2.1.length - (i + 1) < x.2.1.length - i; omega) (ea (ec 26 rfl en) (ec 1 rfl (ec 3 rfl (ec 4 rfl (ec 11 rfl (ec 24 rfl (ec 25 rfl en))))))) (op (by rw [hst, hrow, Option.toList_none, List.append_nil]; exact (by repeat first | exact pn | refine pc 2 rfl ?_)))
               · have hrow : extC r t p = some (r ++ [p.1]) := by unfold extC; rw [if_neg ht1]; exact if_pos (Classical.not_not.1 (of_decide_eq_false c51))
                 refine sk (nn (sq (te (ec 1 rfl (ec 3 rfl (ec 4 rfl (ec 11 rfl (ec 16 rfl (ec 24 rfl (ec 25 rfl (ec 26 rfl en)))))))) (rg (mv rfl rfl (mv rfl rfl (tr_freeze (perm_at 0 rfl) 53 (oT rfl) (oA (acts_callv (oT rfl) (CtV.of [pt g 0] (Rows1_fn (_) g (vi) (nx ++ (x.2.1.take i).filterMap (extC r t)) (by omega)) (by kernel_rfl)) (oc (oT rfl) oN) (perm2_at 1 1 rfl rfl)) (perm2_at 1 1 rfl rfl) rfl rfl (fun v11_2 _ => ?_)))))))))
                 refine oP (pu_not (oT rfl)) rfl (tn (nn (tc (oT rfl) (fun c55 => ?_) (fun c55 => ?_))))
                 · refine sq (te en (rg (ak rfl (tn (nn (tR (block_ret (tt (tt (block_ret (block_ret (tt ?_))))))))))))
                   have hbf := C_false (nx := nx) (t := t) hC1 (i := i) (s := nx ++ (x.2.1.take i).filterMap (extC r t) ++ [_]) (by rw [hst, hrow, Option.toList_some, List.append_assoc]) (by have h9 := c55; simp only [Bool.not_eq_true', decide_eq_false_iff_not] at h9; exact h9)
                   exact ret_one .ret (.inl rfl) rfl (v11_2, _) (OT.val (oT rfl) (congrArg Value.bool (hbf))) (fun hq => absurd hbf (by unfold goodN; rw [decide_eq_true hq]; simp)) (by repeat first | exact pn | refine pc 0 rfl ?_)
                 · refine sk (bn (nn (te (ec 1 rfl (ec 3 rfl (ec 4 rfl (ec 11 rfl (ec 24 rfl (ec 25 rfl (ec 26 rfl en))))))) (rg (oP (pad (oT rfl) ot (by omega)) rfl (mv rfl rfl (tn (nn ?_))))))))
                   exact tg (i + 1, v11_2) ⟨(by show i + 1 ≤ _; omega), (by show (nx ++ (x.2.1.take (i + 1)).filterMap (extC r t)).length ≤ 3000; have h9 := c55; simp only [Bool.not_eq_false', decide_eq_true_eq] at h9; rw [hst, hrow, Option.toList_some, ← List.append_assoc]; simp only [List.length_append, List.length_singleton] at h9 ⊢; omega)⟩ (by show x.2.1.length - (i + 1) < x.2.1.length - i; omega) (ea (ec 26 rfl en) (ec 1 rfl (ec 3 rfl (ec 4 rfl (ec 11 rfl (ec 24 rfl (ec 25 rfl en))))))) (op (by rw [hst, hrow, Option.toList_some, ← List.append_assoc]; exact (by repeat first | exact pn | refine pc 0 rfl ?_)))
         · refine tr_exit (tx (tx (bh (bn (nn (sq (te en (rg (ak rfl (tn (nn (tR ?_))))))))))))
           obtain rfl : i = x.2.1.length := by simp only [decide_eq_false_iff_not] at c27; omega
           exact ret_one .ret (.inl rfl) rfl (vi, nx ++ (x.2.1.take x.2.1.length).filterMap (extC r t)) (OT.val (oT rfl) (congrArg Value.bool (C_true hC1 (by rw [List.take_length] at hin; exact hin)))) (fun _ => by show nx ++ _ = nx ++ ext (some x) r f t; rw [ext_C hC1, List.take_length]) (by repeat first | exact pn | refine pc 0 rfl ?_)
end Go.Proofs.YtaahhghlpoiihaaGreatDoor
/- Rows' loops: steps. Plain Lean. -/
namespace Go.Jn
open Go Go.Gw Go.Tu Go.Proofs.YtaahhghlpoiihaaGreatDoor
set_option linter.unusedVariables false
set_option linter.unusedSimpArgs false
theorem optM_lkp (lab : Lab) (m : List (Lab × Ix)) : (lkp lab (optM m)).getD none = lkp lab m := by
 unfold optM
 rw [lkp_map (fun x : Ix => some x)]
 cases lkp lab m <;> rfl
theorem flat_snoc {α β : Type} [Inhabited α] {l : List α} (f : α → List β) {k : Nat} (h : k < l.length) : (l.take (k + 1)).flatMap f = (l.take k).flatMap f ++ f (at' l (k : Int)) := by
 rw [at'_nat h, List.take_succ_eq_append_getElem h, List.flatMap_append]; simp
theorem flat_take_le {α β : Type} (f : α → List β) (l : List α) (k : Nat) : ((l.take k).flatMap f).length ≤ (l.flatMap f).length := by
 have h := List.take_append_drop k l
 have h2 : (l.flatMap f).length = ((l.take k).flatMap f).length + ((l.drop k).flatMap f).length := by
  conv => lhs; rw [← h]
  rw [List.flatMap_append, List.length_append]
 omega
theorem rows_take {m : List (Lab × Ix)} {V : List Lab} {al : List Atm} {k : Nat} (h : k < al.length) : rowsK m V (al.take (k + 1)) = stepR m V (rowsK m V (al.take k)) (at' al (k : Int)) := by
 rw [at'_nat h, List.take_succ_eq_append_getElem h, rowsK_snoc]
theorem rows_len (l : List Ed) {al : List Atm} {k : Nat} {r : Tp} (h : r ∈ rowsK (byLab l) (varsL al) (al.take k)) : r.length = (varsL (al.take k)).length := (((rows_spec l (al.take k) (varsL_take al k)).2 r).1 h).1
theorem rows_lies {al : List Atm} {k : Nat} {a : Atm} (h : k < al.length) (ha : at' al (k : Int) = a) : Lies (varsL (al.take k)).length (varsL (al.take (k + 1))).length (ix (varsL al) a.1) (ix (varsL al) a.2.2) := by
 have h1 := varsL_at h
 rw [ha] at h1
 exact lies (varsL_nodup _) h1 (varsL_take al (k + 1))
theorem atom_vars {al : List Atm} {k : Nat} {a : Atm} (h : k < al.length) (ha : at' al (k : Int) = a) : ixI (varsL al) a.1 = (ix (varsL al) a.1 : Int) ∧ ixI (varsL al) a.2.2 = (ix (varsL al) a.2.2 : Int) := by
 rw [at'_nat h] at ha
 have hm : a ∈ al := ha ▸ List.getElem_mem h
 exact ⟨ixI_in (varsL_mem.2 ⟨a, hm, .inl rfl⟩), ixI_in (varsL_mem.2 ⟨a, hm, .inr rfl⟩)⟩
theorem idx_small (l : List Ed) (hl : l.length ≤ 1000000) (lab : Lab) : ∀ x, lkp lab (byLab l) = some x → x.2.1.length ≤ 1000000 ∧ ∀ n, ((lkp n x.1).getD []).length ≤ 1000000 := by
 intro x hx
 obtain ⟨h, _⟩ := byLab_ok l lab
 rw [hx] at h
 simp only [Option.getD_some] at h
 have h1 := prs_len l lab
 have h2 := h.al
 refine ⟨by omega, fun n => ?_⟩
 have h3 := h.fl n
 omega
theorem at_mem {α : Type} [Inhabited α] {l : List α} {k : Nat} (h : k < l.length) : at' l (k : Int) ∈ l := by rw [at'_nat h]; exact List.getElem_mem h
theorem okV_pat {v : Vw} (h : (!okV v) = false) : okV v = true ∧ v.2.2.1.length ≤ 6 ∧ 1 ≤ v.2.2.2.1.length ∧ v.2.2.2.1.length ≤ 8 := by
 have h1 : okV v = true := by simpa using h
 refine ⟨h1, ?_⟩
 unfold okV patB at h1
 simp only [Bool.and_eq_true, decide_eq_true_eq] at h1
 omega
theorem rows_all_len (l : List Ed) {al : List Atm} (h8 : al.length ≤ 8) (k : Nat) : ∀ r ∈ rowsK (byLab l) (varsL al) (al.take k), r.length ≤ 16 := by
 intro r hr
 have h1 := rows_len l hr
 have h2 := varsL_len (al.take k)
 rw [List.length_take] at h2
 omega
theorem caps0 {m : List (Lab × Ix)} {V : List Lab} {al : List Atm} : ∀ j, j ≤ 0 → (rowsK m V (al.take j)).length ≤ 3000 := fun j hj => by
 obtain rfl : j = 0 := by omega
 show 1 ≤ 3000; omega
theorem caps_next {m : List (Lab × Ix)} {V : List Lab} {al : List Atm} {k : Nat} (h : ∀ j, j ≤ k → (rowsK m V (al.take j)).length ≤ 3000) (h1 : (rowsK m V (al.take (k + 1))).length ≤ 3000) : ∀ j, j ≤ k + 1 → (rowsK m V (al.take j)).length ≤ 3000 := fun j hj => by
 rcases Nat.lt_or_ge j (k + 1) with h2 | h2
 · exact h j (by omega)
 · obtain rfl : j = k + 1 := by omega
   exact h1
theorem many_at {l : List Ed} {al : List Atm} {k i : Nat} {a : Atm} {rows : List Tp} {r : Tp} (hk : k < al.length) (ha : at' al (k : Int) = a) (hr : rowsK (byLab l) (varsL al) (al.take k) = rows) (hi : i < rows.length) (hrr : at' rows (i : Int) = r)
 (h : ¬ ((rows.take i).flatMap (fun r => ext (lkp a.2.1 (byLab l)) r (ix (varsL al) a.1) (ix (varsL al) a.2.2))).length + (ext (lkp a.2.1 (byLab l)) r (ix (varsL al) a.1) (ix (varsL al) a.2.2)).length ≤ 3000) : tooMany l al := by
 refine ⟨k + 1, hk, ?_⟩
 rw [rows_take hk, ha, hr]
 unfold stepR
 have h1 := flat_take_le (fun r => ext (lkp a.2.1 (byLab l)) r (ix (varsL al) a.1) (ix (varsL al) a.2.2)) rows (i + 1)
 have h2 := flat_snoc (fun r => ext (lkp a.2.1 (byLab l)) r (ix (varsL al) a.1) (ix (varsL al) a.2.2)) hi
 rw [hrr] at h2
 rw [h2, List.length_append] at h1
 omega
theorem not_many {l : List Ed} {al : List Atm} (h : ∀ j, j ≤ al.length → (rowsK (byLab l) (varsL al) (al.take j)).length ≤ 3000) : ¬ tooMany l al := by
 rintro ⟨k, hk, h1⟩
 have := h k hk
 omega
end Go.Jn
/- Walks through the Go functions join.Rows, as typed contracts. -/
namespace Go.Proofs.YtaahhghlpoiihaaGreatDoor
open Go Go.Gw Go.So Go.Tu Go.Jn
set_option linter.unusedVariables false
set_option linter.unusedSimpArgs false

set_option maxRecDepth 20000 in
/-- rhizome/join.Rows -/
theorem Rows_fn (v : Vw) (l : List Ed) (ho : v.2.2.1.length ≤ maxLen) (ha : v.2.2.2.1.length ≤ maxLen) (hm : l.length ≤ 1000000) : Ct Tryz.prog 42 [kV.T v, SlT kE l] ([]) (List Tp × Int) (fun r => TupT [SlT kT r.1, I64 r.2]) (fun _ => []) (fun r => RowsSay v l r) := by
 refine fn_intro Tryz.func42 rfl rfl ?_
 intro H w
 have ho0 := ho; have ha0 := ha; unfold maxLen at ho ha
 refine sq (te (ec 0 rfl (ec 1 rfl en)) (rg (oA (acts_box (d := kV) (oT rfl)) pR rfl rfl (fun g0_0 _ => ?_))))
 refine ak rfl (ak rfl (tn (nn (sq (sq (te (ec 1 rfl (ec 2 rfl en)) (rg (oP (plv (oT rfl) (by exact mA 0 rfl) y53) rfl ?_))))))))
 refine oA (aC (bad_fn _ ho0 ha0) y69 (oc (oT rfl) oN) pR) pR rfl rfl (fun _ _ => ?_)
 refine tn (nn (tc (oT rfl) (fun c16 => ?_) (fun c16 => ?_)))
 · refine sq (te en (rg (ak rfl (ak rfl (tn (nn (tR (tt ?_))))))))
   exact ret_two .ret (.inl rfl) rfl ([], 1) (OT.conv (oT rfl) (fun H u h => nil_slt h)) (oT rfl) (fun _ _ h => h) (.inl ⟨by simpa using c16, rfl⟩) (by exact pn)
 · obtain ⟨hok, hol, hal1, hal8⟩ := okV_pat c16
   refine sk (nn (sq (te (ec 1 rfl (ec 2 rfl en)) (rg (oP (plv (oT rfl) (by exact mA 0 rfl) y53) rfl ?_)))))
   refine oA (aC (Vars_fn _ (by omega)) y54 (oc (oT rfl) oN) pR) pR rfl rfl (fun _ _ => ?_)
   refine mv rfl rfl (oA (aC (byLabel_fn _ (by omega)) y70 (oc (oT rfl) oN) pR) pR rfl rfl (fun _ _ => ?_))
   refine av rfl rfl (av rfl rfl (tn (nn (sq (te (ec 2 rfl (ec 6 rfl (ec 7 rfl en))) (rg (oA (acts_lit (d := kT) (v0 := []) y29 y0 zT (show 1 * 1 ≤ 16777216 from by decide) (by decide) (fills_arr rfl rfl (by decide) (OT.conv ot (fun H u h => nil_slt h)) fills_nil)) pR rfl rfl (fun _ _ => ?_))))))))
   refine av rfl rfl (tn (tr_as 8 (T := SlT kT (rowsK (byLab l) (varsL v.2.2.2.1) (v.2.2.2.1.take 0))) (OT.eq (oT rfl) rfl) (nn (sq (sq (te (ec 2 rfl (ec 6 rfl (ec 7 rfl (ec 8 rfl en)))) (rg (oP (pf (oT rfl) y39) rfl (oP (plb (oT rfl) (by exact mA 0 rfl) lv3 y40) rfl ?_)))))))))
   refine oP (pls (oT rfl) Tryz.underlying23) rfl (oP (pu_move ot) rfl (tn (nn (tb (tr_loopK (σ := Nat) (ec 6 rfl (ec 7 rfl (ec 23 rfl (ec 24 rfl en)))) (fun k => [(25, I64 (k : Int)), (8, SlT kT (rowsK (byLab l) (varsL v.2.2.2.1) (v.2.2.2.1.take k)))]) (fun k => [BlkI g0_0 25 kV v]) (fun k => k ≤ v.2.2.2.1.length ∧ ∀ j, j ≤ k → (rowsK (byLab l) (varsL v.2.2.2.1) (v.2.2.2.1.take j)).length ≤ 3000) (fun k => v.2.2.2.1.length - k) 0 ⟨Nat.zero_le _, caps0⟩ ?_ (op (by repeat first | exact pn | refine pc 0 rfl ?_)) ?_)))))
   · exact (ec 25 rfl (ec 8 rfl en))
   · rintro k ⟨hk, hcaps⟩
     refine sq (te (ec 6 rfl (ec 7 rfl (ec 8 rfl (ec 23 rfl (ec 24 rfl (ec 25 rfl en)))))) (rg (oP (pu_lss (oT rfl) (oT rfl)) rfl (tn (nn (sq (tc (oT rfl) (fun c26 => ?_) (fun c26 => ?_))))))))
     · refine sk (nn (sq (tb (sq (te (ec 6 rfl (ec 7 rfl (ec 8 rfl (ec 23 rfl (ec 24 rfl (ec 25 rfl en)))))) ?_)))))
       have hka : k < v.2.2.2.1.length := by simpa using c26
       obtain ⟨a, haa⟩ : ∃ a, at' v.2.2.2.1 (k : Int) = a := ⟨_, rfl⟩
       obtain ⟨rows, hrows⟩ : ∃ rows, rowsK (byLab l) (varsL v.2.2.2.1) (v.2.2.2.1.take k) = rows := ⟨_, rfl⟩
       have hlies := rows_lies hka haa
       obtain ⟨hix1, hix2⟩ := atom_vars hka haa
       have hvl := varsL_len v.2.2.2.1
       have hcap := hcaps k (Nat.le_refl k)
       rw [hrows] at hcap ⊢
       refine rg (oP (pu_index (oT rfl) (oT rfl) Tryz.underlying23 y41 (by omega) (by omega)) rfl (oP (pL (oT rfl) y41) rfl (oA (acts_alloc (zA)) pR rfl rfl (fun g7_2 _ => ?_))))
       refine oA (asv (oT rfl) (oT rfl) (by exact pA 0 rfl) y41) (by exact pA 0 rfl) rfl rfl (fun _ _ => ?_)
       refine tn (nn (sq (te (ec 6 rfl (ec 7 rfl (ec 8 rfl (ec 10 rfl (ec 23 rfl (ec 24 rfl (ec 25 rfl en))))))) ?_)))
       rw [haa]
       refine rg (oA (acts_alloc zr) pR rfl rfl (fun g8_0 _ => ?_))
       refine tn (tr_nilItem 58 kT (nn (sq (te (ec 6 rfl (ec 7 rfl (ec 8 rfl (ec 10 rfl (ec 11 rfl (ec 23 rfl (ec 24 rfl (ec 25 rfl en)))))))) (rg (oP (pu_makeFunc (caps_cons (oT rfl) caps_nil)) rfl (av rfl rfl (tn (nn (sq (sq (te (ec 6 rfl (ec 7 rfl (ec 8 rfl (ec 10 rfl (ec 11 rfl (ec 12 rfl (ec 23 rfl (ec 24 rfl (ec 25 rfl en))))))))) (rg (mv rfl rfl (oP (pls (oT rfl) Tryz.underlying37) rfl (oP (pu_move ot) rfl (tn (nn (tb (tr_loopK (σ := Nat × Value) (ec 6 rfl (ec 7 rfl (ec 10 rfl (ec 11 rfl (ec 12 rfl (ec 23 rfl (ec 24 rfl (ec 25 rfl (ec 30 rfl (ec 31 rfl en)))))))))) (fun s => [(32, I64 (s.1 : Int))]) (fun s => [BlkI g8_0 37 kraw s.2, OwnI 58 kT s.2 ((rows.take s.1).flatMap (fun r => ext (lkp a.2.1 (byLab l)) r (ix (varsL v.2.2.2.1) a.1) (ix (varsL v.2.2.2.1) a.2.2))), BlkI g7_2 52 kA a, BlkI g0_0 25 kV v]) (fun s => s.1 ≤ rows.length ∧ ((rows.take s.1).flatMap (fun r => ext (lkp a.2.1 (byLab l)) r (ix (varsL v.2.2.2.1) a.1) (ix (varsL v.2.2.2.1) a.2.2))).length ≤ 3000) (fun s => rows.length - s.1) (0, nilS) ⟨Nat.zero_le _, by simp⟩ ?_ (op (by repeat first | exact pn | refine pc 0 rfl ?_ | refine pc 1 rfl ?_)) ?_))))))))))))))))))))
       · exact (ec 32 rfl en)
       · rintro ⟨i, vi⟩ ⟨hi, hin⟩
         dsimp only at hi hin ⊢
         refine sq (te (ec 6 rfl (ec 7 rfl (ec 10 rfl (ec 11 rfl (ec 12 rfl (ec 23 rfl (ec 24 rfl (ec 25 rfl (ec 30 rfl (ec 31 rfl (ec 32 rfl en))))))))))) (rg (oP (pu_lss (oT rfl) (oT rfl)) rfl (tn (nn (sq (tc (oT rfl) (fun c33 => ?_) (fun c33 => ?_))))))))
         · refine sk (nn (sq (tb (sq (te (ec 6 rfl (ec 7 rfl (ec 10 rfl (ec 11 rfl (ec 12 rfl (ec 23 rfl (ec 24 rfl (ec 25 rfl (ec 30 rfl (ec 31 rfl (ec 32 rfl en))))))))))) ?_)))))
           have hir : i < rows.length := by simpa using c33
           obtain ⟨r, hrr⟩ : ∃ r, at' rows (i : Int) = r := ⟨_, rfl⟩
           have hrl : r.length = _ := rows_len l (k := k) (al := v.2.2.2.1) (by rw [hrows, ← hrr]; exact at_mem hir)
           have hvlk := varsL_len (v.2.2.2.1.take k)
           rw [List.length_take] at hvlk
           have hst := flat_snoc (fun r => ext (lkp a.2.1 (byLab l)) r (ix (varsL v.2.2.2.1) a.1) (ix (varsL v.2.2.2.1) a.2.2)) hir
           rw [hrr] at hst
           rw [← hrl] at hlies
           have hl1 := hlies.f1
           have hl2 := hlies.t1
           have hl3 := hlies.t2
           refine rg (oP (pu_index (oT rfl) (oT rfl) Tryz.underlying37 y0 (by omega) (by omega)) rfl (oP (pL (oT rfl) y0) rfl (av rfl rfl (tn (nn (sq (te (ec 6 rfl (ec 7 rfl (ec 10 rfl (ec 11 rfl (ec 12 rfl (ec 14 rfl (ec 23 rfl (ec 24 rfl (ec 25 rfl (ec 30 rfl (ec 31 rfl (ec 32 rfl en)))))))))))) ?_)))))))
           rw [hrr]
           apply tr_any (m := 14) (ns := [[(7, none)], [(10, none)], [(37, some 1)], [(36, some 0), (38, some 2)], [(14, none)], [(6, none)], [(10, none)], [(42, some 6)], [(41, some 5), (43, some 7)], [(6, none)], [(10, none)], [(46, some 10)], [(45, some 9), (47, some 11)], [(12, none)]]) (by kernel_rfl) (by kernel_rfl) (Ts := [_, _, _, _, _, _, _, _, _, _, _, _, _, _]) rfl
           case hops =>
            refine ⟨?_, ?_, ?_, ?_, ?_, ?_, ?_, ?_, ?_, ?_, ?_, ?_, ?_, ?_, trivial⟩
            · exact rmv rfl
            · exact rP (pf (oT rfl) y52)
            · exact rP (plb (oT rfl) (by exact mA 2 rfl) la1 y36)
            · exact rP (pu_lookup mkS Tryz.underlying137 zPt (oT rfl) (oT rfl))
            · exact rmv rfl
            · exact rmv rfl
            · exact rP (pf (oT rfl) y42)
            · exact rP (plb (oT rfl) (by exact mA 2 rfl) la0 y36)
            · exact rop_acts rfl (aC (IndexS_fn _ _ (by omega)) y37 (oc (oT rfl) (oc (oT rfl) oN)) pR) (fun _ _ _ _ h => h)
            · exact rmv rfl
            · exact rP (pf (oT rfl) y43)
            · exact rP (plb (oT rfl) (by exact mA 2 rfl) la2 y36)
            · exact rop_acts rfl (aC (IndexS_fn _ _ (by omega)) y37 (oc (oT rfl) (oc (oT rfl) oN)) pR) (fun _ _ _ _ h => h)
            · exact rmv rfl
           case h =>
            rw [optM_lkp, hix1, hix2]
            refine oA (aC (extend_fn (lkp a.2.1 (byLab l)) r (ix (varsL v.2.2.2.1) a.1) (ix (varsL v.2.2.2.1) a.2.2) g8_0 vi ((rows.take i).flatMap (fun r => ext (lkp a.2.1 (byLab l)) r (ix (varsL v.2.2.2.1) a.1) (ix (varsL v.2.2.2.1) a.2.2))) hl1 hl2 hl3 (by omega) (by omega) (idx_small l (by omega) a.2.1)) y71 (oc (oT rfl) (oc (oT rfl) (oc (oT rfl) (oc (oT rfl) (oc (oT rfl) oN))))) (perm2_at 0 0 rfl rfl)) (perm2_at 0 0 rfl rfl) rfl rfl (fun p hp => ?_)
            refine oP (pu_not (oT rfl)) rfl (tn (nn (tc (oT rfl) (fun c51 => ?_) (fun c51 => ?_))))
            · have hg : ¬ ((rows.take i).flatMap (fun r => ext (lkp a.2.1 (byLab l)) r (ix (varsL v.2.2.2.1) a.1) (ix (varsL v.2.2.2.1) a.2.2))).length + ((fun r => ext (lkp a.2.1 (byLab l)) r (ix (varsL v.2.2.2.1) a.1) (ix (varsL v.2.2.2.1) a.2.2)) r).length ≤ 3000 := by simpa [goodN] using c51
              refine sq (te en (rg (ak rfl (ak rfl (tn (nn (tR (block_ret (tt (tt (block_ret (tt (block_ret (tt (tt (block_ret (tt ?_)))))))))))))))))
              exact ret_two .ret (.inl rfl) rfl ([], 5) (OT.conv (oT rfl) (fun H u h => nil_slt h)) (oT rfl) (fun _ _ h => h) (.inr (.inl ⟨hok, many_at hka haa hrows hir hrr hg, rfl⟩)) (by exact pn)
            · have hg : ((rows.take i).flatMap (fun r => ext (lkp a.2.1 (byLab l)) r (ix (varsL v.2.2.2.1) a.1) (ix (varsL v.2.2.2.1) a.2.2))).length + ((fun r => ext (lkp a.2.1 (byLab l)) r (ix (varsL v.2.2.2.1) a.1) (ix (varsL v.2.2.2.1) a.2.2)) r).length ≤ 3000 := by simpa [goodN] using c51
              refine sk (bn (nn (te (ec 6 rfl (ec 7 rfl (ec 10 rfl (ec 11 rfl (ec 12 rfl (ec 23 rfl (ec 24 rfl (ec 25 rfl (ec 30 rfl (ec 31 rfl (ec 32 rfl en))))))))))) (rg (oP (pad (oT rfl) ot (by omega)) rfl (mv rfl rfl (tn (nn ?_))))))))
              exact tg (i + 1, p.1) ⟨by show i + 1 ≤ rows.length; omega, by rw [hst, List.length_append]; exact hg⟩ (by show rows.length - (i + 1) < rows.length - i; omega) (ea (ec 32 rfl en) (ec 6 rfl (ec 7 rfl (ec 10 rfl (ec 11 rfl (ec 12 rfl (ec 23 rfl (ec 24 rfl (ec 25 rfl (ec 30 rfl (ec 31 rfl en))))))))))) (op (by rw [hst, ← hp hg]; exact (by repeat first | exact pn | refine pc 0 rfl ?_)))
         · refine tr_exit (tx (tx (bh (nn (te (ec 6 rfl (ec 7 rfl (ec 11 rfl (ec 23 rfl (ec 24 rfl (ec 25 rfl en)))))) ?_)))))
           obtain rfl : i = rows.length := by simp only [decide_eq_false_iff_not] at c33; omega
           rw [List.take_length] at hin ⊢
           have hnx : rowsK (byLab l) (varsL v.2.2.2.1) (v.2.2.2.1.take (k + 1)) = rows.flatMap (fun r => ext (lkp a.2.1 (byLab l)) r (ix (varsL v.2.2.2.1) a.1) (ix (varsL v.2.2.2.1) a.2.2)) := by rw [rows_take hka, haa, hrows]; rfl
           refine rg (oP (pu_load_rawv (oT rfl) (by exact mA 0 rfl) y25) rfl ?_)
           refine av rfl rfl (tn (tr_freeze (perm_at 1 rfl) 8 (oT rfl) (bn (nn (te (ec 6 rfl (ec 7 rfl (ec 8 rfl (ec 23 rfl (ec 24 rfl (ec 25 rfl en)))))) (rg (oP (pad (oT rfl) ot (by omega)) rfl (mv rfl rfl (tn (nn ?_))))))))))
           exact tg (k + 1) ⟨by omega, caps_next hcaps (by rw [hnx]; exact hin)⟩ (by omega) (ea (ec 25 rfl (es_cons (t := 8) (OT.eq (oT rfl) (congrArg (SlT kT) hnx.symm)) en)) (ec 6 rfl (ec 7 rfl (ec 23 rfl (ec 24 rfl en))))) (op (by repeat first | exact pn | refine pc 2 rfl ?_))
     · refine tr_exit (tx (tx (bh (nn (sq (te (ec 8 rfl en) ?_))))))
       obtain rfl : k = v.2.2.2.1.length := by simp only [decide_eq_false_iff_not] at c26; omega
       have hsm : Small (rowsK (byLab l) (varsL v.2.2.2.1) v.2.2.2.1) := ⟨by have := hcaps _ (Nat.le_refl _); rw [List.take_length] at this; omega, fun r hr => by have := rows_all_len l hal8 v.2.2.2.1.length r (by rw [List.take_length]; exact hr); omega⟩
       rw [List.take_length]
       refine rg (mv rfl rfl (oA (acts_callM (Set_fn (K0 := noK) (n0 := 0) _ hsm) mk_none y72 (oc (oT rfl) oN) pR) pR rfl rfl (fun _ _ => ?_)))
       refine av rfl rfl (ak rfl (tn (nn (tR ?_))))
       exact ret_two .ret (.inl rfl) rfl (setR (rowsK (byLab l) (varsL v.2.2.2.1) v.2.2.2.1), 0) (OT.unfr2 (oT rfl)) (oT rfl) (fun _ _ h => h) (.inr (.inr ⟨hok, not_many hcaps, rfl⟩)) (by exact pn)
end Go.Proofs.YtaahhghlpoiihaaGreatDoor
/- How often each tuple comes in a list that rises. Plain Lean. -/
namespace Go.Jn
open Go Go.Gw Go.Tu
set_option linter.unusedVariables false
set_option linter.unusedSimpArgs false
abbrev SortL (xs : List Tp) : Prop := xs.Pairwise fun x y => cmpL x y ≤ 0
def cntL (xs : List Tp) : List Int := (dd xs).map fun t => (xs.count t : Int)
theorem cntL_len (xs : List Tp) : (cntL xs).length = (dd xs).length := by unfold cntL; rw [List.length_map]
section
variable {xs : List Tp} {k : Nat}
theorem sort_at (hs : SortL xs) {i j : Nat} (hi : i < j) (hj : j < xs.length) : cmpL (at' xs (i : Int)) (at' xs (j : Int)) ≤ 0 := by
 rw [at'_nat (show i < xs.length by omega), at'_nat hj]
 exact List.pairwise_iff_getElem.1 hs i j (by omega) hj hi
theorem cmp_anti {a b : Tp} (h1 : cmpL a b ≤ 0) (h2 : cmpL b a ≤ 0) : a = b := by
 have := cmp_neg a b
 exact cmp_eq.1 (by omega)
theorem sort_take (hs : SortL xs) (k : Nat) : SortL (xs.take k) := hs.sublist (List.take_sublist _ _)
theorem dd_nodup (hs : SortL xs) : (dd xs).Nodup := (dd_rises hs).imp fun {a b} h e => by subst e; rw [cmp_self] at h; omega
theorem prev_at (h : k + 1 < xs.length) : at' xs (((k + 1 : Nat) : Int) - 1) = at' xs (k : Int) := by congr 1; omega
theorem dd_last : ∀ {k : Nat}, k < xs.length → dd (xs.take (k + 1)) ≠ [] ∧ at' (dd (xs.take (k + 1))) (((dd (xs.take (k + 1))).length : Int) - 1) = at' xs (k : Int)
 | 0, h => by
  have e : xs.take (0 + 1) = [at' xs ((0 : Nat) : Int)] := by rw [at'_nat h, List.take_succ_eq_append_getElem h]; simp
  rw [e, dd_one (by simp)]
  exact ⟨by simp, rfl⟩
 | k + 1, h => by
  obtain ⟨h1, h2⟩ := dd_last (k := k) (by omega)
  have hst := dd_step (xs := xs) (m := k + 1) (by omega) h
  rw [prev_at h] at hst
  split at hst
  · rename_i he
    rw [hst]; exact ⟨h1, h2.trans he⟩
  · rw [hst]
    refine ⟨by simp, ?_⟩
    rw [List.length_append, List.length_singleton]
    have e : (((dd (xs.take (k + 1))).length + 1 : Nat) : Int) - 1 = ((dd (xs.take (k + 1))).length : Int) := by omega
    rw [e, at'_nat (by simp)]
    simp
theorem count_take {t : Tp} (h : k < xs.length) : (xs.take (k + 1)).count t = (xs.take k).count t + if at' xs (k : Int) = t then 1 else 0 := by
 rw [at'_nat h, List.take_succ_eq_append_getElem h, List.count_append]
 congr 1
 rw [List.count_singleton]
 simp
theorem cnt_new (hs : SortL xs) (h : k < xs.length) (hne : k = 0 ∨ at' xs ((k : Int) - 1) ≠ at' xs (k : Int)) : dd (xs.take (k + 1)) = dd (xs.take k) ++ [at' xs (k : Int)] ∧ cntL (xs.take (k + 1)) = cntL (xs.take k) ++ [1] := by
 have hno : at' xs (k : Int) ∉ xs.take k := by
  intro hm
  obtain ⟨i, hi, he⟩ := List.getElem_of_mem hm
  rw [List.length_take] at hi
  have hik : i < k := by omega
  have he2 : at' xs (i : Int) = at' xs (k : Int) := by
   rw [List.getElem_take] at he
   rw [at'_nat (show i < xs.length by omega)]; exact he
  rcases hne with h0 | h0
  · omega
  · have e1 : ((k : Int) - 1) = ((k - 1 : Nat) : Int) := by omega
    rw [e1] at h0
    refine h0 (cmp_anti (sort_at hs (by omega) h) ?_)
    rcases Nat.lt_or_ge i (k - 1) with h1 | h1
    · rw [← he2]; exact sort_at hs h1 (by omega)
    · have : i = k - 1 := by omega
      subst this
      rw [← he2, cmp_self]; exact Int.le_refl _
 have hdd : dd (xs.take (k + 1)) = dd (xs.take k) ++ [at' xs (k : Int)] := by
  rcases Nat.eq_zero_or_pos k with h0 | h0
  · subst h0
    rw [at'_nat h, List.take_succ_eq_append_getElem h]
    simp only [List.take_zero, List.nil_append]
    rw [dd_one (by simp)]; rfl
  · have hst := dd_step (xs := xs) (m := k) h0 h
    rw [if_neg (hne.resolve_left (by omega))] at hst
    exact hst
 refine ⟨hdd, ?_⟩
 unfold cntL
 rw [hdd, List.map_append]
 have c0 : (xs.take k).count (at' xs (k : Int)) = 0 := List.count_eq_zero.2 hno
 congr 1
 · refine List.map_congr_left fun t ht => ?_
   rw [count_take h, if_neg (show ¬ at' xs (k : Int) = t from fun e => hno (by rw [e]; exact dd_mem.1 ht))]; rfl
 · simp [count_take h, c0]
theorem cnt_same (hs : SortL xs) (h : k + 1 < xs.length) (he : at' xs (k : Int) = at' xs ((k + 1 : Nat) : Int)) : dd (xs.take (k + 1 + 1)) = dd (xs.take (k + 1)) ∧
 cntL (xs.take (k + 1 + 1)) = (cntL (xs.take (k + 1))).set ((dd (xs.take (k + 1))).length - 1) (at' (cntL (xs.take (k + 1))) (((dd (xs.take (k + 1))).length : Int) - 1) + 1) := by
 have hst := dd_step (xs := xs) (m := k + 1) (by omega) h
 rw [prev_at h, if_pos he] at hst
 refine ⟨hst, ?_⟩
 obtain ⟨hn, hl⟩ := dd_last (xs := xs) (k := k) (by omega)
 have hnd := dd_nodup (sort_take hs (k + 1))
 unfold cntL
 rw [hst]
 generalize hD : dd (xs.take (k + 1)) = D at hn hl hnd
 have hlen : 0 < D.length := by cases D with
  | nil => exact absurd rfl hn
  | cons a l => simp
 have hi : ((D.length : Int) - 1) = ((D.length - 1 : Nat) : Int) := by omega
 rw [hi] at hl ⊢
 have hlt : D.length - 1 < D.length := by omega
 rw [at'_nat hlt] at hl
 rw [at'_nat (by rw [List.length_map]; exact hlt), List.getElem_map]
 apply List.ext_getElem
 · simp
 · intro i h1 h2
   rw [List.length_map] at h1
   rw [List.getElem_map, count_take h, List.getElem_set]
   by_cases hii : D.length - 1 = i
   · subst hii
     rw [if_pos rfl, if_pos (by rw [← he, hl])]
     omega
   · rw [if_neg hii, if_neg, List.getElem_map]
     · simp
     · intro e
       rw [← he, ← hl] at e
       exact hii ((List.getElem_inj hnd).1 e)
end
theorem cntL_all {all rs : List Tp} (hp : rs.Perm all) (hs : SortL rs) : dd rs = setR all ∧ cntL rs = countsOf all := by
 have h1 := dd_set hp hs
 refine ⟨h1, ?_⟩
 unfold cntL countsOf
 rw [h1]
 exact List.map_congr_left fun t _ => by rw [hp.count_eq]
theorem setR_idem (l : List Tp) : setR (setR l) = setR l := (setR_unique (setR_spec l).1 fun x => Iff.rfl).symm
end Go.Jn
namespace Go.Jn
open Go Go.Gw Go.Tu
theorem res_err {v : Vw} {l : List Ed} {r : List Tp × Int} (h : RowsSay v l r) (h0 : r.2 ≠ 0) : ResSay v l ([], [], r.2) := by
 rcases h with ⟨h1, rfl⟩ | ⟨h1, h2, rfl⟩ | ⟨h1, h2, rfl⟩
 · exact .inl ⟨h1, rfl⟩
 · exact .inr (.inl ⟨h1, h2, rfl⟩)
 · exact absurd rfl h0
theorem rows_ok {v : Vw} {l : List Ed} {r : List Tp × Int} (h : RowsSay v l r) (h0 : r.2 = 0) : okV v = true ∧ ¬ tooMany l v.2.2.2.1 ∧ r.1 = setR (rowsK (byLab l) (varsL v.2.2.2.1) v.2.2.2.1) := by
 rcases h with ⟨h1, rfl⟩ | ⟨h1, h2, rfl⟩ | ⟨h1, h2, rfl⟩
 · cases h0
 · cases h0
 · exact ⟨h1, h2, rfl⟩
theorem rows_facts {v : Vw} {l : List Ed} {rows : List Tp} (hok : okV v = true) (hn : ¬ tooMany l v.2.2.2.1) (hr : rows = setR (rowsK (byLab l) (varsL v.2.2.2.1) v.2.2.2.1)) :
 rows.length ≤ 3000 ∧ (∀ r ∈ rows, r.length = (varsL v.2.2.2.1).length) ∧ v.2.2.1.length ≤ 6 ∧ (varsL v.2.2.2.1).length ≤ 16 ∧ ∀ o ∈ v.2.2.1, o ∈ varsL v.2.2.2.1 := by
 obtain ⟨_, h1, h2, h3⟩ := okV_pat (v := v) (by rw [hok]; rfl)
 have hvl := varsL_len v.2.2.2.1
 refine ⟨?_, fun r hrm => ?_, h1, by omega, fun o ho => ?_⟩
 · have h4 : ¬ 3000 < (rowsK (byLab l) (varsL v.2.2.2.1) (v.2.2.2.1.take v.2.2.2.1.length)).length := fun e => hn ⟨_, Nat.le_refl _, e⟩
   rw [List.take_length] at h4
   have := setR_len (rowsK (byLab l) (varsL v.2.2.2.1) v.2.2.2.1)
   rw [hr]; omega
 · rw [hr] at hrm
   have := ((setR_spec _).2 r).1 hrm
   have h5 := rows_len l (al := v.2.2.2.1) (k := v.2.2.2.1.length) (r := r) (by rw [List.take_length]; exact this)
   rwa [List.take_length] at h5
 · have h6 := hok
   unfold okV outB at h6
   simp only [Bool.and_eq_true, List.all_eq_true] at h6
   simpa using h6.2.1 o ho
theorem cnt_bound (xs : List Tp) (i : Int) : 0 ≤ at' (cntL xs) i ∧ at' (cntL xs) i ≤ xs.length := by
 unfold at'
 rw [List.getD_eq_getElem?_getD]
 cases e : (cntL xs)[i.toNat]? with
 | none => exact ⟨Int.le_refl _, Int.natCast_nonneg _⟩
 | some x =>
  unfold cntL at e
  rw [List.getElem?_map] at e
  cases e2 : (dd xs)[i.toNat]? with
  | none => rw [e2] at e; cases e
  | some t =>
   rw [e2] at e
   cases e
   have := List.count_le_length (a := t) (l := xs)
   simp only [Option.getD_some]; omega
theorem grp_yes {rs : List Tp} {k : Nat} {t : Tp} (h : k < rs.length) (ht : at' rs (k : Int) = t) (hc : (decide ((0 : Int) < (dd (rs.take k)).length) && decide (cmpL (at' (dd (rs.take k)) (((dd (rs.take k)).length : Int) - 1)) t = 0)) = true) : ∃ k', k = k' + 1 ∧ at' rs (k' : Int) = at' rs ((k' + 1 : Nat) : Int) := by
 simp only [Bool.and_eq_true, decide_eq_true_eq] at hc
 match k, h, ht, hc with
 | 0, h, ht, hc => simp [dd] at hc
 | k' + 1, h, ht, hc => exact ⟨k', rfl, (dd_last (by omega)).2.symm.trans ((cmp_eq.1 hc.2).trans ht.symm)⟩
theorem grp_no {rs : List Tp} {k : Nat} {t : Tp} (h : k < rs.length) (ht : at' rs (k : Int) = t) (hc : (decide ((0 : Int) < (dd (rs.take k)).length) && decide (cmpL (at' (dd (rs.take k)) (((dd (rs.take k)).length : Int) - 1)) t = 0)) = false) : k = 0 ∨ at' rs ((k : Int) - 1) ≠ at' rs (k : Int) := by
 match k, h, ht, hc with
 | 0, _, _, _ => exact .inl rfl
 | k' + 1, h, ht, hc =>
  right
  rw [prev_at h]
  intro e
  obtain ⟨h1, h2⟩ := dd_last (xs := rs) (k := k') (by omega)
  have h3 : 0 < (dd (rs.take (k' + 1))).length := by cases hd : dd (rs.take (k' + 1)) with
   | nil => exact absurd hd h1
   | cons a l => simp
  have h4 : cmpL (at' (dd (rs.take (k' + 1))) (((dd (rs.take (k' + 1))).length : Int) - 1)) t = 0 := cmp_eq.2 (h2.trans (e.trans ht))
  have h5 : decide ((0 : Int) < (dd (rs.take (k' + 1))).length) = true := decide_eq_true (by omega)
  rw [h4, h5] at hc
  exact absurd hc (by decide)
end Go.Jn
/- The order of atoms, of edges; more edges: what rows and results are then. Plain Lean. -/
namespace Go.Jn
open Go Go.Gw Go.Tu
set_option linter.unusedVariables false
set_option linter.unusedSimpArgs false
abbrev ats (v : Vw) : List Atm := v.2.2.2.1
abbrev outs (v : Vw) : List Lab := v.2.2.1
def rowsV (v : Vw) (l : List Ed) : List Tp := rowsK (byLab l) (varsL (ats v)) (ats v)
theorem rowsV_spec (v : Vw) (l : List Ed) : (rowsV v l).Nodup ∧ ∀ r, r ∈ rowsV v l ↔ r.length = (varsL (ats v)).length ∧ Sat l (varsL (ats v)) (ats v) r := rows_spec l (ats v) (List.prefix_refl _)
theorem perm_mem {α : Type} [DecidableEq α] {l m : List α} (h1 : l.Nodup) (h2 : m.Nodup) (h : ∀ x, x ∈ l ↔ x ∈ m) : l.Perm m := (List.perm_ext_iff_of_nodup h1 h2).2 h
theorem map_nodup {α β : Type} {f : α → β} {l : List α} (hl : l.Nodup) (hf : ∀ a ∈ l, ∀ b ∈ l, f a = f b → a = b) : (l.map f).Nodup := by
 induction l with
 | nil => exact List.nodup_nil
 | cons a l ih =>
  obtain ⟨h1, h2⟩ := List.nodup_cons.1 hl
  rw [List.map_cons]
  refine List.nodup_cons.2 ⟨fun h => ?_, ih h2 fun x hx y hy => hf x (List.mem_cons_of_mem _ hx) y (List.mem_cons_of_mem _ hy)⟩
  obtain ⟨b, hb, e⟩ := List.mem_map.1 h
  have := hf b (List.mem_cons_of_mem _ hb) a List.mem_cons_self e
  subst this; exact h1 hb
theorem setR_nodup (l : List Tp) : (setR l).Nodup := (setR_spec l).1.imp fun {a b} h e => by subst e; rw [cmp_self] at h; omega
theorem Sat.congr {l l' : List Ed} {V W : List Lab} {al bl : List Atm} {r s : Tp} (h : Sat l V al r) (hA : ∀ a ∈ bl, a ∈ al) (hE : ∀ e ∈ l, e ∈ l') (he : ∀ a ∈ bl, env W s a.1 = env V r a.1 ∧ env W s a.2.2 = env V r a.2.2) : Sat l' W bl s := fun a ha => by
 rw [(he a ha).1, (he a ha).2]
 exact hE _ (h a (hA a ha))
section
variable {v w : Vw} {l l' : List Ed}
end
theorem sub_len {α : Type} [DecidableEq α] {l m : List α} (h1 : l.Nodup) (h : ∀ x ∈ l, x ∈ m) (h2 : m.Nodup) : l.length ≤ m.length := by
 have hp : l.Perm (m.filter fun x => decide (x ∈ l)) := perm_mem h1 (h2.sublist List.filter_sublist) fun x => by
  rw [List.mem_filter]; simp only [decide_eq_true_eq]; exact ⟨fun hx => ⟨h x hx, hx⟩, fun hx => hx.2⟩
 rw [hp.length_eq]; exact List.length_filter_le _ _
section
variable {v : Vw} {l : List Ed} {m : Ed}
end
end Go.Jn
/- A pattern beside itself with other names; a great pattern. Plain Lean. -/
namespace Go.Jn
open Go Go.Gw Go.Tu
set_option linter.unusedVariables false
set_option linter.unusedSimpArgs false
def turnB (b : UInt8) : UInt8 := UInt8.ofNat (97 + (b.toNat - 97 + 13) % 26)
def turnL : Lab → Lab
 | [] => []
 | b :: t => turnB b :: t
def tA (a : Atm) : Atm := (turnL a.1, a.2.1, turnL a.2.2)
theorem turnB_nat (b : UInt8) : (turnB b).toNat = 97 + (b.toNat - 97 + 13) % 26 := by
 unfold turnB
 have : (b.toNat - 97 + 13) % 26 < 26 := Nat.mod_lt _ (by decide)
 simp; omega
theorem low_iff {b : UInt8} : isLow b = true ↔ 97 ≤ b.toNat ∧ b.toNat ≤ 122 := by unfold isLow; simp
theorem turnB_inj {b c : UInt8} (hb : isLow b = true) (hc : isLow c = true) (h : turnB b = turnB c) : b = c := by
 have e := congrArg UInt8.toNat h
 rw [turnB_nat, turnB_nat] at e
 rw [low_iff] at hb hc
 exact UInt8.toNat_inj.1 (by omega)
theorem name_iff {s : Lab} : nameB s = true ↔ 0 < s.length ∧ s.length ≤ 16 ∧ ∀ b ∈ s, isLow b = true := by unfold nameB; simp [and_assoc]
theorem turnL_inj {s t : Lab} (hs : nameB s = true) (ht : nameB t = true) (h : turnL s = turnL t) : s = t := by
 rw [name_iff] at hs ht
 cases s with
 | nil => simp at hs
 | cons b s =>
  cases t with
  | nil => simp at ht
  | cons c t =>
   simp only [turnL, List.cons.injEq] at h
   rw [turnB_inj (hs.2.2 b List.mem_cons_self) (ht.2.2 c List.mem_cons_self) h.1, h.2]
theorem addV_app {V out : List Lab} {x : Lab} (h : x ∉ V) : addV (V ++ out) x = V ++ addV out x := by
 unfold addV
 by_cases hx : x ∈ out
 · rw [if_pos (by simp [hx]), if_pos (by simpa using hx)]
 · rw [if_neg (by simp [h, hx]), if_neg (by simpa using hx), List.append_assoc]
theorem vars_app {V : List Lab} : ∀ (B : List Atm) (out : List Lab), (∀ b ∈ B, b.1 ∉ V ∧ b.2.2 ∉ V) → B.foldl addA (V ++ out) = V ++ B.foldl addA out
 | [], out, _ => rfl
 | b :: B, out, h => by
  have h1 := h b List.mem_cons_self
  rw [List.foldl_cons, List.foldl_cons, addA, addV_app h1.1, addV_app h1.2, vars_app B _ fun c hc => h c (List.mem_cons_of_mem _ hc)]
  rfl
theorem vars_two {A B : List Atm} (h : ∀ b ∈ B, b.1 ∉ varsL A ∧ b.2.2 ∉ varsL A) : varsL (A ++ B) = varsL A ++ varsL B := by
 have := vars_app B [] h
 rw [List.append_nil] at this
 unfold varsL at this ⊢
 rw [List.foldl_append]; exact this
theorem addV_map {out : List Lab} {x : Lab} (hi : ∀ y ∈ out, turnL y = turnL x → y = x) : addV (out.map turnL) (turnL x) = (addV out x).map turnL := by
 unfold addV
 by_cases hx : x ∈ out
 · rw [if_pos (by simpa using ⟨x, hx, rfl⟩), if_pos (by simpa using hx)]
 · rw [if_neg, if_neg (by simpa using hx), List.map_append]; rfl
   simp only [List.contains_iff_mem, List.mem_map, not_exists, not_and]
   exact fun y hy e => hx (hi y hy e ▸ hy)
theorem vars_map : ∀ (B : List Atm) (out : List Lab), (∀ y ∈ out, nameB y = true) → (∀ b ∈ B, nameB b.1 = true ∧ nameB b.2.2 = true) → (B.map tA).foldl addA (out.map turnL) = (B.foldl addA out).map turnL
 | [], out, _, _ => rfl
 | b :: B, out, ho, hB => by
  obtain ⟨n1, n2⟩ := hB b List.mem_cons_self
  rw [List.map_cons, List.foldl_cons, List.foldl_cons]
  have h1 : ∀ y ∈ addV out b.1, nameB y = true := fun y hy => by rcases addV_mem.1 hy with h | h; exact ho y h; rw [h]; exact n1
  have h2 : ∀ y ∈ addA out b, nameB y = true := fun y hy => by rcases addV_mem.1 hy with h | h; exact h1 y h; rw [h]; exact n2
  rw [show addA (out.map turnL) (tA b) = (addA out b).map turnL from by
   unfold addA tA
   rw [addV_map fun y hy e => turnL_inj (ho y hy) n1 e, addV_map fun y hy e => turnL_inj (h1 y hy) n2 e]]
  exact vars_map B _ h2 fun c hc => hB c (List.mem_cons_of_mem _ hc)
theorem vars_turn {A : List Atm} (hA : ∀ b ∈ A, nameB b.1 = true ∧ nameB b.2.2 = true) : varsL (A.map tA) = (varsL A).map turnL := vars_map A [] (fun y hy => by cases hy) hA
theorem idx_map {V : List Lab} {x : Lab} (hx : x ∈ V) (hi : ∀ y ∈ V, turnL y = turnL x → y = x) : (V.map turnL).idxOf (turnL x) = V.idxOf x := by
 induction V with
 | nil => cases hx
 | cons y V ih =>
  rw [List.map_cons, List.idxOf_cons, List.idxOf_cons]
  by_cases e : y = x
  · subst e; simp
  · have e2 : ¬ turnL y = turnL x := fun h => e (hi y List.mem_cons_self h)
    simp only [beq_iff_eq, e, e2, if_false, cond_false, beq_eq_false_iff_ne.2 e, beq_eq_false_iff_ne.2 e2]
    rcases List.mem_cons.1 hx with h | h
    · exact absurd h.symm e
    · rw [ih h fun z hz => hi z (List.mem_cons_of_mem _ hz)]
section
variable {v w : Vw} {l : List Ed}
structure Prod2 (v w : Vw) : Prop where
 nm : w.1 = v.1
 kd : w.2.1 = v.2.1
 out : outs w = outs v
 lb : w.2.2.2.2 = v.2.2.2.2
 at_ : ats w = ats v ++ (ats v).map tA
 few : (ats v).length ≤ 3
 ok : okV v = true
 no : ∀ x ∈ (ats v).map tA, ∀ y ∈ ats v, x.1 ≠ y.1 ∧ x.1 ≠ y.2.2 ∧ x.2.2 ≠ y.1 ∧ x.2.2 ≠ y.2.2
theorem names_of (h : okV v = true) : ∀ b ∈ ats v, nameB b.1 = true ∧ nameB b.2.1 = true ∧ nameB b.2.2 = true := by
 unfold okV patB at h
 simp only [Bool.and_eq_true, List.all_eq_true] at h
 intro b hb
 have := h.1.2.2 b hb
 exact ⟨this.1.1, this.1.2, this.2⟩
theorem Prod2.vars (h : Prod2 v w) : varsL (ats w) = varsL (ats v) ++ (varsL (ats v)).map turnL := by
 have hn := names_of h.ok
 rw [h.at_, vars_two, vars_turn fun b hb => ⟨(hn b hb).1, (hn b hb).2.2⟩]
 intro b hb
 refine ⟨fun hm => ?_, fun hm => ?_⟩
 · obtain ⟨a, ha, e⟩ := varsL_mem.1 hm
   have := h.no b hb a ha
   rcases e with e | e
   · exact this.1 e
   · exact this.2.1 e
 · obtain ⟨a, ha, e⟩ := varsL_mem.1 hm
   have := h.no b hb a ha
   rcases e with e | e
   · exact this.2.2.1 e
   · exact this.2.2.2 e
theorem var_name (h : okV v = true) {x : Lab} (hx : x ∈ varsL (ats v)) : nameB x = true := by
 obtain ⟨a, ha, e⟩ := varsL_mem.1 hx
 have := names_of h a ha
 rcases e with rfl | rfl
 · exact this.1
 · exact this.2.2
theorem Prod2.apart (h : Prod2 v w) {x : Lab} (hx : x ∈ varsL (ats v)) : turnL x ∉ varsL (ats v) := by
 intro hm
 have hd := varsL_nodup (ats w)
 rw [h.vars] at hd
 exact (List.nodup_append.1 hd).2.2 _ hm _ (List.mem_map_of_mem hx) rfl
theorem env_left {V W : List Lab} {r s : Tp} {x : Lab} (hl : r.length = V.length) (hx : x ∈ V) : env (V ++ W) (r ++ s) x = env V r x := by
 unfold env ix
 have h1 := List.idxOf_lt_length_of_mem hx
 rw [List.idxOf_append, if_pos hx, List.getD_eq_getElem?_getD, List.getD_eq_getElem?_getD, List.getElem?_append_left (by omega)]
theorem env_right {V W : List Lab} {r s : Tp} {x : Lab} (hl : r.length = V.length) (hx : x ∉ V) : env (V ++ W) (r ++ s) x = env W s x := by
 unfold env ix
 rw [List.idxOf_append, if_neg hx, List.getD_eq_getElem?_getD, List.getD_eq_getElem?_getD, List.getElem?_append_right (by omega)]
 congr 2; omega
theorem env_turn {V : List Lab} {s : Tp} {x : Lab} (hx : x ∈ V) (hn : ∀ y ∈ V, nameB y = true) : env (V.map turnL) s (turnL x) = env V s x := by
 unfold env ix
 rw [idx_map hx fun y hy e => turnL_inj (hn y hy) (hn x hx) e]
theorem Prod2.rows (h : Prod2 v w) : (rowsV w l).Perm ((rowsV v l).flatMap fun r => (rowsV v l).map fun s => r ++ s) := by
 obtain ⟨n1, s1⟩ := rowsV_spec v l
 obtain ⟨n2, s2⟩ := rowsV_spec w l
 have hv := h.vars
 have hnm : ∀ y ∈ varsL (ats v), nameB y = true := fun y hy => var_name h.ok hy
 refine perm_mem n2 (nodup_flat (fun r hr => map_nodup n1 fun a ha b hb e => by simpa using e) ?_) fun t => ?_
 · refine n1.imp_of_mem ?_
   intro a b ha hb hne x hx hx2
   obtain ⟨s, hs, rfl⟩ := List.mem_map.1 hx
   obtain ⟨s', hs', e⟩ := List.mem_map.1 hx2
   have l1 := ((s1 a).1 ha).1
   have l2 := ((s1 b).1 hb).1
   exact hne (List.append_inj_left e (by omega)).symm
 · rw [s2, List.mem_flatMap]
   constructor
   · rintro ⟨h1, h2⟩
     rw [hv, List.length_append, List.length_map] at h1
     have hl1 : (t.take (varsL (ats v)).length).length = (varsL (ats v)).length := by rw [List.length_take]; omega
     have hl2 : (t.drop (varsL (ats v)).length).length = (varsL (ats v)).length := by rw [List.length_drop]; omega
     have ht := List.take_append_drop (varsL (ats v)).length t
     refine ⟨t.take (varsL (ats v)).length, (s1 _).2 ⟨hl1, fun a ha => ?_⟩, List.mem_map.2 ⟨t.drop (varsL (ats v)).length, (s1 _).2 ⟨hl2, fun a ha => ?_⟩, ht⟩⟩
     · have h3 := h2 a (by rw [h.at_]; exact List.mem_append_left _ ha)
       rw [hv, ← ht, env_left hl1 (varsL_mem.2 ⟨a, ha, .inl rfl⟩), env_left hl1 (varsL_mem.2 ⟨a, ha, .inr rfl⟩)] at h3
       exact h3
     · have h3 := h2 (tA a) (by rw [h.at_]; exact List.mem_append_right _ (List.mem_map_of_mem ha))
       have m1 : a.1 ∈ varsL (ats v) := varsL_mem.2 ⟨a, ha, .inl rfl⟩
       have m2 : a.2.2 ∈ varsL (ats v) := varsL_mem.2 ⟨a, ha, .inr rfl⟩
       unfold tA at h3
       rw [hv, ← ht, env_right hl1 (h.apart m1), env_right hl1 (h.apart m2), env_turn m1 hnm, env_turn m2 hnm] at h3
       exact h3
   · rintro ⟨r, hr, ht⟩
     obtain ⟨s, hs, rfl⟩ := List.mem_map.1 ht
     obtain ⟨l1, q1⟩ := (s1 r).1 hr
     obtain ⟨l2, q2⟩ := (s1 s).1 hs
     rw [hv]
     refine ⟨by simp [l1, l2], fun a ha => ?_⟩
     rw [h.at_] at ha
     rcases List.mem_append.1 ha with ha | ha
     · rw [env_left l1 (varsL_mem.2 ⟨a, ha, .inl rfl⟩), env_left l1 (varsL_mem.2 ⟨a, ha, .inr rfl⟩)]
       exact q1 a ha
     · obtain ⟨b, hb, rfl⟩ := List.mem_map.1 ha
       have m1 : b.1 ∈ varsL (ats v) := varsL_mem.2 ⟨b, hb, .inl rfl⟩
       have m2 : b.2.2 ∈ varsL (ats v) := varsL_mem.2 ⟨b, hb, .inr rfl⟩
       unfold tA
       rw [env_right l1 (h.apart m1), env_right l1 (h.apart m2), env_turn m1 hnm, env_turn m2 hnm]
       exact q2 b hb
end
end Go.Jn
/- A great pattern: n edges and m edges of one node; the document's example. Plain Lean. -/
namespace Go.Jn
open Go Go.Gw Go.Tu
set_option linter.unusedVariables false
set_option linter.unusedSimpArgs false
end Go.Jn
namespace Go.Jn
open Go Go.Gw Go.Tu
def fitsB (v : Vw) (l : List Ed) : Bool := decide ((l.length : Int) ≤ 25) && decide ((v.2.2.2.1.length : Int) ≤ 12) && decide ((v.2.2.1.length : Int) ≤ 12)
end Go.Jn
/- Walks through the Go functions slices.Clip[[]int,int], join.Result, as typed contracts. -/
namespace Go.Proofs.YtaahhghlpoiihaaGreatDoor
open Go Go.Gw Go.So Go.Tu Go.Jn
set_option linter.unusedVariables false
set_option linter.unusedSimpArgs false
set_option maxRecDepth 20000 in
/-- slices.Clip[[]int,int] -/
theorem ClipI_fn (xs : List Int) : Ct Tryz.prog 45 [FreshT noK 0 kI xs] ([]) Unit (fun _ => SlT kI xs) (fun _ => []) (fun _ => True) := by
 refine fn_intro Tryz.func45 rfl rfl ?_
 intro H w
 refine sq (te (ec 0 rfl en) (rg (ak rfl (tn (nn (sq (te (ec 0 rfl en) (rg (mv rfl rfl (mv rfl rfl (tr_as 4 (OT.fresh (oT rfl)) (oP (pls (oT rfl) Tryz.underlying39) rfl (mv rfl rfl (tr_as 6 (OT.fresh (oT rfl)) (oP (pls (oT rfl) Tryz.underlying39) rfl (oP (pu_clip (oT rfl) (oT rfl) (oT rfl) Tryz.underlying39 y2) rfl (av rfl rfl (tn (nn (tR ?_))))))))))))))))))))
 exact ret_one .ret (.inl rfl) rfl () (OT.fresh (OT.unclip (oT rfl))) trivial (by exact pn)
set_option maxRecDepth 20000 in
/-- rhizome/join.Result -/
theorem Result_fn (v : Vw) (l : List Ed) (ho : v.2.2.1.length ≤ maxLen) (ha : v.2.2.2.1.length ≤ maxLen) (hm : l.length ≤ 1000000) : Ct Tryz.prog 23 [kV.T v, SlT kE l] ([]) (List Tp × List Int × Int) (fun r => TupT [SlT kT r.1, SlT kI r.2.1, I64 r.2.2]) (fun _ => []) (fun r => ResSay v l r) := by
 refine fn_intro Tryz.func23 rfl rfl ?_
 intro H w
 have ho0 := ho; have ha0 := ha; unfold maxLen at ho ha
 refine sq (te (ec 0 rfl (ec 1 rfl en)) (rg (oA (acts_box (d := kV) (oT rfl)) pR rfl rfl (fun g0_0 _ => ?_))))
 refine ak rfl (ak rfl (ak rfl (tn (nn (sq (te (ec 1 rfl (ec 2 rfl en)) (rg (oP (plv (oT rfl) (by exact mA 0 rfl) y53) rfl ?_))))))))
 refine mv rfl rfl (oA (aC (Rows_fn _ _ ho0 ha0 (by omega)) y73 (oc (oT rfl) (oc (oT rfl) oN)) pR) pR rfl rfl (fun r1_2 hr1_2 => ?_))
 refine mv rfl rfl (oP (pu_extract (oT rfl) rfl) rfl (oP (pu_extract (oT rfl) rfl) rfl (av rfl rfl (av rfl rfl (tn (nn (sq (sq (te (ec 2 rfl (ec 7 rfl (ec 8 rfl en))) (rg (mv rfl rfl (oP (pu_neq (oT rfl) ot) rfl (tn (nn (tc (oT rfl) (fun c28 => ?_) (fun c28 => ?_))))))))))))))))
 · refine sq (te (ec 8 rfl en) (rg (mv rfl rfl (ak rfl (ak rfl (av rfl rfl (tn (nn (tR (tt ?_))))))))))
   exact ret_three .ret (.inl rfl) rfl ([], [], r1_2.2) (OT.conv (oT rfl) (fun H u h => nil_slt h)) (OT.conv (oT rfl) (fun H u h => nil_slt h)) (oT rfl) (fun _ _ h => h) (res_err hr1_2 (by simpa using c28)) (by exact pn)
 · obtain ⟨hok, hnm, hr1⟩ := rows_ok hr1_2 (by simpa using c28)
   obtain ⟨rows, hrw⟩ : ∃ x, r1_2.1 = x := ⟨_, rfl⟩
   rw [hrw] at hr1
   obtain ⟨hrn, hrl, hol, hvl, hout⟩ := rows_facts hok hnm hr1
   have hal8 := (okV_pat (v := v) (by rw [hok]; rfl)).2.2.2
   refine sk (nn (sq (te (ec 2 rfl (ec 7 rfl en)) ?_)))
   rw [hrw]
   refine rg (oP (plv (oT rfl) (by exact mA 0 rfl) y53) rfl ?_)
   refine oA (aC (Vars_fn _ (by omega)) y54 (oc (oT rfl) oN) pR) pR rfl rfl (fun _ _ => ?_)
   refine av rfl rfl (tn (nn (sq (te (ec 2 rfl (ec 7 rfl (ec 9 rfl en))) (rg (ak rfl (tn (nn (sq (sq (te (ec 2 rfl (ec 7 rfl (ec 9 rfl (ec 10 rfl en)))) (tr_nilItem 58 kT (rg (mv rfl rfl (oP (pls (oT rfl) Tryz.underlying37) rfl (oP (pu_move ot) rfl (tn (nn (tb (tr_loopK (σ := Nat × Value) (ec 2 rfl (ec 9 rfl (ec 32 rfl (ec 33 rfl en)))) (fun s => [(34, I64 (s.1 : Int)), (10, IsV s.2)]) (fun s => [OwnI 58 kT s.2 ((rows.take s.1).map (proj (varsL v.2.2.2.1) v.2.2.1)), BlkI g0_0 25 kV v]) (fun s => s.1 ≤ rows.length) (fun s => rows.length - s.1) (0, nilS) (Nat.zero_le _) ?_ (op (by repeat first | exact pn | refine pc 0 rfl ?_)) ?_))))))))))))))))))))
   · exact (ec 34 rfl (ec 10 rfl en))
   · rintro ⟨i, va⟩ hi
     dsimp only at hi ⊢
     refine sq (te (ec 2 rfl (ec 9 rfl (ec 10 rfl (ec 32 rfl (ec 33 rfl (ec 34 rfl en)))))) (rg (oP (pu_lss (oT rfl) (oT rfl)) rfl (tn (nn (sq (tc (oT rfl) (fun c35 => ?_) (fun c35 => ?_))))))))
     · refine sk (nn (sq (tb (sq (te (ec 2 rfl (ec 9 rfl (ec 10 rfl (ec 32 rfl (ec 33 rfl (ec 34 rfl en)))))) ?_)))))
       have hir : i < rows.length := by simpa using c35
       obtain ⟨row, hrow⟩ : ∃ r, at' rows (i : Int) = r := ⟨_, rfl⟩
       have hrwl := hrl row (by rw [← hrow]; exact at_mem hir)
       have hst2 := map_snoc (proj (varsL v.2.2.2.1) v.2.2.1) hir
       rw [hrow] at hst2
       refine rg (oP (pu_index (oT rfl) (oT rfl) Tryz.underlying37 y0 (by omega) (by omega)) rfl (oP (pL (oT rfl) y0) rfl (av rfl rfl (tn (nn (sq (te (ec 2 rfl (ec 9 rfl (ec 10 rfl (ec 12 rfl (ec 32 rfl (ec 33 rfl (ec 34 rfl en))))))) ?_)))))))
       rw [hrow]
       refine rg (ak rfl (tn (nn (sq (sq (te (ec 2 rfl (ec 9 rfl (ec 10 rfl (ec 12 rfl (ec 13 rfl (ec 32 rfl (ec 33 rfl (ec 34 rfl en)))))))) (tr_nilItem 3 kI (rg (oP (pf (oT rfl) y50) rfl (oP (plb (oT rfl) (by exact mA 2 rfl) lv2 y51) rfl ?_))))))))))
       refine oP (pls (oT rfl) Tryz.underlying22) rfl (oP (pu_move ot) rfl (tn (nn (tb (tr_loopK (σ := Nat × Value) (ec 2 rfl (ec 9 rfl (ec 10 rfl (ec 12 rfl (ec 32 rfl (ec 33 rfl (ec 34 rfl (ec 39 rfl (ec 40 rfl en))))))))) (fun s => [(41, I64 (s.1 : Int)), (13, IsV s.2)]) (fun s => [OwnI 3 kI s.2 ((v.2.2.1.take s.1).map (fun o => env (varsL v.2.2.2.1) row o)), OwnI 58 kT va ((rows.take i).map (proj (varsL v.2.2.2.1) v.2.2.1)), BlkI g0_0 25 kV v]) (fun s => s.1 ≤ v.2.2.1.length) (fun s => v.2.2.1.length - s.1) (0, nilS) (Nat.zero_le _) ?_ (op (by repeat first | exact pn | refine pc 0 rfl ?_)) ?_)))))
       · exact (ec 41 rfl (ec 13 rfl en))
       · rintro ⟨j, vt⟩ hj
         dsimp only at hj ⊢
         refine sq (te (ec 2 rfl (ec 9 rfl (ec 10 rfl (ec 12 rfl (ec 13 rfl (ec 32 rfl (ec 33 rfl (ec 34 rfl (ec 39 rfl (ec 40 rfl (ec 41 rfl en))))))))))) (rg (oP (pu_lss (oT rfl) (oT rfl)) rfl (tn (nn (sq (tc (oT rfl) (fun c42 => ?_) (fun c42 => ?_))))))))
         · refine sk (nn (sq (tb (sq (te (ec 2 rfl (ec 9 rfl (ec 10 rfl (ec 12 rfl (ec 13 rfl (ec 32 rfl (ec 33 rfl (ec 34 rfl (ec 39 rfl (ec 40 rfl (ec 41 rfl en))))))))))) ?_)))))
           have hjo : j < v.2.2.1.length := by simpa using c42
           obtain ⟨o, hoo⟩ : ∃ o, at' v.2.2.1 (j : Int) = o := ⟨_, rfl⟩
           have hoV := hout o (by rw [← hoo]; exact at_mem hjo)
           have hix := ixI_in hoV
           have hixl := ix_lt hoV
           have hst := map_snoc (fun o => env (varsL v.2.2.2.1) row o) hjo
           rw [hoo] at hst
           refine rg (oP (pu_index (oT rfl) (oT rfl) Tryz.underlying22 y36 (by omega) (by omega)) rfl (oP (pL (oT rfl) y36) rfl (av rfl rfl (tn (nn (te (ec 2 rfl (ec 9 rfl (ec 10 rfl (ec 12 rfl (ec 13 rfl (ec 15 rfl (ec 32 rfl (ec 33 rfl (ec 34 rfl (ec 39 rfl (ec 40 rfl (ec 41 rfl en)))))))))))) ?_))))))
           rw [hoo]
           refine rg (mv rfl rfl (mv rfl rfl (mv rfl rfl (mv rfl rfl (oA (aC (IndexS_fn _ _ (by omega)) y37 (oc (oT rfl) (oc (oT rfl) oN)) pR) pR rfl rfl (fun _ _ => ?_))))))
           refine oP (pu_index (oT rfl) (oT rfl) Tryz.underlying58 y2 (by omega) (by omega)) rfl ?_
           rw [hix]
           refine oP (pL (oT rfl) y2) rfl (oA (acts_lit (d := kI) (v0 := 0) y28 y2 zI (show 1 * 1 ≤ 16777216 from by decide) (by decide) (fills_arr rfl rfl (by decide) (oT rfl) fills_nil)) pR rfl rfl (fun _ _ => ?_))
           refine oA (acts_append (oT rfl) (by exact pA 0 rfl) (oT rfl) y28 (by (simp; omega)) (by (simp; omega))) (by exact pA 0 rfl) rfl rfl (fun v13_8 _ => ?_)
           refine av rfl rfl (tn (bn (nn (te (ec 2 rfl (ec 9 rfl (ec 10 rfl (ec 12 rfl (ec 13 rfl (ec 32 rfl (ec 33 rfl (ec 34 rfl (ec 39 rfl (ec 40 rfl (ec 41 rfl en))))))))))) (rg (oP (pad (oT rfl) ot (by omega)) rfl (mv rfl rfl (tn (nn ?_)))))))))
           exact tg (j + 1, v13_8) (by show j + 1 ≤ _; omega) (by show v.2.2.1.length - (j + 1) < v.2.2.1.length - j; omega) (ea (ec 41 rfl (ec 13 rfl en)) (ec 2 rfl (ec 9 rfl (ec 10 rfl (ec 12 rfl (ec 32 rfl (ec 33 rfl (ec 34 rfl (ec 39 rfl (ec 40 rfl en)))))))))) (op (by rw [hst]; exact (by repeat first | exact pn | refine pc 0 rfl ?_)))
         · refine tr_exit (tx (tx (bh (nn (te (ec 2 rfl (ec 9 rfl (ec 10 rfl (ec 13 rfl (ec 32 rfl (ec 33 rfl (ec 34 rfl en))))))) ?_)))))
           obtain rfl : j = v.2.2.1.length := by simp only [decide_eq_false_iff_not] at c42; omega
           rw [List.take_length]
           refine rg (mv rfl rfl (mv rfl rfl (tr_freeze (by exact pA 0 rfl) 56 (oT rfl) ?_)))
           refine oA (acts_lit (d := kT) (v0 := []) y29 y0 zT (show 1 * 1 ≤ 16777216 from by decide) (by decide) (fills_arr rfl rfl (by decide) (oT rfl) fills_nil)) pR rfl rfl (fun _ _ => ?_)
           refine oA (acts_append (oT rfl) (by exact pA 0 rfl) (oT rfl) y29 (by (simp; omega)) (by (simp [maxLen]; omega))) (by exact pA 0 rfl) rfl rfl (fun v15_3 _ => ?_)
           refine av rfl rfl (tn (bn (nn (te (ec 2 rfl (ec 9 rfl (ec 10 rfl (ec 32 rfl (ec 33 rfl (ec 34 rfl en)))))) (rg (oP (pad (oT rfl) ot (by omega)) rfl (mv rfl rfl (tn (nn ?_)))))))))
           exact tg (i + 1, v15_3) (by show i + 1 ≤ rows.length; omega) (by show rows.length - (i + 1) < rows.length - i; omega) (ea (ec 34 rfl (ec 10 rfl en)) (ec 2 rfl (ec 9 rfl (ec 32 rfl (ec 33 rfl en))))) (op (by rw [hst2]; exact (by repeat first | exact pn | refine pc 0 rfl ?_)))
     · refine tr_exit (tx (tx (bh (nn (sq (te (ec 10 rfl en) ?_))))))
       obtain rfl : i = rows.length := by simp only [decide_eq_false_iff_not] at c35; omega
       rw [List.take_length]
       obtain ⟨all, hall⟩ : ∃ a, rows.map (proj (varsL v.2.2.2.1) v.2.2.1) = a := ⟨_, rfl⟩
       rw [hall]
       have hallen : all.length ≤ 1000000 := by rw [← hall, List.length_map]; omega
       refine rg (mv rfl rfl (oA (aC (SortT_fn _ _ hallen) y33 (oc (oT rfl) (oc OT.func oN)) (by exact pA 0 rfl)) (by exact pA 0 rfl) rfl rfl (fun rs hrs => ?_)))
       refine tn (nn (sq (te (ec 10 rfl en) ?_)))
       have hrsl : rs.length ≤ 1000000 := by rw [hrs.1.length_eq]; exact hallen
       refine tr_freeze (by exact pA 0 rfl) 10 (oT rfl) ?_
       refine rg (ak rfl (tn (nn (sq (te (ec 10 rfl (ec 16 rfl en)) (rg (ak rfl (tn (nn (sq (sq (te (ec 10 rfl (ec 16 rfl (ec 17 rfl en))) (tr_nilItem 3 kI (tr_nilItem 58 kT ?_))))))))))))))
       refine rg (mv rfl rfl (oP (pls (oT rfl) Tryz.underlying37) rfl (oP (pu_move ot) rfl (tn (nn (tb (tr_loopK (σ := Nat × Value × Value) (ec 62 rfl (ec 63 rfl en)) (fun s => [(64, I64 (s.1 : Int)), (16, IsV s.2.1), (17, IsV s.2.2)]) (fun s => [OwnI 58 kT s.2.1 (dd (rs.take s.1)), OwnI 3 kI s.2.2 (cntL (rs.take s.1)), BlkI g0_0 25 kV v]) (fun s => s.1 ≤ rs.length) (fun s => rs.length - s.1) (0, nilS, nilS) (Nat.zero_le _) ?_ (op (by repeat first | exact pn | refine pc 0 rfl ?_)) ?_)))))))
       · exact (ec 64 rfl (ec 16 rfl (ec 17 rfl en)))
       · rintro ⟨k, vo, vc⟩ hk
         dsimp only at hk ⊢
         refine sq (te (ec 16 rfl (ec 17 rfl (ec 62 rfl (ec 63 rfl (ec 64 rfl en))))) (rg (oP (pu_lss (oT rfl) (oT rfl)) rfl (tn (nn (sq (tc (oT rfl) (fun c65 => ?_) (fun c65 => ?_))))))))
         · refine sk (nn (sq (tb (sq (te (ec 16 rfl (ec 17 rfl (ec 62 rfl (ec 63 rfl (ec 64 rfl en))))) ?_)))))
           have hkr : k < rs.length := by simpa using c65
           obtain ⟨t, ht⟩ : ∃ t, at' rs (k : Int) = t := ⟨_, rfl⟩
           have hdl := dd_len (rs.take k)
           rw [List.length_take] at hdl
           have hcl := cntL_len (rs.take k)
           have hcb := cnt_bound (rs.take k) (((dd (rs.take k)).length : Int) - 1)
           rw [List.length_take] at hcb
           refine rg (oP (pu_index (oT rfl) (oT rfl) Tryz.underlying37 y0 (by omega) (by omega)) rfl (oP (pL (oT rfl) y0) rfl (av rfl rfl (tn (nn (sq (sq (te (ec 16 rfl (ec 17 rfl (ec 19 rfl (ec 62 rfl (ec 63 rfl (ec 64 rfl en)))))) ?_))))))))
           rw [ht]
           refine rg (mv rfl rfl (oP (pu_len_own (oT rfl) (by exact mA 0 rfl) Tryz.underlying37) rfl ?_))
           refine av rfl rfl (tn (nn (sq (te (ec 16 rfl (ec 17 rfl (ec 19 rfl (ec 20 rfl (ec 62 rfl (ec 63 rfl (ec 64 rfl en))))))) (rg (mv rfl rfl (oP (pu_gtr (oT rfl) ot) rfl (mv rfl rfl (oG rfl rfl rfl (gm (oT rfl)) (fun hg => by (have hg1 := hg.2; (try simp only [cq2] at hg1); exact pu_move (oT rfl))) rfl ?_)))))))))
           refine oG rfl rfl rfl (gm (oT rfl)) (fun hg => by (have hg1 := hg.2; (try simp only [cq2] at hg1); exact pu_move (oT rfl))) rfl ?_
           refine oG rfl rfl rfl (gm (oT rfl)) (fun hg => by (have hg1 := hg.2; (try simp only [cq2] at hg1); exact pu_sub' (by exact gu (oT rfl) hg) ot (by omega))) rfl ?_
           refine oG rfl rfl rfl (gm (oT rfl)) (fun hg => by (have hg1 := hg.2; (try simp only [cq2] at hg1); exact pio (by exact gu (oT rfl) hg) (by exact mA 0 rfl) (by exact gu (oT rfl) hg) Tryz.underlying37 y0 (by omega) (by omega))) rfl ?_
           refine oG rfl rfl rfl (gm (oT rfl)) (fun hg => by (have hg1 := hg.2; (try simp only [cq2] at hg1); exact plo (by exact gu (oT rfl) hg) (by exact mA 0 rfl) (by omega) (by omega) y0)) rfl ?_
           refine oG rfl rfl rfl (gm (oT rfl)) (fun hg => by (have hg1 := hg.2; (try simp only [cq2] at hg1); exact pu_move (oT rfl))) rfl ?_
           refine op_gu_acts () rfl rfl rfl (gm (oT rfl)) (fun hg => by (have hg1 := hg.2; (try simp only [cq2] at hg1); exact aC (Cmp_all _ _) y22 (oc (by exact gu (oT rfl) hg) (oc (by exact gu (oT rfl) hg) oN)) pR)) rfl (fun _ _ => ?_)
           refine oG rfl rfl rfl (gm (oT rfl)) (fun hg => by (have hg1 := hg.2; (try simp only [cq2] at hg1); exact pu_eql (by exact gu (oT rfl) hg) ot)) rfl ?_
           refine oP (pu_pick_and (oT rfl) (oT rfl)) rfl (tn (nn (tc (oT rfl) (fun c81 => ?_) (fun c81 => ?_))))
           · obtain ⟨k', rfl, hkk⟩ := grp_yes hkr ht c81
             have hst := cnt_same hrs.2 hkr hkk
             simp only [Bool.and_eq_true, decide_eq_true_eq] at c81
             have hn1 : (((dd (rs.take (k' + 1))).length : Int) - 1).toNat = (dd (rs.take (k' + 1))).length - 1 := by omega
             refine sq (te (ec 16 rfl (ec 17 rfl (ec 20 rfl (ec 62 rfl (ec 63 rfl (ec 64 rfl en)))))) (rg (mv rfl rfl (mv rfl rfl (oP (pu_sub' (oT rfl) ot (by omega)) rfl (oP (pio (oT rfl) (by exact mA 1 rfl) (oT rfl) Tryz.underlying39 y2 (by omega) (by omega)) rfl ?_))))))
             refine oP (plo (oT rfl) (by exact mA 1 rfl) (by omega) (by omega) y2) rfl ?_
             refine oP (pad (oT rfl) ot (by omega)) rfl (oP (pio (oT rfl) (by exact mA 1 rfl) (oT rfl) Tryz.underlying39 y2 (by omega) (by omega)) rfl ?_)
             refine oA (acts_store_own0 (oT rfl) (oT rfl) (by exact pA 1 rfl) (by omega) (by omega) y2) (by exact pA 1 rfl) rfl rfl (fun _ _ => ?_)
             refine tn (nn (tr_exit (tx (bh (nn (te (ec 16 rfl (ec 17 rfl (ec 62 rfl (ec 63 rfl (ec 64 rfl en))))) (rg (oP (pad (oT rfl) ot (by omega)) rfl (mv rfl rfl (tn (nn ?_)))))))))))
             exact tg (k' + 1 + 1, vo, vc) (by show k' + 1 + 1 ≤ rs.length; omega) (by show rs.length - (k' + 1 + 1) < rs.length - (k' + 1); omega) (ea (ec 64 rfl (ec 16 rfl (ec 17 rfl en))) (ec 62 rfl (ec 63 rfl en))) (op (by rw [hst.1, hst.2, ← hn1]; exact (by repeat first | exact pn | refine pc 0 rfl ?_ | refine pc 1 rfl ?_)))
           · have hst := cnt_new hrs.2 hkr (grp_no hkr ht c81)
             rw [ht] at hst
             refine sk (nn (te (ec 16 rfl (ec 17 rfl (ec 19 rfl (ec 62 rfl (ec 63 rfl (ec 64 rfl en)))))) (rg (mv rfl rfl (mv rfl rfl (oA (acts_lit (d := kT) (v0 := []) y29 y0 zT (show 1 * 1 ≤ 16777216 from by decide) (by decide) (fills_arr rfl rfl (by decide) (oT rfl) fills_nil)) pR rfl rfl (fun _ _ => ?_)))))))
             refine oA (acts_append (oT rfl) (by exact pA 0 rfl) (oT rfl) y29 (by (simp; omega)) (by (simp [maxLen]; omega))) (by exact pA 0 rfl) rfl rfl (fun v26_3 _ => ?_)
             refine mv rfl rfl (oA (acts_lit (d := kI) (v0 := 0) y68 y2 zI (show 1 * 1 ≤ 16777216 from by decide) (by decide) (fills_arr rfl rfl (by decide) ot fills_nil)) pR rfl rfl (fun _ _ => ?_))
             refine oA (acts_append (oT rfl) (by exact pA 1 rfl) (oT rfl) y68 (by (simp; omega)) (by (simp [maxLen]; omega))) (by exact pA 1 rfl) rfl rfl (fun v26_6 _ => ?_)
             refine av rfl rfl (av rfl rfl (tn (bn (nn (te (ec 16 rfl (ec 17 rfl (ec 62 rfl (ec 63 rfl (ec 64 rfl en))))) (rg (oP (pad (oT rfl) ot (by omega)) rfl (mv rfl rfl (tn (nn ?_))))))))))
             exact tg (k + 1, v26_3, v26_6) (by show k + 1 ≤ rs.length; omega) (by show rs.length - (k + 1) < rs.length - k; omega) (ea (ec 64 rfl (ec 16 rfl (ec 17 rfl en))) (ec 62 rfl (ec 63 rfl en))) (op (by rw [hst.1, hst.2]; exact (by repeat first | exact pn | refine pc 0 rfl ?_ | refine pc 1 rfl ?_)))
         · refine tr_exit (tx (tx (bh (nn (sq (te (ec 16 rfl (ec 17 rfl en)) ?_))))))
           obtain rfl : k = rs.length := by simp only [decide_eq_false_iff_not] at c65; omega
           obtain ⟨hD, hC⟩ := cntL_all hrs.1 hrs.2
           rw [List.take_length, hD, hC]
           have hsma : Small all := ⟨hallen, fun x hx => by
            rw [← hall] at hx
            obtain ⟨r, _, rfl⟩ := List.mem_map.1 hx
            unfold proj; rw [List.length_map]; omega⟩
           have hsm := hsma.setR
           refine rg (mv rfl rfl (tr_freeze (by exact pA 0 rfl) 97 (oT rfl) ?_))
           refine oA (acts_callM (Set_fn (K0 := noK) (n0 := 0) _ hsm) mk_none y72 (oc (oT rfl) oN) pR) pR rfl rfl (fun _ _ => ?_)
           refine mv rfl rfl (tr_freezeF mk_none (fun g => blks_nil) (by exact pA 0 rfl) 99 (oT rfl) ?_)
           refine oA (aC (ClipI_fn _) y74 (oc (oT rfl) oN) pR) pR rfl rfl (fun _ _ => ?_)
           refine av rfl rfl (av rfl rfl (ak rfl (tn (nn (tR ?_)))))
           exact ret_three .ret (.inl rfl) rfl (setR all, countsOf all, 0) (OT.eq (OT.unfr2 (oT rfl)) (congrArg (SlT kT) (setR_idem all))) (oT rfl) (oT rfl) (fun _ _ h => h) (.inr (.inr ⟨hok, hnm, by unfold allOf; rw [← hr1, hall]⟩)) (by exact pn)
end Go.Proofs.YtaahhghlpoiihaaGreatDoor
/- Walks through the Go functions rhizomelaw11.Fits, as typed contracts. -/
namespace Go.Proofs.YtaahhghlpoiihaaGreatDoor
open Go Go.Gw Go.So Go.Tu Go.Jn
set_option linter.unusedVariables false
set_option linter.unusedSimpArgs false
end Go.Proofs.YtaahhghlpoiihaaGreatDoor
/- A view in memory whose atoms are a row of one's own. -/
namespace Go.Gw
open Go Go.MapKept
set_option linter.unusedVariables false
set_option linter.unusedSimpArgs false
set_option linter.unusedSectionVars false
section
variable {C : Cx} {Γ : Env} {L R : List It} {α β : Type} {d : Kd α} {e : Kd β}
end
end Go.Gw
namespace Go.Proofs.YtaahhghlpoiihaaGreatDoor
open Go Go.Gw Go.So Go.Tu Go.Jn
set_option linter.unusedVariables false
set_option linter.unusedSimpArgs false
end Go.Proofs.YtaahhghlpoiihaaGreatDoor
/- Walks through the Go functions , as typed contracts. -/
namespace Go.Proofs.YtaahhghlpoiihaaGreatDoor
open Go Go.Gw Go.So Go.Tu Go.Jn
set_option linter.unusedVariables false
set_option linter.unusedSimpArgs false
end Go.Proofs.YtaahhghlpoiihaaGreatDoor
/- Rows' arguments opened: bytes, structs of three and of five fields. -/
namespace Go.Gw
open Go
set_option linter.unusedVariables false
set_option linter.unusedSimpArgs false
theorem opn_bs {P : Program} {t : TypeId} (ht : P.underlying t = some .string) : Opn P t kS (fun _ => True) := fun Hh enc w fuel cs x h => by
 obtain ⟨n, rfl, _, _⟩ := DataW.trod_string ht h
 refine ⟨n.data.toList, ?_, trivial⟩
 show _ = [Value.string (bs n.data.toList)]
 rw [bs_of]
theorem opn_struct3 {P : Program} {α β γ : Type} {a : Kd α} {b : Kd β} {c : Kd γ} {g0 : α → Prop} {g1 : β → Prop} {g2 : γ → Prop} {t : TypeId} {f0 f1 f2 : Field} (ht : P.underlying t = some (.struct #[f0, f1, f2])) (h0 : Opn P f0.type a g0) (h1 : Opn P f1.type b g1) (h2 : Opn P f2.type c g2)
 (o0 : f0.offset = 0) (o1 : f1.offset = a.sz) (o2 : f2.offset = a.sz + b.sz) (s0 : P.cellsOf f0.type = a.sz) (s1 : P.cellsOf f1.type = b.sz) (s2 : P.cellsOf f2.type = c.sz) (s : P.cellsOf t = a.sz + b.sz + c.sz) : Opn P t (kpair a (kpair b c)) (fun _ => True) := fun Hh enc w fuel cs x h => by
 obtain ⟨xs, n, _, rfl, hl, hlen, hf⟩ := DataW.trod_struct ht h
 match xs, hlen with
 | [y0, y1, y2], _ =>
  have e0 := hf 0 f0 rfl
  have e1 := hf 1 f1 rfl
  have e2 := hf 2 f2 rfl
  simp only [List.getElem?_cons_zero, List.getElem?_cons_succ] at e0 e1 e2
  rw [o0, s0, List.drop_zero] at e0
  rw [o1, s1] at e1
  rw [o2, s2] at e2
  obtain ⟨u, hu, gu⟩ := h0 Hh enc w n _ _ e0
  obtain ⟨v, hv, gv⟩ := h1 Hh enc w n _ _ e1
  obtain ⟨z, hz, gz⟩ := h2 Hh enc w n _ _ e2
  refine ⟨(u, v, z), ⟨_, _, hu, ⟨_, _, hv, hz, rfl⟩, ?_⟩, trivial⟩
  rw [List.take_of_length_le (l := cs.drop (a.sz + b.sz)) (by rw [List.length_drop]; omega)]
  rw [← List.drop_drop, List.take_append_drop, List.take_append_drop]
theorem opn_struct5 {P : Program} {α β γ δ ε : Type} {a : Kd α} {b : Kd β} {c : Kd γ} {d : Kd δ} {e : Kd ε} {g0 : α → Prop} {g1 : β → Prop} {g2 : γ → Prop} {g3 : δ → Prop} {g4 : ε → Prop} {t : TypeId} {f0 f1 f2 f3 f4 : Field} (ht : P.underlying t = some (.struct #[f0, f1, f2, f3, f4])) (h0 : Opn P f0.type a g0) (h1 : Opn P f1.type b g1) (h2 : Opn P f2.type c g2) (h3 : Opn P f3.type d g3) (h4 : Opn P f4.type e g4)
 (o0 : f0.offset = 0) (o1 : f1.offset = a.sz) (o2 : f2.offset = a.sz + b.sz) (o3 : f3.offset = a.sz + b.sz + c.sz) (o4 : f4.offset = a.sz + b.sz + c.sz + d.sz) (s0 : P.cellsOf f0.type = a.sz) (s1 : P.cellsOf f1.type = b.sz) (s2 : P.cellsOf f2.type = c.sz) (s3 : P.cellsOf f3.type = d.sz) (s4 : P.cellsOf f4.type = e.sz) (s : P.cellsOf t = a.sz + b.sz + c.sz + d.sz + e.sz) : Opn P t (kpair a (kpair b (kpair c (kpair d e)))) (fun _ => True) := fun Hh enc w fuel cs x h => by
 obtain ⟨xs, n, _, rfl, hl, hlen, hf⟩ := DataW.trod_struct ht h
 match xs, hlen with
 | [y0, y1, y2, y3, y4], _ =>
  have e0 := hf 0 f0 rfl
  have e1 := hf 1 f1 rfl
  have e2 := hf 2 f2 rfl
  have e3 := hf 3 f3 rfl
  have e4 := hf 4 f4 rfl
  simp only [List.getElem?_cons_zero, List.getElem?_cons_succ] at e0 e1 e2 e3 e4
  rw [o0, s0, List.drop_zero] at e0
  rw [o1, s1] at e1
  rw [o2, s2] at e2
  rw [o3, s3] at e3
  rw [o4, s4] at e4
  obtain ⟨u, hu, _⟩ := h0 Hh enc w n _ _ e0
  obtain ⟨v, hv, _⟩ := h1 Hh enc w n _ _ e1
  obtain ⟨z, hz, _⟩ := h2 Hh enc w n _ _ e2
  obtain ⟨y, hy, _⟩ := h3 Hh enc w n _ _ e3
  obtain ⟨r, hr, _⟩ := h4 Hh enc w n _ _ e4
  refine ⟨(u, v, z, y, r), ⟨_, _, hu, ⟨_, _, hv, ⟨_, _, hz, ⟨_, _, hy, hr, rfl⟩, rfl⟩, rfl⟩, ?_⟩, trivial⟩
  have dd : ∀ i j, cs.drop (i + j) = (cs.drop i).drop j := fun i j => by rw [List.drop_drop]
  rw [List.take_of_length_le (l := cs.drop (a.sz + b.sz + c.sz + d.sz)) (by rw [List.length_drop]; omega)]
  rw [dd (a.sz + b.sz + c.sz) d.sz, List.take_append_drop, dd (a.sz + b.sz) c.sz, List.take_append_drop, dd a.sz b.sz, List.take_append_drop, List.take_append_drop]
end Go.Gw
namespace Go.Proofs.YtaahhghlpoiihaaGreatDoor
open Go Go.Gw Go.Tu Go.Jn
end Go.Proofs.YtaahhghlpoiihaaGreatDoor
/- Walks through the Go functions , as typed contracts. -/
namespace Go.Proofs.YtaahhghlpoiihaaGreatDoor
open Go Go.Gw Go.So Go.Tu Go.Jn
set_option linter.unusedVariables false
set_option linter.unusedSimpArgs false
end Go.Proofs.YtaahhghlpoiihaaGreatDoor
/- A row of atoms turned about; edges that come again. Plain Lean. -/
namespace Go.Jn
open Go Go.Gw Go.Tu
set_option linter.unusedVariables false
set_option linter.unusedSimpArgs false
theorem res_small {v : Vw} {l : List Ed} {r : List Tp × List Int × Int} (h : ResSay v l r) : Small r.1 ∧ r.2.1.length ≤ 1000000 := by
 rcases h with ⟨_, rfl⟩ | ⟨_, _, rfl⟩ | ⟨hok, hn, rfl⟩
 · exact ⟨⟨by simp, by simp⟩, by simp⟩
 · exact ⟨⟨by simp, by simp⟩, by simp⟩
 · obtain ⟨h1, h2, h3, _⟩ := rows_facts hok hn rfl
   have hs : Small (allOf v l) := ⟨by unfold allOf; rw [List.length_map]; omega, fun x hx => by unfold allOf at hx; obtain ⟨r, _, rfl⟩ := List.mem_map.1 hx; unfold proj; rw [List.length_map]; omega⟩
   refine ⟨hs.setR, ?_⟩
   unfold countsOf; rw [List.length_map]; exact hs.setR.1
theorem rev_step {l es : List Ed} {k : Nat} (h : k < l.length) (hs : ∀ e ∈ es, e ∈ l) (hd : ∀ e ∈ l.drop (l.length - k), e ∈ es) {i : Int} (hi : i = ((l.length - 1 - k : Nat) : Int)) :
 (∀ e ∈ es ++ [at' l i, at' l 0], e ∈ l) ∧ ∀ e ∈ l.drop (l.length - (k + 1)), e ∈ es ++ [at' l i, at' l 0] := by
 subst hi
 refine ⟨fun e he => ?_, fun e he => ?_⟩
 · rcases List.mem_append.1 he with h1 | h1
   · exact hs e h1
   · simp only [List.mem_cons, List.not_mem_nil, or_false] at h1
     rcases h1 with rfl | rfl
     · exact at_mem (by omega)
     · exact at_mem (k := 0) (by omega)
 · rw [show l.length - (k + 1) = l.length - 1 - k from by omega, List.drop_eq_getElem_cons (by omega : l.length - 1 - k < l.length)] at he
   rcases List.mem_cons.1 he with rfl | h1
   · rw [at'_nat (by omega)]; simp
   · rw [show l.length - 1 - k + 1 = l.length - k from by omega] at h1
     exact List.mem_append_left _ (hd e h1)
end Go.Jn
/- Walks through the Go functions , as typed contracts. -/
namespace Go.Proofs.YtaahhghlpoiihaaGreatDoor
open Go Go.Gw Go.So Go.Tu Go.Jn
set_option linter.unusedVariables false
set_option linter.unusedSimpArgs false
end Go.Proofs.YtaahhghlpoiihaaGreatDoor
/- Typed walks: a text's bytes in memory of one's own, written; truth values compared. Over any program. -/
namespace Go.Gw
open Go
set_option linter.unusedVariables false
set_option linter.unusedSimpArgs false
section
variable {C : Cx} {Γ : Env} {L R : List It} {dst : Option Tmp} {ty : TypeId} {pos : String} {after : Array Edge} {guard : Option (Nat × Bool)} {x y z : Operand}
end
end Go.Gw
/- Rows that list variables: the row's builder with the world's shape handed on; contracts with a mark as rows; arguments opened with what their weights say; variables in a frozen heap. Over any program. -/
namespace Go.Gw
open Go Go.ChangeShapes Go.WideShapes Go.RowKit
set_option linter.unusedVariables false
set_option linter.unusedSimpArgs false
theorem returns_shaped {H : Type} {enc : TypeId × Value → H} {a : Assume} {C : Checked} {os : Os} {f : FuncId} {fn : Func} {s : ChangeSpec} {conds : List PathCond} {apart fresh handsOn again : Bool} {X : World → Array Value → Prop}
 (hX : ∀ (w w' : World) (args : Array Value), w.heap = w'.heap → X w args → X w' args)
 (own : ownKnob C.prog.godebug = none) (started : os.Started) (noInit : C.prog.inits.idxOf? f = none) (hfn : C.prog.funcs[f]? = some fn)
 (witness : ∃ (w : World) (tape : Tape) (i : Input), w.os = os ∧ (w.forCall tape i).Shaped C.prog ∧ i.vars = [] ∧ Input.okWide C.prog (w.forCall tape i) .any w.heap.size f i ∧
  ((s.pre enc C.prog fn conds apart (w.forCall tape i).memory i.args ∧ X (w.forCall tape i).memory i.args) ∧ sizedMet enc C.prog fn (OpenSpec.ofChange s) apart (w.forCall tape i).memory i.args) ∧ a.holds C.prog (lone (Frame.enter C.prog f i.args .normal) [] (w.forCall tape i)))
 (contract : ∀ (W : World) (base : Nat) (args : Array Value) (ds gs : List (DataW H)) (before : List MemPlace), W.ShapedOpen C.prog →
  (∀ (j : Nat) t v, fn.params[j]? = some t → args[j]? = some v → Value.okWide C.prog W .any base t v) →
  DataW.Whole enc C.prog fn.params.toList s.vars apart W args.toList ds gs before →
  conds.all (PathCond.test C.prog ⟨fn.params.toList, ds, s.plain.varTypes C.prog, gs⟩) = true →
  (DataW.weightsEach C.prog (fn.params.toList ++ s.plain.varTypes C.prog) (ds ++ gs)).all (· ≤ reachBytes) = true → X W args →
  Calls C.prog f args W fun e W' => ∃ v, e = .returned v ∧ s.post enc C.prog fn apart fresh handsOn again W args v W') :
 ReturnsInHanded a C os f .any (fun w args => (s.pre enc C.prog fn conds apart w args ∧ X w args) ∧ sizedMet enc C.prog fn (OpenSpec.ofChange s) apart w args) (s.post enc C.prog fn apart fresh handsOn again) := by
 refine returnsInHanded_of_calls own started noInit witness ?_
 intro w tape i _ hsh _ hok hpre _
 obtain ⟨_, _, _, fn', hfn', _, _, _, _, hval⟩ := hok
 have e : fn' = fn := Option.some.inj (hfn'.symm.trans hfn)
 subst e
 obtain ⟨⟨⟨ds, gs, before, hw, hc⟩, hx⟩, hz⟩ := hpre
 have hw' := DataW.Whole.of_heap (w' := w.forCall tape i) (by rfl) hw
 refine (contract (w.forCall tape i) w.heap.size i.args ds gs before hsh hval hw' hc (hz.weights hw) (hX _ _ _ (by rfl) hx)).mono fun e W' ⟨v, he, hp⟩ => ?_
 subst he
 exact ChangeSpec.post_blind hp
theorem ctM_row {P : Program} {f : FuncId} {As : List Ty} {b : Bool} (W : World) (h : CtM (heapOf W) 0 P f As [] Unit (fun _ => IsV (.bool b)) (fun _ => []) (fun _ => True)) {args : List Value} (ha : AllP (heapOf W) As args) :
 Calls P f args.toArray W fun e W' => e = .returned (.bool b) ∧ Below W.heap.size W W' := by
 refine (h (heapOf W) W args (Sub.refl _) (Nat.zero_le _) (on_heapOf W) ha ⟨fun _ h => by simp at h, by simp [blks], fun g hg => by simp [blks] at hg⟩).mono fun e W' hp => ?_
 obtain ⟨r, v, H', he, _, s, hv, _⟩ := hp
 have hv' : v = .bool b := hv
 subst hv'
 exact ⟨he, s.os, s.tape, s.output, s.size, fun k hk => s.keep k hk (by simp [blks])⟩
def OpnW {α : Type} (P : Program) (t : TypeId) (d : Kd α) (good : α → Prop) : Prop :=
 ∀ (Hh : Type) (enc : TypeId × Value → Hh) (w : World) (fuel : Nat) (cs : List Value) (x : DataW Hh × List MemPlace), DataW.trod enc P w 0 (fun _ => true) true fuel t cs = some x → (∀ n ∈ x.1.weights P t, n ≤ reachBytes) → ∃ v, d.K (heapOf w) v cs ∧ good v
theorem Opn.w {α : Type} {P : Program} {t : TypeId} {d : Kd α} {good : α → Prop} (h : Opn P t d good) : OpnW P t d good := fun Hh enc w fuel cs x hx _ => h Hh enc w fuel cs x hx
end Go.Gw
/- Typed walks: regions that draw the order of their operations, with several operations in the open part that make something not known ahead. Over any program. -/
namespace Go.Gw
open Go
set_option linter.unusedVariables false
set_option linter.unusedSimpArgs false
def flagsOk (l : List Oper) (ps : List Nat) (i : Nat) (c : List Bool) : Bool := (ps.zip c).all fun x => cond x.2 (!((masks l []).getD x.1 0).testBit i && !(Nat.beq i x.1) && (ps.zip c).all fun y => y.2 || !((masks l []).getD x.1 0).testBit y.1) (!((masks l []).getD i 0).testBit x.1)
def allFlags : Nat → List (List Bool)
 | 0 => [[]]
 | n + 1 => (allFlags n).flatMap fun c => [false :: c, true :: c]
def flagsFor (l : List Oper) (ps : List Nat) (i : Nat) : List (List Bool) := (allFlags ps.length).filter (flagsOk l ps i)
def setF (ps : List Nat) (i : Nat) (c : List Bool) : List Bool := List.zipWith (fun p x => x || Nat.beq i p) ps c
def AllC (P : List Bool → Prop) : List (List Bool) → Prop
 | [] => True
 | c :: cs => P c ∧ AllC P cs
def AllN (P : Nat → Prop) : List Nat → Prop
 | [] => True
 | c :: cs => P c ∧ AllN P cs
theorem allN_mem {P : Nat → Prop} : ∀ {cs : List Nat}, AllN P cs → ∀ c ∈ cs, P c
 | _ :: _, h, _, .head _ => h.1
 | _ :: _, h, c, .tail _ hc => allN_mem h.2 c hc
theorem allC_mem {P : List Bool → Prop} : ∀ {cs : List (List Bool)}, AllC P cs → ∀ c ∈ cs, P c
 | _ :: _, h, _, .head _ => h.1
 | _ :: _, h, c, .tail _ hc => allC_mem h.2 c hc
theorem mem_allFlags : ∀ c : List Bool, c ∈ allFlags c.length
 | [] => .head _
 | x :: c => List.mem_flatMap.2 ⟨c, mem_allFlags c, by cases x <;> simp⟩
theorem zip_mapb (ps : List Nat) (b : Nat → Bool) : ps.zip (ps.map b) = ps.map fun p => (p, b p) := by
 induction ps with
 | nil => rfl
 | cons p ps ih => simp only [List.map_cons, List.zip_cons_cons, ih]
theorem setF_mapb (ps : List Nat) (i : Nat) (b : Nat → Bool) : setF ps i (ps.map b) = ps.map fun p => b p || Nat.beq i p := by
 unfold setF
 induction ps with
 | nil => rfl
 | cons p ps ih => simp only [List.map_cons, List.zipWith_cons_cons, ih]
def OpS (C : Cx) (Γ : Env) {ρ : Type} (Lf : List Bool → ρ → List It) (ps : List Nat) (all : List Oper) (ops : Array Oper) (Ts : ρ → List Ty) (ψ : List Bool → ρ → Prop) (ups : Nat → ρ → ρ → Prop) (i : Nat) (o : Oper) (n : Need) : Prop :=
 (∃ cs, flagsFor all ps i = cs ∧ AllC (fun c => ∀ r, ψ c r → ROpG C (envOf Γ (Ts r) n) (Lf c r) (fun r' => Lf (setF ps i c) r') (fun r' => ψ (setF ps i c) r' ∧ cond (ps.elem i) (ups i r r') (r' = r)) ops o (fun r' => (Ts r').getD i AnyT)) cs) ∧
 (AllN (fun p => (((masks all []).getD i 0).testBit p || Nat.beq i p) = false → ∀ r r', ups p r r' → (Ts r).getD i AnyT = (Ts r').getD i AnyT) ps)
def AllOpsS (C : Cx) (Γ : Env) {ρ : Type} (Lf : List Bool → ρ → List It) (ps : List Nat) (all : List Oper) (ops : Array Oper) (Ts : ρ → List Ty) (ψ : List Bool → ρ → Prop) (ups : Nat → ρ → ρ → Prop) : Nat → List Oper → List Need → Prop
 | i, o :: l, n :: ns => OpS C Γ Lf ps all ops Ts ψ ups i o n ∧ AllOpsS C Γ Lf ps all ops Ts ψ ups (i + 1) l ns
 | _, _, [] => True
 | _, [], _ :: _ => False
theorem allOpsS_from {C : Cx} {Γ : Env} {ρ : Type} {Lf : List Bool → ρ → List It} {ps : List Nat} {all : List Oper} {ops : Array Oper} {Ts : ρ → List Ty} {ψ : List Bool → ρ → Prop} {ups : Nat → ρ → ρ → Prop} : ∀ {n : Nat} {l : List Oper} {ns : List Need}, AllOpsS C Γ Lf ps all ops Ts ψ ups n l ns → ∀ i, i < ns.length → ∃ o, l[i]? = some o ∧ OpS C Γ Lf ps all ops Ts ψ ups (n + i) o (ns.getD i [])
 | n, o :: l, m :: ns, h, 0, _ => ⟨o, rfl, h.1⟩
 | n, o :: l, m :: ns, h, i + 1, hi => by
  obtain ⟨o', h1, h2⟩ := allOpsS_from h.2 i (by simpa using hi)
  exact ⟨o', by simpa using h1, by rw [Nat.add_right_comm, Nat.add_assoc] at h2; simpa using h2⟩
 | _, [], [], _, i, hi => by simp at hi
 | _, _ :: _, [], _, i, hi => by simp at hi
theorem allOpsS_at {C : Cx} {Γ : Env} {ρ : Type} {Lf : List Bool → ρ → List It} {ps : List Nat} {all : List Oper} {ops : Array Oper} {Ts : ρ → List Ty} {ψ : List Bool → ρ → Prop} {ups : Nat → ρ → ρ → Prop} {l : List Oper} {ns : List Need} (h : AllOpsS C Γ Lf ps all ops Ts ψ ups 0 l ns) (i : Nat) (hi : i < ns.length) : ∃ o, l[i]? = some o ∧ OpS C Γ Lf ps all ops Ts ψ ups i o (ns.getD i []) := by
 have := allOpsS_from h i hi
 simpa using this
theorem rops_acts {C : Cx} {Γ : Env} {L R : List It} {ops : Array Oper} {J : List It} {o : Oper} {ρ ρ0 : Type} {T : ρ0 → Ty} {I : ρ0 → List It} {φ : ρ0 → Prop} {ψ : ρ → Prop} {T' : ρ → Ty} {L' : ρ → List It} (g : ρ0 → ρ) (hg : o.guard = none) (hp : Acts C Γ L o J ρ0 T I φ) (hL : List.Perm L (J ++ R)) (hL' : ∀ r, List.Perm (I r ++ R) (L' (g r))) (hψ : ∀ r, φ r → ψ (g r)) (hT : ∀ r, φ r → ∀ H v, (T r).p H v → (T' (g r)).p H v) : ROpG C Γ L L' ψ ops o T' := fun a w H f s ow Q K hK =>
 ropg_acts (L' := fun r => L' (g r)) (ψ := fun r => ψ (g r)) (T' := fun r => T' (g r)) hg hp hL hL' hψ hT a w H f s ow Q K fun r v w' H' hφ => hK (g r) v w' H' hφ
section
variable {C : Cx} {Γ : Env} {L : List It} {Q : Exit → Act → World → Prop} {l : List Oper} {ns : List Need} {ρ : Type} {Ts : ρ → List Ty} {ψ : List Bool → ρ → Prop} {ups : Nat → ρ → ρ → Prop} {m : Nat}
structure InvS {ρ : Type} (C : Cx) (Γ : Env) (Lf : List Bool → ρ → List It) (ps : List Nat) (l : List Oper) (Ts : ρ → List Ty) (ψ : List Bool → ρ → Prop) (m : Nat) (r : ρ) (b : Nat → Bool) (a : Act) (w : World) (H : FH) : Prop where
 defers : a.defers = []
 size : a.tmps.size = C.N
 st : St C.M C.H0 C.w0 H w
 ow : Owns C.ok w H (Lf (ps.map b) r)
 phi : ψ (ps.map b) r
 old : ∀ t T, find Γ t = some T → (∀ k, k < l.length → dstOf l k = some t → b k = false) → T.p H (a.tmps.getD t undef)
 got : ∀ k t, k < m → b k = true → dstOf l k = some t → ((Ts r).getD k AnyT).p H (a.tmps.getD t undef)
theorem needOk_fitsS {Lf : List Bool → ρ → List It} {r : ρ} {ps : List Nat} {i : Nat} {b : Nat → Bool} {a : Act} {w : World} {H : FH} (hI : InvS C Γ Lf ps l Ts ψ m r b a w H) (him : i < m) (hlen : m ≤ l.length) (hi : b i = false) (hm : ∀ j, ((masks l []).getD i 0).testBit j = true → b j = true) (hcl : ∀ k, k < l.length → b k = true → ∀ j, ((masks l []).getD k 0).testBit j = true → b j = true) (hlt : ∀ j, ((masks l []).getD i 0).testBit j = true → j < i) :
 ∀ {n : Need}, needOk l (masks l []) i n = true → Fits C.N (envOf Γ (Ts r) n) H a
 | [], _ => ⟨hI.defers, hI.size, fun t T h => by cases h⟩
 | (t, none) :: nr, h => by
  simp only [needOk, Bool.and_eq_true] at h
  refine fits_cons ?_ (needOk_fitsS hI him hlen hi hm hcl hlt h.2)
  cases hf : find Γ t with
  | none => exact trivial
  | some T =>
   refine hI.old t T hf fun k hk hd => ?_
   have h1 := List.all_eq_true.1 h.1 k (List.mem_range.2 hk)
   simp only [hd, beq_self_eq_true, Bool.not_true, Bool.false_or, Bool.or_eq_true] at h1
   rcases h1 with h1 | h1
   · rw [Nat.eq_of_beq_eq_true h1]; exact hi
   · cases hb : b k with
     | false => rfl
     | true => have := hcl k hk hb i h1; rw [hi] at this; cases this
 | (t, some j) :: nr, h => by
  simp only [needOk, Bool.and_eq_true, beq_iff_eq] at h
  refine fits_cons ?_ (needOk_fitsS hI him hlen hi hm hcl hlt h.2)
  exact hI.got j t (by have := hlt j h.1.2; omega) (hm j h.1.2) h.1.1
theorem tr_anyS {id : Nat} {ps : List Nat} {Lf : List Bool → ρ → List It} (r0 : ρ) (hψ0 : ψ (ps.map fun _ => false) r0) (hp : ps.all (fun p => Nat.ble (p + 1) m) = true) (hm : C.P.follows .mixedOrders = true) (hok : regOk C.N l m ns = true) (hT : ∀ r, (Ts r).length = m) (hops : AllOpsS C Γ Lf ps l l.toArray Ts ψ ups 0 l ns) (h : ∀ r, ψ (ps.map fun _ => true) r → Tr C (updAll (l.take m) (Ts r) Γ) (Lf (ps.map fun _ => true) r) (wpList C.P l.toArray Q (l.drop m))) : Tr C Γ (Lf (ps.map fun _ => false) r0) ((Code.region id l.toArray true).wp C.P Q) := by
 simp only [regOk, Bool.and_eq_true, decide_eq_true_eq] at hok
 obtain ⟨⟨⟨hok1, hnd⟩, hnl⟩, hml⟩ := hok
 have hml : m ≤ l.length := Nat.le_of_ble_eq_true hml
 have hpm : ∀ p ∈ ps, p < m := fun p hp' => Nat.le_of_ble_eq_true (List.all_eq_true.1 hp p hp')
 have hrow : ∀ k o, l[k]? = some o → (∀ e ∈ needs o, e < k) ∧ (o.dst.all fun d => decide (d < C.N)) = true ∧ (k < m → needOk l (masks l []) k (ns.getD k []) = true) ∧ (m ≤ k → ∀ j, j < k → ((masks l []).getD k 0).testBit j = true) := by
  intro k o ho
  have hk := (List.getElem?_eq_some_iff.1 ho).1
  have h1 := List.all_eq_true.1 hok1 k (List.mem_range.2 hk)
  rw [ho] at h1
  simp only [Bool.and_eq_true, List.all_eq_true, decide_eq_true_eq] at h1
  refine ⟨h1.1.1, h1.1.2, fun hkm => ?_, fun hkm j hj => ?_⟩
  · have h2 := h1.2; rw [if_pos hkm] at h2; exact h2
  · have h2 := h1.2; rw [if_neg (by omega)] at h2; exact List.all_eq_true.1 h2 j (List.mem_range.2 hj)
 have hpos : ∀ k o, l[k]? = some o → ∀ e ∈ needs o, e < k := fun k o ho => (hrow k o ho).1
 have hlt : ∀ i, i < l.length → ∀ j, ((masks l []).getD i 0).testBit j = true → j < i := by
  intro i
  induction i using Nat.strongRecOn with
  | _ i ih =>
   intro hi j hj
   have ho : l[i]? = some l[i] := List.getElem?_eq_getElem hi
   have hm' := masks_at l [] i _ ho
   simp only [List.length_nil, Nat.zero_add] at hm'
   rw [List.getD_eq_getElem?_getD, hm', Option.getD_some] at hj
   obtain ⟨e, he, h⟩ := mask_bit hj
   have hei := hpos i _ ho e he
   rcases h with rfl | h
   · exact hei
   · rw [List.getD_eq_getElem?_getD, List.getElem?_take, if_pos hei, ← List.getD_eq_getElem?_getD] at h
     have := ih e hei (by omega) j h
     omega
 intro a w H f s ow
 refine wp_region_any hm ?_
 -- the open part
 have main : ∀ (fuel : Nat) (listed : Array Bool) (a : Act) (w : World) (H : FH) (r : ρ), listed.size = l.length → ((List.range l.length).filter fun i => !listed.getD i true).length ≤ fuel →
  (∀ i, m ≤ i → i < l.length → listed.getD i true = false) → ClosedB l (fun j => listed.getD j false) → InvS C Γ Lf ps l Ts ψ m r (fun j => listed.getD j false) a w H → wpAny C.P .any l.toArray Q fuel listed a w := by
  intro fuel
  induction fuel with
  | zero =>
   intro listed a w H r hs hf hsuf hc hI
   have hall : ∀ i, i < l.length → listed.getD i true = true := by
    intro i hi
    cases hb : listed.getD i true with
    | true => rfl
    | false =>
     have : i ∈ (List.range l.length).filter fun i => !listed.getD i true := List.mem_filter.2 ⟨List.mem_range.2 hi, by rw [hb]; rfl⟩
     have h0 : (List.range l.length).filter (fun i => !listed.getD i true) = [] := List.eq_nil_of_length_eq_zero (by omega)
     rw [h0] at this; cases this
   have hmn : m = l.length := by
    rcases Nat.lt_or_ge m l.length with h1 | h1
    · have h2 := hsuf m (Nat.le_refl _) h1; rw [hall m h1] at h2; cases h2
    · omega
   have hpd : (ps.map fun j => listed.getD j false) = ps.map fun _ => true := List.map_congr_left fun p hp' => by
    have := hall p (by have := hpm p hp'; omega); have h8 : p < listed.size := by have := hpm p hp'; omega
    simp [Array.getD_eq_getD_getElem?, Array.getElem?_eq_getElem h8] at this ⊢; exact this
   refine any_rest (m := m) (b := listed) hpos (fun k h1 h2 => (hrow k _ (List.getElem?_eq_getElem h2)).2.2.2 h1) 0 l.length listed a w (by omega) (Nat.le_refl _) hs (by omega) hall (fun i h1 h2 => by omega) ?_
   refine (by have h5 := h r (hpd ▸ hI.phi); rw [hmn] at h5; exact h5 : Tr C (updAll (l.take l.length) (Ts r) Γ) (Lf (ps.map fun _ => true) r) (wpList C.P l.toArray Q (l.drop l.length))) a w H ⟨hI.defers, hI.size, fun t T e => ?_⟩ hI.st (by have := hI.ow; rw [hpd] at this; exact this)
   rw [List.take_length] at e
   rcases updAll_find l (Ts r) Γ t T (by rw [hT, hmn]) e with ⟨k, hk, hd, rfl⟩ | ⟨h1, h2⟩
   · exact hI.got k t (by omega) (by have := hall k hk; have h8 : k < listed.size := by omega
                                     simp [Array.getD_eq_getD_getElem?, Array.getElem?_eq_getElem h8] at this ⊢; exact this) hd
   · exact hI.old t T h1 fun k hk hd => absurd hd (h2 k hk)
  | succ fuel ih =>
   intro listed a w H r hs hf hsuf hc hI
   by_cases hpre : ∀ i, i < m → listed.getD i true = true
   · -- the open part is done
     have hpd : (ps.map fun j => listed.getD j false) = ps.map fun _ => true := List.map_congr_left fun p hp' => by
      have := hpre p (hpm p hp'); have h8 : p < listed.size := by have := hpm p hp'; omega
      simp [Array.getD_eq_getD_getElem?, Array.getElem?_eq_getElem h8] at this ⊢; exact this
     refine any_rest (m := m) (b := listed) hpos (fun k h1 h2 => (hrow k _ (List.getElem?_eq_getElem h2)).2.2.2 h1) (fuel + 1) m listed a w (Nat.le_refl _) hml hs ?_ hpre hsuf ?_
     · have : (List.range' m (l.length - m)).length ≤ ((List.range l.length).filter fun i => !listed.getD i true).length := by
        refine List.Sublist.length_le (l₁ := List.range' m (l.length - m)) ?_
        have e1 : (List.range l.length).filter (fun i => !listed.getD i true) = List.range' m (l.length - m) := by
         have e2 : List.range l.length = List.range' 0 m ++ List.range' m (l.length - m) := by
          rw [List.range_eq_range', show l.length = m + (l.length - m) from by omega, ← List.range'_append]
          simp
         rw [e2, List.filter_append]
         have e3 : (List.range' 0 m).filter (fun i => !listed.getD i true) = [] := by
          rw [List.filter_eq_nil_iff]
          intro i hi
          have := (List.mem_range'_1.1 hi).2
          rw [hpre i (by omega)]; simp
         have e4 : (List.range' m (l.length - m)).filter (fun i => !listed.getD i true) = List.range' m (l.length - m) := by
          rw [List.filter_eq_self]
          intro i hi
          have := List.mem_range'_1.1 hi
          rw [hsuf i (by omega) (by omega)]; rfl
         rw [e3, e4, List.nil_append]
        rw [e1]
        exact List.Sublist.refl _
       rw [List.length_range'] at this
       omega
     · refine h r (hpd ▸ hI.phi) a w H ⟨hI.defers, hI.size, fun t T e => ?_⟩ hI.st (by have := hI.ow; rw [hpd] at this; exact this)
       rcases updAll_find (l.take m) (Ts r) Γ t T (by rw [hT, List.length_take]; omega) e with ⟨k, hk, hd, rfl⟩ | ⟨h1, h2⟩
       · rw [List.length_take] at hk
         refine hI.got k t (by omega) ?_ (by unfold dstOf at hd ⊢; rw [List.getElem?_take, if_pos (by omega)] at hd; exact hd)
         have := hpre k (by omega)
         have h8 : k < listed.size := by omega
         simp [Array.getD_eq_getD_getElem?, Array.getElem?_eq_getElem h8] at this ⊢; exact this
       · refine hI.old t T h1 fun k hk hd => ?_
         rcases Nat.lt_or_ge k m with h3 | h3
         · exact absurd (by unfold dstOf at hd ⊢; rw [List.getElem?_take, if_pos h3]; exact hd) (h2 k (by rw [List.length_take]; omega))
         · have := hsuf k h3 hk
           have h8 : k < listed.size := by omega
           simp [Array.getD_eq_getD_getElem?, Array.getElem?_eq_getElem h8] at this ⊢; exact this
   · refine ⟨fun hr => ?_, fun i hi => ?_⟩
     · -- something is always ready
       exfalso
       have hex : ∃ i, i < l.length ∧ listed.getD i true = false := by
        apply Classical.byContradiction
        intro hno
        refine hpre fun i hi => ?_
        cases hb : listed.getD i true with
        | true => rfl
        | false => exact absurd ⟨i, by omega, hb⟩ hno
       have hmin : ∀ n i, i < n → i < l.length → listed.getD i true = false → ∃ j, j < l.length ∧ listed.getD j true = false ∧ ∀ k, k < j → listed.getD k true = true := by
        intro n
        induction n with
        | zero => intro i h; omega
        | succ n ihn =>
         intro i hi hl hb
         by_cases hk : ∀ k, k < i → listed.getD k true = true
         · exact ⟨i, hl, hb, hk⟩
         · have : ∃ k, k < i ∧ listed.getD k true = false := by
            apply Classical.byContradiction
            intro hno
            refine hk fun k hki => ?_
            cases hbk : listed.getD k true with
            | true => rfl
            | false => exact absurd ⟨k, hki, hbk⟩ hno
           obtain ⟨k, hk1, hk2⟩ := this
           exact ihn k (by omega) (by omega) hk2
       obtain ⟨i, hi, hb⟩ := hex
       obtain ⟨j, hj1, hj2, hj3⟩ := hmin (i + 1) i (by omega) hi hb
       have : j ∈ Region.ready .any l.toArray listed := by
        unfold Region.ready
        rw [List.mem_filter]
        refine ⟨by simpa using hj1, ?_⟩
        rw [hj2]
        have ho : l[j]? = some l[j] := List.getElem?_eq_getElem hj1
        simp only [List.getElem?_toArray, ho, Option.map_some, Option.getD_some, Bool.not_false, Bool.true_and]
        rw [← Array.all_toList, List.all_eq_true]
        intro e he
        by_cases hbe : Region.binds .any e = true
        · have hmem : e.on ∈ needs l[j] := List.mem_map.2 ⟨e, List.mem_filter.2 ⟨he, hbe⟩, rfl⟩
          have h3 := hj3 e.on (hpos j _ ho _ hmem)
          have h4 : e.on < listed.size := by have := hpos j _ ho _ hmem; omega
          simp [Array.getD_eq_getD_getElem?, Array.getElem?_eq_getElem h4] at h3 ⊢
          simp [h3]
        · simp [hbe]
       rw [hr] at this; cases this
     · unfold Region.ready at hi
       rw [List.mem_filter] at hi
       obtain ⟨hi1, hi2⟩ := hi
       have hil : i < l.length := by simpa using hi1
       simp only [Bool.and_eq_true, Bool.not_eq_true'] at hi2
       have ho : l[i]? = some l[i] := List.getElem?_eq_getElem hil
       have hr : ∀ e ∈ needs l[i], (fun j => listed.getD j false) e = true := by
        intro e he
        obtain ⟨ed, hed, rfl⟩ := List.mem_map.1 he
        rw [List.mem_filter] at hed
        have h4 := hi2.2
        simp only [List.getElem?_toArray, ho, Option.map_some, Option.getD_some, ← Array.all_toList, List.all_eq_true] at h4
        have h5 := h4 ed hed.1
        simpa [hed.2] using h5
       have hbi : (fun j => listed.getD j false) i = false := by
        have h8 : i < listed.size := by omega
        have := hi2.1
        simp [Array.getD_eq_getD_getElem?, Array.getElem?_eq_getElem h8] at this ⊢; exact this
       have hmk := ready_mask hc ho hr
       have him : i < m := by
        rcases Nat.lt_or_ge i m with h1 | h1
        · exact h1
        · exfalso
          refine hpre fun j hj => ?_
          have := hmk j ((hrow i _ ho).2.2.2 h1 j (by omega))
          have h8 : j < listed.size := by omega
          simp [Array.getD_eq_getD_getElem?, Array.getElem?_eq_getElem h8] at this ⊢; exact this
       obtain ⟨o, ho2, hop⟩ := allOpsS_at hops i (by omega)
       have hoo : o = l[i] := by rw [ho] at ho2; exact (Option.some.inj ho2).symm
       subst hoo
       have hcl : ∀ k, k < l.length → listed.getD k false = true → ∀ j, ((masks l []).getD k 0).testBit j = true → listed.getD j false = true := fun k hk hb j hj => closed_mask hc (k + 1) k (by omega) hk hb j hj
       have hfit := needOk_fitsS hI him hml hbi hmk hcl (hlt i hil) ((hrow i _ ho).2.2.1 him)
       have hfl : flagsOk l ps i (ps.map fun j => listed.getD j false) = true := by
        unfold flagsOk
        rw [zip_mapb, List.all_map, List.all_eq_true]
        intro p hp'
        show cond (listed.getD p false) _ _ = true
        cases hbp : listed.getD p false with
        | false =>
         simp only [cond_false, Bool.not_eq_true']
         cases hq : ((masks l []).getD i 0).testBit p with
         | false => rfl
         | true => have h8 := hmk p hq; exact absurd (h8.symm.trans hbp) (by simp)
        | true =>
         simp only [cond_true, Bool.and_eq_true, Bool.not_eq_true']
         refine ⟨⟨?_, ?_⟩, ?_⟩
         · cases hq : ((masks l []).getD p 0).testBit i with
           | false => rfl
           | true => have h8 := hcl p (by have := hpm p hp'; omega) hbp i hq; exact absurd (h8.symm.trans hbi) (by simp)
         · cases hq : Nat.beq i p with
           | false => rfl
           | true => have h8 := Nat.eq_of_beq_eq_true hq; subst h8; exact absurd (hbp.symm.trans hbi) (by simp)
         · rw [List.all_map, List.all_eq_true]
           intro q hq'
           show (listed.getD q false || !((masks l []).getD p 0).testBit q) = true
           cases hq : ((masks l []).getD p 0).testBit q with
           | false => simp
           | true => rw [show listed.getD q false = true from hcl p (by have := hpm p hp'; omega) hbp q hq]; rfl
       obtain ⟨⟨cs, hcs, hall⟩, hcoh⟩ := hop
       have hcm : (ps.map fun j => listed.getD j false) ∈ cs := by
        rw [← hcs]
        refine List.mem_filter.2 ⟨?_, hfl⟩
        have := mem_allFlags (ps.map fun j => listed.getD j false)
        rwa [List.length_map] at this
       have hnew : (ps.map fun p => (listed.setIfInBounds i true).getD p false) = setF ps i (ps.map fun j => listed.getD j false) := by
        rw [setF_mapb]
        refine List.map_congr_left fun p _ => ?_
        simp only [Array.getD_eq_getD_getElem?, Array.getElem?_setIfInBounds]
        by_cases hip : i = p
        · subst hip; simp [show i < listed.size from by omega]
        · have : Nat.beq i p = false := by
           cases hb : Nat.beq i p with
           | false => rfl
           | true => exact absurd (Nat.eq_of_beq_eq_true hb) hip
          simp [hip, this]
       have hop2 := (allC_mem hall _ hcm r hI.phi) a w H hfit hI.st hI.ow Q (wpAny C.P .any l.toArray Q fuel (listed.setIfInBounds i true)) ?_
       · unfold wpOp
         have : l.toArray[i]? = some l[i] := by simp
         rw [this]
         simp only
         split
         · rename_i hw; rw [if_pos hw] at hop2; exact .inl hop2
         · rename_i hw; rw [if_neg hw] at hop2; exact hop2
       · intro r' v w' H' hφ' hsub hst' how' hv
         refine ih _ _ w' H' r' (by simpa using hs) ?_ ?_ ?_ ?_
         · have : ((List.range l.length).filter fun j => !(listed.setIfInBounds i true).getD j true).length < ((List.range l.length).filter fun j => !listed.getD j true).length := by
            have hsub : (List.range l.length).filter (fun j => !(listed.setIfInBounds i true).getD j true) = ((List.range l.length).filter fun j => !listed.getD j true).filter (fun j => !(Nat.beq i j)) := by
             rw [List.filter_filter]
             apply List.filter_congr
             intro j hj
             simp only [Array.getD_eq_getD_getElem?, Array.getElem?_setIfInBounds]
             by_cases hij : i = j
             · subst hij; simp [show i < listed.size from by omega]
             · have : Nat.beq i j = false := by
                cases hb : Nat.beq i j with
                | false => rfl
                | true => exact absurd (Nat.eq_of_beq_eq_true hb) hij
               simp [hij, this]
            rw [hsub]
            have hmem : i ∈ (List.range l.length).filter fun j => !listed.getD j true := List.mem_filter.2 ⟨List.mem_range.2 hil, by rw [hi2.1]; rfl⟩
            exact List.length_filter_lt_length_iff_exists.2 ⟨i, hmem, by simp⟩
           omega
         · intro j hj hjl
           have := hsuf j hj hjl
           simp only [Array.getD_eq_getD_getElem?] at this
           simp only [Array.getD_eq_getD_getElem?, Array.getElem?_setIfInBounds]
           simp [show ¬ i = j from by omega, this]
         · intro k o' ho' hb' e he
           simp only [Array.getD_eq_getD_getElem?, Array.getElem?_setIfInBounds] at hb' ⊢
           by_cases hie : i = e
           · subst hie; simp [show i < listed.size from by omega]
           · simp only [if_neg hie]
             have h8 : ∀ e, (listed[e]?).getD false = listed.getD e false := fun e => by simp [Array.getD_eq_getD_getElem?]
             rw [h8]
             by_cases hik : i = k
             · subst hik
               have : l[i] = o' := by rw [ho] at ho'; exact Option.some.inj ho'
               subst this
               exact hr e he
             · simp only [if_neg hik] at hb'
               rw [h8] at hb'
               exact hc k o' ho' hb' e he
         · have hdd : ∀ t, (a.put l[i].dst v).tmps.getD t undef = if l[i].dst = some t then v else a.tmps.getD t undef := by
            intro t
            cases hd : l[i].dst with
            | none => simp [Act.put]
            | some d =>
             rw [getD_put]
             have hdN : d < C.N := by
              have := (hrow i _ ho).2.1
              rw [hd] at this; simpa using this
             by_cases hdt : d = t
             · subst hdt; simp [hI.size, hdN]
             · simp [hdt]
           refine ⟨?_, ?_, hst', ?_, ?_, ?_, ?_⟩
           · cases hd : l[i].dst <;> simp [Act.put, hI.defers]
           · cases hd : l[i].dst <;> simp [Act.put, hI.size]
           · rw [hnew]; exact how'
           · rw [hnew]; exact hφ'.1
           · intro t T hf hall
             have hbt : ∀ k, k < l.length → dstOf l k = some t → listed.getD k false = false ∧ k ≠ i := by
              intro k hk hd
              have := hall k hk hd
              simp only [Array.getD_eq_getD_getElem?, Array.getElem?_setIfInBounds] at this ⊢
              by_cases hik : i = k
              · subst hik; simp [show i < listed.size from by omega] at this
              · simp [hik] at this; exact ⟨this, fun e => hik e.symm⟩
             have hne : ¬ l[i].dst = some t := fun e => (hbt i hil (by simp [dstOf, ho, e])).2 rfl
             rw [hdd, if_neg hne]
             exact T.mono hsub (hI.old t T hf fun k hk hd => (hbt k hk hd).1)
           · intro k t hkm hb hd
             rw [hdd]
             simp only [Array.getD_eq_getD_getElem?, Array.getElem?_setIfInBounds] at hb
             by_cases hik : i = k
             · subst hik
               have : l[i].dst = some t := by simpa [dstOf, ho] using hd
               rw [if_pos this]
               exact hv
             · simp only [if_neg hik] at hb
               have hb' : listed.getD k false = true := by simpa [Array.getD_eq_getD_getElem?] using hb
               have hne : ¬ l[i].dst = some t := by
                intro e
                -- two operations of the open part that write one slot
                have h1 : (l.take m)[i]? = some l[i] := by rw [List.getElem?_take, if_pos him]; exact ho
                have hkl : k < l.length := by omega
                have h2 : (l.take m)[k]? = some l[k] := by rw [List.getElem?_take, if_pos hkm]; exact List.getElem?_eq_getElem hkl
                have h3 : l[k].dst = some t := by simpa [dstOf, List.getElem?_eq_getElem hkl] using hd
                exact hik (tr_anyG.nodup_filterMap hnd h1 h2 e h3)
               rw [if_neg hne]
               have hgot := hI.got k t hkm hb' hd
               have hcohk : (Ts r).getD k AnyT = (Ts r').getD k AnyT := by
                have hφ2 := hφ'.2
                cases hip : ps.elem i with
                | false => rw [hip] at hφ2; rw [show r' = r from hφ2]
                | true =>
                 rw [hip] at hφ2
                 obtain ⟨o3, _, hop3⟩ := allOpsS_at hops k (by omega)
                 refine allN_mem hop3.2 i (List.elem_iff.1 hip) ?_ r r' hφ2
                 rw [Bool.or_eq_false_iff]
                 refine ⟨?_, ?_⟩
                 · cases hq : ((masks l []).getD k 0).testBit i with
                   | false => rfl
                   | true => have h8 := hcl k (by omega) hb' i hq; exact absurd (h8.symm.trans hbi) (by simp)
                 · cases hq : Nat.beq k i with
                   | false => rfl
                   | true => exact absurd (Nat.eq_of_beq_eq_true hq).symm hik
               rw [← hcohk]
               exact ((Ts r).getD k AnyT).mono hsub hgot
 refine main l.length (Array.replicate l.length false) a { w with drawn := w.drawn + 1 } H r0 (by simp) (by
  refine Nat.le_trans (List.length_filter_le _ _) (by simp)) (fun i _ hi => by simp [Array.getD_eq_getD_getElem?, hi]) ?_ ?_ |> fun h => by simpa using h
 · intro k o ho hb e he
   simp [Array.getD_eq_getD_getElem?, Array.getElem?_replicate] at hb
   split at hb <;> simp at hb
 · have e0 : (ps.map fun j => (Array.replicate l.length false).getD j false) = ps.map fun _ => false := List.map_congr_left fun p _ => by simp only [Array.getD_eq_getD_getElem?, Array.getElem?_replicate]; split <;> rfl
   refine ⟨f.defers, f.size, ⟨s.sub, fun k o e => s.on k o e, s.os, s.tape, s.output, s.size, s.keep, s.new⟩, ?_, by rw [e0]; exact hψ0, fun t T hf _ => f.get t T hf, fun k t _ hb => ?_⟩
   · rw [e0]
     exact ⟨fun i hi => i.st (w := w) (w' := { w with drawn := w.drawn + 1 }) (fun _ _ => rfl) (Sub.refl _) (ow.all i hi), ow.nodup, ow.own⟩
   simp [Array.getD_eq_getD_getElem?, Array.getElem?_replicate] at hb
   split at hb <;> simp at hb
end
theorem Acts.frz {C : Cx} {Γ : Env} {L : List It} {o : Oper} {J : List It} {ρ : Type} {T T' : ρ → Ty} {J' R' : ρ → List It} {φ : ρ → Prop} {Q : ρ → FH → Prop} (h : Acts C Γ L o J ρ T (fun r => J' r ++ R' r) φ) (hf : ∀ r, Frz (J' r) (Q r)) (hT : ∀ r H v, (T r).p H v → Q r H → (T' r).p H v) : Acts C Γ L o J ρ T' R' φ := fun a w H f s ow P K hK =>
 h a w H f s ow P K fun r v w' H' hφ s' hv ho => by
  obtain ⟨H'', h1, h2, h3, h4, h5⟩ := hf r _ w' H' (R' r) s'.on ho
  refine hK r v w' H'' hφ ⟨s'.sub.trans h1, h2, s'.os, s'.tape, s'.output, s'.size, s'.keep, fun k o e => ?_⟩ (hT r H'' v ((T r).mono h1 hv) h5) h4
  rcases h3 k o e with e | e
  · exact s'.new k o e
  · rcases e with e | e
    · exact .inr (.inr e)
    · exact .inr (.inl e)
theorem Acts.freeze {C : Cx} {Γ : Env} {L : List It} {o : Oper} {J : List It} {α : Type} {d : Kd α} {el : TypeId} {ρ : Type} {f : ρ → Value} {xs : ρ → List α} {φ : ρ → Prop} (h : Acts C Γ L o J ρ (fun r => IsV (f r)) (fun r => [OwnI el d (f r) (xs r)]) φ) : Acts C Γ L o J ρ (fun r => SlT d (xs r)) (fun _ => []) φ :=
 Acts.frz (J' := fun r => [OwnI el d (f r) (xs r)]) (R' := fun _ => []) h (fun _ => Frz.own) fun r H v hv hq => by rw [show v = f r from hv]; exact hq
end Go.Gw
/- Typed walks: texts gone through rune by rune; what an operation gives that may be one of two. Over any program. -/
namespace Go.Gw
open Go
set_option linter.unusedVariables false
set_option linter.unusedSimpArgs false
section
variable {C : Cx} {Γ : Env} {L R : List It}
variable {dst : Option Tmp} {ty : TypeId} {pos : String} {after : Array Edge} {guard : Option (Nat × Bool)} {x y z : Operand} {l : List UInt8} {g q : Nat}
end
end Go.Gw
/- Typed walks: a text's bytes put behind bytes of one's own; strings.Builder: its two fields, its copy check, its text. Over any program. -/
namespace Go.Gw
open Go
set_option linter.unusedVariables false
set_option linter.unusedSimpArgs false
section
variable {C : Cx} {Γ : Env} {L R : List It}
variable {dst : Option Tmp} {ty : TypeId} {pos : String} {after : Array Edge} {guard : Option (Nat × Bool)} {x y z : Operand}
def dataV (v : Value) : Value := match v with
 | .slice (some a) _ _ => .pointer (some a)
 | .slice none _ _ => .pointer none
 | _ => undef
theorem pu_dataV {t el : TypeId} {v : Value} {xs : List Int} (hx : OT C.N Γ x (IsV v)) (hm : OwnI el (kint .u8) v xs ∈ L) (h0 : xs = [] → v = nilS) : Pure C Γ L ⟨dst, .call ⟨.builtin .unsafeSliceData, #[x], #[t]⟩, ty, pos, after, guard⟩ (IsV (dataV v)) := fun a w H f s ow => by
 have hv : a.eval x = v := hx a H f
 obtain ⟨inner, ⟨h2, h3⟩, hR⟩ := ow.all _ hm
 rcases h3 with ⟨rfl, h4⟩ | ⟨g, cap, cur, rfl, _, _, hc, _⟩
 · exact ⟨.pointer none, by simp [execOp, resolve, invoke, builtin, hv, Lib.run_unsafeSliceData_nil], rfl⟩
 · have hne : xs ≠ [] := fun e => by cases h0 e
   have hl : 0 < xs.length := List.length_pos_iff.2 hne
   exact ⟨.pointer (some ⟨g, 0, none⟩), by simp [execOp, resolve, invoke, builtin, hv, Lib.run_unsafeSliceData_row (P := C.P) (w := w) #[t] ty ⟨g, 0, none⟩ xs.length cap (by omega)], rfl⟩
theorem freeze_other {w : World} {g n k : Nat} (hk : k ≠ g) : (w.freeze ⟨g, 0, none⟩ n).heap[k]? = w.heap[k]? := by
 unfold World.freeze
 split
 · rfl
 · simp only [Array.getElem?_modify]; rw [if_neg (Ne.symm hk)]
theorem freeze_size {w : World} {g n : Nat} : (w.freeze ⟨g, 0, none⟩ n).heap.size = w.heap.size := by
 unfold World.freeze
 split
 · rfl
 · simp
theorem acts_unsafeString {pt it el : TypeId} {v : Value} {l : List UInt8} (hx : OT C.N Γ x (IsV (dataV v))) (hy : OT C.N Γ y (I64 (l.length : Int))) (hp : List.Perm L (OwnI el (kint .u8) v (nums l) :: R)) (ht : C.P.underlying pt = some (.pointer el)) (hc : C.P.cellsOf el = 1) :
 Acts C Γ L ⟨dst, .call ⟨.builtin .unsafeString, #[x, y], #[pt, it]⟩, ty, pos, after, guard⟩ [OwnI el (kint .u8) v (nums l)] Unit (fun _ => BsT l) (fun _ => []) (fun _ => True) := by
 intro a w H f s ow Q K hK
 have o' := ow.perm hp
 obtain ⟨inner, hown, hR⟩ := o'.all _ List.mem_cons_self
 have hxv : a.eval x = dataV v := hx a H f
 have hyv : a.eval y = .int .i64 l.length := hy a H f
 by_cases hl : l = []
 · subst hl
   obtain ⟨q, hq⟩ : ∃ q, dataV v = .pointer q := by
    rcases hown.2 with ⟨rfl, _⟩ | ⟨g, cap, cur, rfl, _⟩
    · exact ⟨_, rfl⟩
    · exact ⟨_, rfl⟩
   have hrun : (execOp a.eval ⟨dst, .call ⟨.builtin .unsafeString, #[x, y], #[pt, it]⟩, ty, pos, after, guard⟩).run C.P w = .ok (.value (.string (bs []))) w := by
    have h1 := Lib.run_unsafeString_none (P := C.P) w pt it ty q
    have e1 : a.eval x = .pointer q := hxv.trans hq
    have e2 : a.eval y = .int .i64 0 := hyv
    simp [execOp, resolve, invoke, builtin, e1, e2, h1]
    rfl
   simp only [Oper.wp, hrun, Oper.upon_value]
   exact hK () _ _ H trivial (st_grown (row := none) s.on ⟨rfl, rfl, rfl, Nat.le_refl _, fun k hk hne => rfl⟩ fun k hk => by cases hk) rfl Owns.nil
 · have hlp : 0 < l.length := List.length_pos_iff.2 hl
   have hlen : (nums l).length = l.length := by simp
   rcases hown.2 with ⟨rfl, h0⟩ | ⟨g, cap, cur, rfl, _, hg, hnc, hcm, hcs, htake⟩
   · omega
   · have hblk := o'.own g (blk_mem (i := OwnI el (kint .u8) (.slice (some ⟨g, 0, none⟩) (nums l).length cap) (nums l)) List.mem_cons_self rfl)
     have hcell := hown.cells (g := g) rfl
     have hrun : (execOp a.eval ⟨dst, .call ⟨.builtin .unsafeString, #[x, y], #[pt, it]⟩, ty, pos, after, guard⟩).run C.P w = .ok (.value (.string (bs l))) (w.freeze ⟨g, 0, none⟩ l.length) := by
      have h1 := Lib.run_unsafeString_row (P := C.P) w pt it ty el ht hc g cur.size (by simp [World.shape?, hg]) l hl (by have : (kint IntKind.u8).sz = 1 := rfl; rw [this] at hcs; omega) (by unfold maxLen at hcm; omega) (fun j b hb => by
       refine hcell j _ ?_
       have h9 : (kint IntKind.u8).K H ((b.toNat : Nat) : Int) ((inner.drop (j * 1)).take 1) := hR.2 j _ (by simp [hb])
       have h10 : (inner.drop (j * 1)).take 1 = [Value.int .u8 b.toNat] := h9
       rw [Nat.mul_one] at h10
       have h11 := congrArg List.head? h10
       simpa [List.head?_take, List.head?_drop] using h11)
      have e1 : a.eval x = .pointer (some ⟨g, 0, none⟩) := hxv
      simp [execOp, resolve, invoke, builtin, e1, hyv, h1]
     simp only [Oper.wp, hrun, Oper.upon_value]
     refine hK () _ _ H trivial (st_grown (row := some g) s.on ⟨?_, ?_, ?_, by rw [freeze_size]; exact Nat.le_refl _, fun k hk hne => freeze_other fun e => hne (by rw [e])⟩ fun k hk => by cases hk; exact ⟨hblk.2.1, blk_mem (i := OwnI el (kint .u8) (.slice (some ⟨g, 0, none⟩) (nums l).length cap) (nums l)) List.mem_cons_self rfl⟩) rfl Owns.nil
     all_goals (unfold World.freeze; split <;> rfl)
end
abbrev kBld : Kd (Value × Value) := kpair kraw kraw
theorem lb0 {t : Value × Value} : Lens kBld kraw 0 t t.1 (fun y => (y, t.2)) := Lens.fst
theorem lb1 {t : Value × Value} : Lens kBld kraw 1 t t.2 (fun y => (t.1, y)) := Lens.snd (a := kraw)
end Go.Gw
/- Typed walks: pointers as unsafe ones and back, where a variable of one's own stands; functions from outside; a pointer held against itself; an array's end as bytes. Over any program. -/
namespace Go.Gw
open Go
set_option linter.unusedVariables false
set_option linter.unusedSimpArgs false
section
variable {C : Cx} {Γ : Env} {L R : List It} {α : Type} {d : Kd α}
variable {dst : Option Tmp} {ty : TypeId} {pos : String} {after : Array Edge} {guard : Option (Nat × Bool)} {x y z : Operand}
theorem blk_shape {w : World} {H : FH} {g : Nat} {t : TypeId} {v : α} (h : (BlkI g t d v).p w H) : w.shape? g = some (t, d.sz) := by
 obtain ⟨cs, h1, h2⟩ := h
 simp [World.shape?, h2, d.len h1]
theorem pu_to_unsafe {s u t : TypeId} {g : Nat} {v : α} (hx : OT C.N Γ x (IsV (pt g 0))) (hm : BlkI g t d v ∈ L) (hs : C.P.underlying s = some (.pointer t)) (hd : C.P.underlying u = some .unsafePointer) (hz : (C.P.info? t).map (fun j => Nat.beq j.size 0) = some false) (h0 : 0 < d.sz) : Pure C Γ L ⟨dst, .convert s u x, ty, pos, after, guard⟩ (IsV (pt g 0)) := fun a w H f s' ow => by
 have hv : a.eval x = pt g 0 := hx a H f
 obtain ⟨j, hj, hjs⟩ := Option.map_eq_some_iff.1 hz
 have h1 := Lib.run_to_unsafe (P := C.P) w ⟨g, 0, none⟩ hs hd hj (fun e => by rw [e] at hjs; cases hjs) (blk_shape (ow.all _ hm)) h0
 exact ⟨pt g 0, by simp only [execOp, hv, Sem.run_bind, h1, Result.andThen_ok]; rfl, rfl⟩
theorem pu_from_unsafe {s u t : TypeId} {g : Nat} {v : α} (hx : OT C.N Γ x (IsV (pt g 0))) (hm : BlkI g t d v ∈ L) (hs : C.P.underlying s = some .unsafePointer) (hd : C.P.underlying u = some (.pointer t)) (hz : (C.P.info? t).isSome = true) (hl : liesAt C.P C.P.depth t (d.sz / C.P.cellsOf t) 0 t 1 = true) : Pure C Γ L ⟨dst, .convert s u x, ty, pos, after, guard⟩ (IsV (pt g 0)) := fun a w H f s' ow => by
 have hv : a.eval x = pt g 0 := hx a H f
 obtain ⟨j, hj⟩ := Option.isSome_iff_exists.1 hz
 have h1 := Lib.run_from_unsafe (P := C.P) w ⟨g, 0, none⟩ hs hd hj (blk_shape (ow.all _ hm)) hl
 exact ⟨pt g 0, by simp only [execOp, hv, Sem.run_bind, h1, Result.andThen_ok]; rfl, rfl⟩
theorem pu_extern {f : FuncId} {fn : Func} {e : Array Value → Sem Value} {v u : Value} {ats : Array TypeId} (hx : OT C.N Γ x (IsV v)) (hf : C.P.funcs[f]? = some fn) (hname : (fn.name == "runtime.NumGoroutine") = false) (hb : fn.body.isNone = true) (hn : Extern.findNext fn = none) (he : Extern.find fn = some e) (hu : ∀ w, (e #[v]).run C.P w = .ok u w) : Pure C Γ L ⟨dst, .call ⟨.value (.func f), #[x], ats⟩, ty, pos, after, guard⟩ (IsV u) := fun a w H fi s ow => by
 have hv : a.eval x = v := hx a H fi
 refine ⟨u, ?_, rfl⟩
 rw [execOp_call_go]
 simp only [List.map_toArray, List.map_cons, List.map_nil, hv]
 rw [run_callFunc_extern hf hname hb hn he]
 show ((e #[v]).run C.P w).andThen _ = _
 rw [hu]; rfl
theorem pu_ptr_neq_same {t t2 el : TypeId} {g : Nat} (hx : OT C.N Γ x (IsV (pt g 0))) (hy : OT C.N Γ y (IsV (pt g 0))) (ht : C.P.underlying t = some (.pointer el)) (hz : (C.P.info? el).isSome = true) (hc : ∀ v, y ≠ .const v) : Pure C Γ L ⟨dst, .binOp .neq t x y t2, ty, pos, after, guard⟩ (BoolT false) := fun a w H f s ow => by
 have h1 : a.eval x = pt g 0 := hx a H f
 have h2 : a.eval y = pt g 0 := hy a H f
 obtain ⟨j, hj⟩ := Option.isSome_iff_exists.1 hz
 have h3 := Lib.run_neq_ptr_same (P := C.P) w (tp := t) ⟨g, 0, none⟩ ht hj
 have hg : (eqGuard .neq t x y (pt g 0) (pt g 0)).run C.P w = .ok () w := by simp [eqGuard]
 refine ⟨.bool false, ?_, rfl⟩
 simp only [execOp, h1, h2, Sem.run_bind, hg, Result.andThen_ok]
 show ((binOp .neq t (.pointer (some ⟨g, 0, none⟩)) (.pointer (some ⟨g, 0, none⟩))).run C.P w).andThen _ = _
 rw [h3]; rfl
end
end Go.Gw
/- Typed walks: an array of one's own, its end given up as a slice. Over any program. -/
namespace Go.Gw
open Go
set_option linter.unusedVariables false
set_option linter.unusedSimpArgs false
section
variable {C : Cx} {Γ : Env} {L R : List It} {α : Type} {d : Kd α}
variable {dst : Option Tmp} {ty : TypeId} {pos : String} {after : Array Edge} {guard : Option (Nat × Bool)} {x y z : Operand}
end
end Go.Gw
/- Typed walks: a value put into an interface. Over any program. -/
namespace Go.Gw
open Go
set_option linter.unusedVariables false
section
variable {C : Cx} {Γ : Env} {L : List It} {dst : Option Tmp} {ty : TypeId} {pos : String} {after : Array Edge} {guard : Option (Nat × Bool)} {x y : Operand}
end
end Go.Gw
/- Typed walks: texts compared by '<'. Over any program. -/
namespace Go.Gw
open Go
set_option linter.unusedVariables false
end Go.Gw
/- Typed walks: three results, the first of which lies in a variable. Over any program. -/
namespace Go.Gw
open Go
set_option linter.unusedVariables false
set_option linter.unusedSimpArgs false
section
variable {Γ : Env} {L J : List It} {α : Type} {d : Kd α}
theorem ret_cell_tmp2 {fn : Func} {ρ : Type} {T : ρ → Ty} {I : ρ → List It} {φ : ρ → Prop} {P : Program} {N : Nat} {H0 : FH} {w0 : World} (e : Exit) (he : e = .ret ∨ e = .normal) {t u u2 : Nat} {tt t' : TypeId} {b : Nat} {v : α} {B B2 : Ty} (hres : fn.results = #[.cell t tt, .tmp u, .tmp u2]) (r : ρ) (hx : OT N Γ (.tmp t) (IsV (pt b 0))) (hm : BlkI b t' d v ∈ L) (ht : tyOk P tt d.agg d.sz = true) (hB : OT N Γ (.tmp u) B) (hB2 : OT N Γ (.tmp u2) B2) (hT : ∀ H v', (TupT [d.T v, B, B2]).p H v' → (T r).p H v') (hφ : φ r) (hI : ∃ R, List.Perm L (I r ++ R)) :
 Tr ⟨P, N, fun g => g ∈ blks J, H0, w0⟩ Γ L (bodyPost P fn (post J H0 w0 ρ T I φ) e) :=
 ret_post e he r hφ hI fun a w H f s ow => by
  have hv : a.eval (.tmp t) = pt b 0 := hx a H f
  obtain ⟨cs, hK, hb⟩ := ow.all _ hm
  have hl := d.len hK
  have hload := run_loadVar (P := P) (w := w) (t := tt) (agg := d.agg) (cs := cs) (g := b) (off := 0) (by rw [hl]; exact ht) (fun h => by rw [hl]; exact d.szone h) hb (fun i u h => by simpa using h)
  refine ⟨.tuple [mkV d.agg cs, a.eval (.tmp u), a.eval (.tmp u2)].toArray, ?_, hT _ _ ⟨_, rfl, d.toT hK, hB a H f, hB2 a H f, trivial⟩⟩
  simp only [Act.eval] at hv
  simp only [Array.getD_eq_getD_getElem?] at hv
  simp [results, hres, hv, asAddr, hload, pt, Act.eval]
end
end Go.Gw
/- Typed walks: a number turned, with what overflows. Over any program. -/
namespace Go.Gw
open Go
set_option linter.unusedVariables false
set_option linter.unusedSimpArgs false
section
variable {C : Cx} {Γ : Env} {L : List It} {dst : Option Tmp} {ty : TypeId} {pos : String} {after : Array Edge} {guard : Option (Nat × Bool)} {x : Operand}
end
end Go.Gw
/- Typed walks: a range over a map, in whatever order; deletes within it. Over any program. -/
namespace Go.Gw
open Go Go.MapKept
open Go.ChangeMaps (setBlock)
set_option linter.unusedVariables false
set_option linter.unusedSimpArgs false
set_option linter.unusedSectionVars false
structure MS where
 es : Array MapEntry
 clock : Nat
structure IS where
 since : Nat
 seen : Array Nat
 c0 : Nat
theorem nodup_ix {β : Type} {l : List β} (hn : l.Nodup) {i j : Nat} (hi : i < l.length) (hj : j < l.length) (h : l[i] = l[j]) : i = j := by
 rcases Nat.lt_trichotomy i j with h1 | h1 | h1
 · exact absurd h (List.pairwise_iff_getElem.1 hn i j hi hj h1)
 · exact h1
 · exact absurd h.symm (List.pairwise_iff_getElem.1 hn j i hj hi h1)
section
variable {κ α : Type}
def RanM (g : Nat) (enc : κ → Value) (V : α → Ty) (m : List (κ × α)) (s : MS) : It where
 blk := some g
 p := fun w H => w.heap[g]? = some (.map s.es s.clock) ∧ MapR enc V H m s.es s.clock
 st := fun hb hs ⟨h1, h2⟩ => ⟨(hb g rfl).trans h1, h2.mono hs⟩
def RanR (r g : Nat) (i : IS) : It where
 blk := some r
 p := fun w H => w.heap[r]? = some (.mapIter (some g) i.since i.seen i.c0)
 st := fun hb hs h => (hb r rfl).trans h
structure RanOk (m : List (κ × α)) (s : MS) (i : IS) (todo : List κ) (cur : Option κ) : Prop where
 old : ∀ e ∈ s.es.toList, e.born < i.since
 le : i.since ≤ i.c0
 lc : i.since ≤ s.clock
 nd : todo.Nodup
 sub : ∀ k ∈ todo, k ∈ keys m
 left : ∀ (j : Nat) (e : MapEntry) (k : κ), s.es.toList[j]? = some e → (keys m)[j]? = some k → (i.seen.contains e.born = false ↔ k ∈ todo)
 at_ : ∀ k, cur = some k → i.c0 = s.clock ∧ ∃ (j : Nat) (e : MapEntry) (seen : Array Nat), s.es.toList[j]? = some e ∧ (keys m)[j]? = some k ∧ i.seen = seen.push e.born
def NextT (b : Bool) : Ty := ⟨fun _ v => ∃ l, v = .tuple (Array.mk (.bool b :: l)), fun _ h => h⟩
end
section
variable {C : Cx} {Γ : Env} {L R : List It} {dst : Option Tmp} {ty : TypeId} {pos : String} {after : Array Edge} {guard : Option (Nat × Bool)} {x y z : Operand} {Q : Act → World → Prop}
variable {κ α : Type} [DecidableEq κ] {t kt et : TypeId} {K : Kd κ} {enc : κ → Value} {V : α → Ty} {m : List (κ × α)} {g r : Nat} {k : κ} {s : MS} {i : IS} {todo : List κ} {cur : Option κ}
theorem tr_mapx (hp : List.Perm L (MapI g enc V m :: R)) (h : ∀ s, Tr C Γ (RanM g enc V m s :: R) Q) : Tr C Γ L Q := by
 intro a w H f st ow
 have o' := ow.perm hp
 obtain ⟨es, clock, hb, hR⟩ := o'.all _ List.mem_cons_self
 exact h ⟨es, clock⟩ a w H f st (o'.swap1 (J := RanM g enc V m ⟨es, clock⟩) rfl ⟨hb, hR⟩)
theorem tr_mapc (hp : List.Perm L (RanM g enc V m s :: R)) (h : Tr C Γ (MapI g enc V m :: R) Q) : Tr C Γ L Q := by
 intro a w H f st ow
 have o' := ow.perm hp
 obtain ⟨hb, hR⟩ := o'.all _ List.mem_cons_self
 exact h a w H f st (o'.swap1 (J := MapI g enc V m) rfl ⟨s.es, s.clock, hb, hR⟩)
theorem acts_range_map (ht : C.P.underlying t = some (.map kt et)) (hx : OT C.N Γ x (IsV (mp g))) (hm : RanM g enc V m s ∈ L) :
 Acts C Γ L ⟨dst, .range t x, ty, pos, after, guard⟩ [] (Nat × IS) (fun r => IsV (pt r.1 0)) (fun r => [RanR r.1 g r.2]) (fun r => RanOk m s r.2 (keys m) none) := by
 intro a w H f st ow Q K hK
 obtain ⟨hb, hR⟩ := ow.all _ hm
 have hv : a.eval x = .map (some g) := hx a H f
 have hrun : (execOp a.eval ⟨dst, .range t x, ty, pos, after, guard⟩).run C.P w = .ok (.value (pt w.heap.size 0)) (w.alloc (.mapIter (some g) s.clock #[] s.clock)) := by
  have := run_range_map (P := C.P) w t kt et g s.es s.clock ht hb
  simp only [execOp, hv, Sem.run_bind, this, Result.andThen]
  rfl
 simp only [Oper.wp, hrun, Oper.upon_value]
 refine hK (w.heap.size, ⟨s.clock, #[], s.clock⟩) _ _ H ?_ (st_alloc st.on _) rfl (owns_new (J := RanR w.heap.size g ⟨s.clock, #[], s.clock⟩) (heap_alloc_new w _) (.inr rfl) (by simp) st.on)
 exact ⟨fun e he => hR.lt e he, Nat.le_refl _, Nat.le_refl _, hR.nd, fun k h => h, fun j e k h1 h2 => ⟨fun _ => List.mem_of_getElem? h2, fun _ => by simp⟩, fun k h => by cases h⟩
theorem acts_next_map (hx : OT C.N Γ x (IsV (pt r 0))) (hm : RanM g enc V m s ∈ L) (hp : List.Perm L (RanR r g i :: R)) (ho : RanOk m s i todo cur) :
 Acts C Γ L ⟨dst, .next x false, ty, pos, after, guard⟩ [RanR r g i] (IS × Option κ) (fun q => NextT q.2.isSome) (fun q => [RanR r g q.1]) (fun q => match q.2 with
  | none => todo = [] ∧ RanOk m s q.1 todo none
  | some k => k ∈ todo ∧ RanOk m s q.1 (todo.erase k) (some k)) := by
 intro a w H f st ow Q K hK
 obtain ⟨hb, hR⟩ := ow.all _ hm
 have o' := ow.perm hp
 have hr : w.heap[r]? = some (.mapIter (some g) i.since i.seen i.c0) := o'.all _ List.mem_cons_self
 have hown := o'.own r (blk_mem (i := RanR r g i) List.mem_cons_self rfl)
 have hxv : a.eval x = pt r 0 := hx a H f
 have hlt : r < w.heap.size := (Array.getElem?_eq_some_iff.1 hr).1
 rcases run_next_at (P := C.P) w ty r g i.since i.c0 i.seen s.es s.clock hr hb ho.old ho.le with ⟨h0, hrun⟩ | ⟨e, he, w1, hw1, hrun⟩
 · have htodo : todo = [] := by
    refine List.eq_nil_iff_forall_not_mem.2 fun k hk => ?_
    obtain ⟨j, hj, hkj⟩ := List.getElem_of_mem (ho.sub k hk)
    have hjl : j < s.es.toList.length := by have h9 := hR.len; simp [keys] at hj; simp; omega
    have hl := (ho.left j s.es.toList[j] k (List.getElem?_eq_getElem hjl) (by rw [List.getElem?_eq_getElem hj, hkj])).2 hk
    have : s.es.toList[j] ∈ (leftOf s.es i.seen).toList := by
     unfold leftOf
     rw [Array.toList_filter, List.mem_filter]
     exact ⟨List.getElem_mem hjl, by rw [hl]; rfl⟩
    have h1 := List.length_pos_of_mem this
    rw [Array.length_toList] at h1
    omega
   have hrun2 : (execOp a.eval ⟨dst, .next x false, ty, pos, after, guard⟩).run C.P w = .ok (.value (.tuple #[.bool false])) w := by
    simp only [execOp, hxv, Sem.run_bind, show (pt r 0) = Value.pointer (some ⟨r, 0, none⟩) from rfl, hrun, Result.andThen]
    rfl
   simp only [Oper.wp, hrun2, Oper.upon_value]
   refine hK (i, none) _ _ H ⟨htodo, ho.old, ho.le, ho.lc, ho.nd, ho.sub, ho.left, fun k h => by cases h⟩ (st_grown (row := none) st.on ⟨rfl, rfl, rfl, by simp, fun k hk hne => rfl⟩ fun k hk => by cases hk) ⟨[], rfl⟩ ?_
   exact owns_one (I := RanR r g i) (J := RanR r g i) rfl rfl hr o' (by simp)
 · unfold leftOf at he
   rw [Array.toList_filter, List.mem_filter] at he
   obtain ⟨he1, he2⟩ := he
   obtain ⟨j, hj, hej⟩ := List.getElem_of_mem he1
   have hje : s.es.toList[j]? = some e := by rw [List.getElem?_eq_getElem hj, hej]
   have hjk : j < (keys m).length := by have h9 := hR.len; simp [keys]; simp at hj; omega
   obtain ⟨k, hk⟩ : ∃ k, (keys m)[j]? = some k := ⟨_, List.getElem?_eq_getElem hjk⟩
   have hkt : k ∈ todo := (ho.left j e k hje hk).1 (by simpa using he2)
   have hheap1 : w1.heap = w.heap := by rcases hw1 with rfl | rfl <;> rfl
   have hrun2 : (execOp a.eval ⟨dst, .next x false, ty, pos, after, guard⟩).run C.P w = .ok (.value (.tuple #[.bool true, e.key, e.val])) (setBlock w1 r (.mapIter (some g) i.since (i.seen.push e.born) s.clock)) := by
    simp only [execOp, hxv, Sem.run_bind, show (pt r 0) = Value.pointer (some ⟨r, 0, none⟩) from rfl, hrun, Result.andThen]
    rfl
   simp only [Oper.wp, hrun2, Oper.upon_value]
   have hset : (setBlock w1 r (.mapIter (some g) i.since (i.seen.push e.born) s.clock)).heap = w.heap.setIfInBounds r (.mapIter (some g) i.since (i.seen.push e.born) s.clock) := by show w1.heap.setIfInBounds _ _ = _; rw [hheap1]
   refine hK (⟨i.since, i.seen.push e.born, s.clock⟩, some k) _ _ H ⟨hkt, ho.old, ho.lc, ho.lc, ho.nd.erase k, fun k' h => ho.sub k' (List.mem_of_mem_erase h), fun j' e' k' h1 h2 => ?_, fun k' h => ?_⟩ (st_grown (row := some r) st.on ⟨?_, ?_, ?_, ?_, fun k' hk' hne => ?_⟩ fun k' hk' => by cases hk'; exact ⟨hown.2.1, blk_mem (i := RanR r g i) List.mem_cons_self rfl⟩) ⟨[e.key, e.val], rfl⟩ ?_
   · have hl := ho.left j' e' k' h1 h2
     rw [ho.nd.mem_erase_iff]
     by_cases hjj : j' = j
     · subst hjj
       rw [hje] at h1; cases h1
       rw [hk] at h2; cases h2
       simp
     · have hbn : e'.born ≠ e.born := fun hbe => by
        refine hjj ?_
        have a1 : j' < (s.es.toList.map (·.born)).length := by rw [List.length_map]; exact (List.getElem?_eq_some_iff.1 h1).1
        have a2 : j < (s.es.toList.map (·.born)).length := by rw [List.length_map]; exact hj
        refine nodup_ix hR.bn a1 a2 ?_
        rw [List.getElem_map, List.getElem_map, (List.getElem?_eq_some_iff.1 h1).2, hej]; exact hbe
       have hkk : k' ≠ k := fun hke => by
        refine hjj ?_
        have a1 : j' < (keys m).length := (List.getElem?_eq_some_iff.1 h2).1
        refine nodup_ix hR.nd a1 hjk ?_
        rw [(List.getElem?_eq_some_iff.1 h2).2, (List.getElem?_eq_some_iff.1 hk).2]; exact hke
       have hc : (i.seen.push e.born).contains e'.born = i.seen.contains e'.born := by
        rw [Bool.eq_iff_iff]
        simp [Array.contains_iff_mem, Array.mem_push, hbn]
       rw [hc, hl]
       exact ⟨fun h => ⟨hkk, h⟩, fun h => h.2⟩
   · cases h
     exact ⟨rfl, j, e, i.seen, hje, hk, rfl⟩
   · rcases hw1 with rfl | rfl <;> rfl
   · rcases hw1 with rfl | rfl <;> rfl
   · rcases hw1 with rfl | rfl <;> rfl
   · rw [hset]; simp
   · have : k' ≠ r := fun e => hne (by rw [e])
     rw [hset]; simp [Array.getElem?_setIfInBounds, Ne.symm this]
   · exact owns_one (I := RanR r g i) (J := RanR r g ⟨i.since, i.seen.push e.born, s.clock⟩) rfl rfl (by show (setBlock _ _ _).heap[r]? = _; rw [hset]; simp [hlt]) o' (by rw [hset]; simp)
theorem pu_nextm {b : Bool} (hx : OT C.N Γ x (NextT b)) : Pure C Γ L ⟨dst, .extract x 0, ty, pos, after, guard⟩ (BoolT b) := fun a w H f s ow => by
 obtain ⟨l, hv⟩ := hx a H f
 exact ⟨.bool b, by simp [execOp, Instr.extract, hv], rfl⟩
theorem pu_entry_map {D : Ty} {v : α} (hx : OT C.N Γ x (IsV (pt r 0))) (hr : RanR r g i ∈ L) (hm : RanM g enc V m s ∈ L) (ho : RanOk m s i todo (some k)) (hl : lkp k m = some v) (hD : ∀ H, D.p H (enc k)) :
 Pure C Γ L ⟨dst, .entry x, ty, pos, after, guard⟩ (TupT [D, V v]) := fun a w H f st ow => by
 obtain ⟨hb, hR⟩ := ow.all _ hm
 have hr1 : w.heap[r]? = some (.mapIter (some g) i.since i.seen i.c0) := ow.all _ hr
 have hxv : a.eval x = pt r 0 := hx a H f
 obtain ⟨hc, j, e, seen, h1, h2, h3⟩ := ho.at_ k rfl
 obtain ⟨v', h4, h5, h6⟩ := hR.at_ h1 h2
 have hvv : v' = v := by have := lkp_at hR.nd h4; rw [hl] at this; exact (Option.some.inj this).symm
 subst hvv
 rw [h3, hc] at hr1
 have hrun := run_entry_at (P := C.P) w r g i.since seen s.es s.clock e hr1 hb (List.mem_of_getElem? h1) hR.bn
 refine ⟨.tuple #[e.key, e.val], ?_, [e.key, e.val], rfl, ?_⟩
 · simp only [execOp, hxv, Sem.run_bind, show (pt r 0) = Value.pointer (some ⟨r, 0, none⟩) from rfl, hrun, Result.andThen]
   rfl
 · exact ⟨by rw [h5]; exact hD H, h6, trivial⟩
theorem acts_delete_ran {ts : Array TypeId} (mk : MKey C.P kt K enc) (ht : C.P.underlying t = some (.map kt et)) (hts : ts[0]? = some t) (hx : OT C.N Γ x (IsV (mp g))) (hp : List.Perm L (RanM g enc V m s :: R)) (hy : OT C.N Γ y (K.T k)) :
 Acts C Γ L ⟨dst, .call ⟨.builtin .delete, #[x, y], ts⟩, ty, pos, after, guard⟩ [RanM g enc V m s] MS (fun _ => AnyT) (fun s' => [RanM g enc V (dlk k m) s']) (fun s' => ∀ i todo cur, RanOk m s i todo cur → k ∉ todo → RanOk (dlk k m) s' i todo none) := by
 intro a w H f st ow Q K' hK
 have o' := ow.perm hp
 obtain ⟨hb, hR⟩ := o'.all _ List.mem_cons_self
 have hown := o'.own g (blk_mem (i := RanM g enc V m s) List.mem_cons_self rfl)
 have hxv : a.eval x = .map (some g) := hx a H f
 have hyv : a.eval y = enc k := mk.val (hy a H f)
 have hfin : ∀ s' : MS, (execOp a.eval ⟨dst, .call ⟨.builtin .delete, #[x, y], ts⟩, ty, pos, after, guard⟩).run C.P w = .ok (.value (.tuple #[])) (setMap w g s'.es s'.clock) → MapR enc V H (dlk k m) s'.es s'.clock → (∀ i todo cur, RanOk m s i todo cur → k ∉ todo → RanOk (dlk k m) s' i todo none) → (Oper.mk dst (.call ⟨.builtin .delete, #[x, y], ts⟩) ty pos after guard).wp C.P a w K' Q := fun s' hrun hR' hφ => by
  simp only [Oper.wp, hrun, Oper.upon_value]
  refine hK s' _ _ H hφ (st_map st.on hown.2.1 (blk_mem (i := RanM g enc V m s) List.mem_cons_self rfl) _ _) trivial ?_
  exact owns_one (I := RanM g enc V m s) (J := RanM g enc V (dlk k m) s') rfl rfl ⟨map_heap hb, hR'⟩ o' (by simp)
 rcases find_run (k := k) mk hR w with ⟨h1, h2⟩ | ⟨j, e, v, h1, h2, h3, h4, h5⟩
 · refine hfin s ?_ (by rw [dlk_none h2]; exact hR) fun i todo cur ho hk => by rw [dlk_none h2]; exact ⟨ho.old, ho.le, ho.lc, ho.nd, ho.sub, ho.left, fun k h => by cases h⟩
   have hr : (Builtin.delete_ ts ty #[.map (some g), enc k]).run C.P w = .ok (.tuple #[]) (setMap w g s.es s.clock) := by simp [Builtin.delete_, hts, run_underlying ht, MapKept.run_getObj_map hb, mk.chk, h1, MapKept.run_setObj_map _ hb, Result.andThen]
   simp [execOp, resolve, invoke, builtin, hxv, hyv, hr, Result.andThen]
 · have hj : j < m.length := (List.getElem?_eq_some_iff.1 h3).1
   have hl : (s.es.eraseIdxIfInBounds j).toList = s.es.toList.eraseIdx j := by
    unfold Array.eraseIdxIfInBounds
    rw [dif_pos (by rw [hR.len]; exact hj)]; simp
   have hkd : keys (dlk k m) = (keys m).eraseIdx j := by rw [dlk_erase hR.nd h3]; unfold keys; rw [map_eraseIdx']
   refine hfin ⟨s.es.eraseIdxIfInBounds j, s.clock⟩ ?_ (hR.erase_ h3) fun i todo cur ho hk => ⟨fun e he => ho.old e ?_, ho.le, ho.lc, ho.nd, fun k' h => ?_, fun j' e' k' h6 h7 => ?_, fun k h => by cases h⟩
   · have hr : (Builtin.delete_ ts ty #[.map (some g), enc k]).run C.P w = .ok (.tuple #[]) (setMap w g (s.es.eraseIdxIfInBounds j) s.clock) := by simp [Builtin.delete_, hts, run_underlying ht, MapKept.run_getObj_map hb, mk.chk, h1, MapKept.run_setObj_map _ hb, Result.andThen]
     simp [execOp, resolve, invoke, builtin, hxv, hyv, hr, Result.andThen]
   · have he : e ∈ (s.es.eraseIdxIfInBounds j).toList := he
     rw [hl] at he; exact (List.eraseIdx_sublist _ _).subset he
   · have h8 := ho.sub k' h
     have hne : k' ≠ k := fun e => hk (e ▸ h)
     obtain ⟨j2, hj2, hjk⟩ := List.getElem_of_mem h8
     obtain ⟨v2, hv2⟩ : ∃ v2, (k', v2) ∈ m := by
      obtain ⟨p, hp1, hp2⟩ := List.mem_map.1 h8
      exact ⟨p.2, by rw [← hp2]; exact hp1⟩
     have h9 : lkp k' (dlk k m) = lkp k' m := by rw [lkp_del hR.nd, if_neg (fun e => hne e.symm)]
     refine Classical.byContradiction fun hc => ?_
     have := lkp_none.2 hc
     rw [h9] at this
     exact lkp_none.1 this h8
   · have h6 : (s.es.eraseIdxIfInBounds j).toList[j']? = some e' := h6
     rw [hl, List.getElem?_eraseIdx] at h6
     rw [hkd, List.getElem?_eraseIdx] at h7
     by_cases hjj : j' < j
     · rw [if_pos hjj] at h6 h7; exact ho.left j' e' k' h6 h7
     · rw [if_neg hjj] at h6 h7; exact ho.left (j' + 1) e' k' h6 h7
end
end Go.Gw
/- Typed walks: a guarded call that gives its items back as they were. Over any program. -/
namespace Go.Gw
open Go
set_option linter.unusedVariables false
section
variable {C : Cx} {Γ : Env} {L R J : List It} {Q : Exit → Act → World → Prop} {ops : Array Oper} {rest : List Oper}
theorem op_gu_same {o : Oper} {T : Ty} {φ : Unit → Prop} {j d : Nat} {want b : Bool} {p : Prop} (hg : o.guard = some (j, want)) (hj : (ops[j]?).bind (·.dst) = some d) (hdN : decide (d < C.N) = true) (hb : OT C.N Γ (.tmp d) (GuT p (BoolT b)))
 (hL : List.Perm L (J ++ R)) (hp : p ∧ b = want → Acts C Γ L o J Unit (fun _ => T) (fun _ => J) φ) (hd : dstOk C.N o.dst = true) (h : Tr C (upd o.dst (GuT (p ∧ b = want) T) Γ) L (wpList C.P ops Q rest)) : Tr C Γ L (wpList C.P ops Q (o :: rest)) := by
 intro a w H f s ow
 have hw := wanted_gu f hg hj hdN hb
 refine wpList_step fun K hK => ?_
 by_cases hc : p ∧ b = want
 · rw [if_pos (hw.2 hc)]
   refine hp hc a w H f s ow Q K fun r v w' H' hφ s' hv ho => hK _ _ ?_
   have ow' := ow.perm hL
   have hM : ∀ k, k ∈ blks J → C.M k ∨ C.w0.heap.size ≤ k := fun k hk => (ow'.left.own k hk).2.2
   refine h _ w' H' ((f.mono s'.sub).put o.dst hd ⟨fun _ => hv, fun hn => absurd hc hn⟩) (s.trans s' hM) (Owns.perm ?_ hL.symm)
   refine Owns.append (ho.mono fun g _ hg => ?_) (ow'.right.st s' fun g hg hj => ow'.apart g hj hg) fun g hg hr => ?_
   · rcases hg with hg | hg
     · exact hM g hg
     · exact .inr (Nat.le_trans s.size hg)
   · rcases (ho.own g hg).2.2 with h1 | h1
     · exact ow'.apart g h1 hr
     · have := (ow'.right.own g hr).1; omega
 · rw [if_neg (fun e => hc (hw.1 e))]
   exact hK _ _ (h _ w H (f.put o.dst hd ⟨fun e => absurd e hc, fun _ => rfl⟩) s ow)
theorem ropw_gu {o : Oper} {T : Ty} {j d : Nat} {want b : Bool} {p : Prop} (hg : o.guard = some (j, want)) (hj : (ops[j]?).bind (·.dst) = some d) (hdN : decide (d < C.N) = true) (hb : OT C.N Γ (.tmp d) (GuT p (BoolT b)))
 (h : p ∧ b = want → ROpW C Γ L L ops { o with guard := none } T) : ROpW C Γ L L ops o (GuT (p ∧ b = want) T) := fun a w H f s ow Q K hK => by
 have hw := wanted_gu f hg hj hdN hb
 by_cases hc : p ∧ b = want
 · rw [if_pos (hw.2 hc)]
   have := h hc a w H f s ow Q K fun v w' H' hs s' o' hv => hK v w' H' hs s' o' ⟨fun _ => hv, fun hn => absurd hc hn⟩
   rw [if_pos (by simp [Region.wanted])] at this
   exact this
 · rw [if_neg (fun e => hc (hw.1 e))]
   exact hK undef w H (Sub.refl _) s ow ⟨fun e => absurd e hc, fun _ => rfl⟩
end
end Go.Gw
/- Values of properties, plain: a rune's bytes as the program puts them together. -/
namespace Go.Vl
open Go Go.Gw
set_option linter.unusedVariables false
set_option linter.unusedSimpArgs false
theorem wrap8 (r : Int) : IntKind.u8.wrap r = r % 256 := by
 simp [IntKind.wrap, IntKind.bits, IntKind.signed]
abbrev enc (r : Int) : List UInt8 := Lib.encodeRune r
end Go.Vl
/- Values of properties, plain: what is wrong with one; its bytes; its number's bits. -/
namespace Go.Vl
open Go Go.Gw
set_option linter.unusedVariables false
set_option linter.unusedSimpArgs false
theorem wrap64 {x : Int} (h0 : 0 ≤ x) (h1 : x < 18446744073709551616) : IntKind.u64.wrap x = x := by
 simp [IntKind.wrap, IntKind.bits, IntKind.signed]; omega
theorem xor64 {x y : Nat} (hx : x < 18446744073709551616) (hy : y < 18446744073709551616) : bitsV .xor .u64 (x : Int) (y : Int) = ((x ^^^ y : Nat) : Int) := by
 have h : x ^^^ y < 2 ^ 64 := Nat.xor_lt_two_pow hx hy
 show IntKind.u64.wrap (((BitVec.ofInt 64 (x : Int)) ^^^ (BitVec.ofInt 64 (y : Int))).toNat : Int) = _
 rw [BitVec.toNat_xor, ofInt_u64 x hx, ofInt_u64 y hy]
 exact wrap64 (by omega) (by omega)
theorem or64 {x y : Nat} (hx : x < 18446744073709551616) (hy : y < 18446744073709551616) : bitsV .or .u64 (x : Int) (y : Int) = ((x ||| y : Nat) : Int) := by
 have h : x ||| y < 2 ^ 64 := Nat.or_lt_two_pow hx hy
 show IntKind.u64.wrap (((BitVec.ofInt 64 (x : Int)) ||| (BitVec.ofInt 64 (y : Int))).toNat : Int) = _
 rw [BitVec.toNat_or, ofInt_u64 x hx, ofInt_u64 y hy]
 exact wrap64 (by omega) (by omega)
end Go.Vl
/- The package-level variables that the rows list: one world that meets the list. The walks read none of them. -/
namespace Go.Proofs.YtaahhghlpoiihaaGreatDoor
open Go Go.Gw Go.RowKit
set_option linter.unusedVariables false
theorem opn_struct3g {P : Program} {α β γ : Type} {a : Kd α} {b : Kd β} {c : Kd γ} {g0 : α → Prop} {g1 : β → Prop} {g2 : γ → Prop} {t : TypeId} {f0 f1 f2 : Field} (ht : P.underlying t = some (.struct #[f0, f1, f2])) (h0 : Opn P f0.type a g0) (h1 : Opn P f1.type b g1) (h2 : Opn P f2.type c g2)
 (o0 : f0.offset = 0) (o1 : f1.offset = a.sz) (o2 : f2.offset = a.sz + b.sz) (s0 : P.cellsOf f0.type = a.sz) (s1 : P.cellsOf f1.type = b.sz) (s2 : P.cellsOf f2.type = c.sz) (s : P.cellsOf t = a.sz + b.sz + c.sz) : Opn P t (kpair a (kpair b c)) (fun x => g0 x.1 ∧ g1 x.2.1 ∧ g2 x.2.2) := fun Hh enc w fuel cs x h => by
 obtain ⟨xs, n, _, rfl, hl, hlen, hf⟩ := DataW.trod_struct ht h
 match xs, hlen with
 | [y0, y1, y2], _ =>
  have e0 := hf 0 f0 rfl
  have e1 := hf 1 f1 rfl
  have e2 := hf 2 f2 rfl
  simp only [List.getElem?_cons_zero, List.getElem?_cons_succ] at e0 e1 e2
  rw [o0, s0, List.drop_zero] at e0
  rw [o1, s1] at e1
  rw [o2, s2] at e2
  obtain ⟨u, hu, gu⟩ := h0 Hh enc w n _ _ e0
  obtain ⟨v, hv, gv⟩ := h1 Hh enc w n _ _ e1
  obtain ⟨z, hz, gz⟩ := h2 Hh enc w n _ _ e2
  refine ⟨(u, v, z), ⟨_, _, hu, ⟨_, _, hv, hz, rfl⟩, ?_⟩, gu, gv, gz⟩
  rw [List.take_of_length_le (l := cs.drop (a.sz + b.sz)) (by rw [List.length_drop]; omega)]
  rw [← List.drop_drop, List.take_append_drop, List.take_append_drop]
abbrev laidL : List (String × DataW Unit) := Rows.netBackRow.laid
theorem vars_of {W : World} (hS : W.ShapedOpen Tryz.prog) (hL : laidMet Tryz.prog laidL W) : True := trivial
theorem plain_all (w : World) : laidMetH Tryz.prog laidL w = laidMet Tryz.prog laidL w := MakeChecks.laidMetH_plain _ _ _ (by kernel_rfl)
theorem shp (os : Os) : (World.laidAll Tryz.prog os laidL).Shaped Tryz.prog := World.shaped_of_ZipB (by kernel_rfl) (by kernel_rfl)
theorem met (os : Os) (args : Array Value) : laidMet Tryz.prog laidL ((World.laidAll Tryz.prog os laidL).forCall (fun _ _ => 0) ⟨#[], args, []⟩).memory := laidMet_laidAll _ (by kernel_rfl) (by kernel_rfl)
end Go.Proofs.YtaahhghlpoiihaaGreatDoor
/- Rows whose argument is a script: slices of structs that hold slices, opened with their weights. Over any program. -/
namespace Go.Gw
open Go Go.ChangeShapes Go.WideShapes Go.RowKit
set_option linter.unusedVariables false
set_option linter.unusedSimpArgs false
theorem opnw_slice {P : Program} {α : Type} {d : Kd α} {good : α → Prop} {t el : TypeId} (B : Nat) (hd : OpnW P el d good) (ht : P.underlying t = some (.slice el)) (hB : P.bytesOf el = B) (hs : P.cellsOf el = d.sz) (h0 : 0 < d.sz) : OpnW P t (ksl d) (fun xs => (∀ x ∈ xs, good x) ∧ xs.length * B ≤ reachBytes) := fun Hh enc w fuel cs x h hw => by
 rcases DataW.trod_slice ht h with ⟨rfl, _⟩ | ⟨a, len, cap, elems, rest, m, _, rfl, hx0, _, hlc, hcm, hel, hi, _, _⟩
 · exact ⟨[], ⟨_, rfl, none, 0, rfl, by simp, by simp, fun h => by simp at h⟩, by simp, by simp⟩
 have hall : ∀ (l : List (DataW Hh × List MemPlace)) (i : Nat) (hi : i < l.length) (n : Nat), n ∈ (l[i]).1.weights P el → n ∈ DataW.weightsAll P el (l.map (·.1)) := by
  intro l
  induction l with
  | nil => intro i hi; simp at hi
  | cons y l ih =>
   intro i hi n hn
   rw [List.map_cons, DataW.weightsAll]
   cases i with
   | zero => exact List.mem_append_left _ hn
   | succ i => exact List.mem_append_right _ (ih i (by simpa using hi) n hn)
 have hx1 : x.1 = .slice (elems.map (·.1)) (rest.map (·.1)) := by rw [hx0]
 rw [hx1] at hw
 have hwe : ∀ i (hi : i < elems.length), ∀ n ∈ (elems[i]).1.weights P el, n ≤ reachBytes := fun i hi n hn => hw n (by
  simp only [DataW.weights, ht]
  exact List.mem_cons_of_mem _ (List.mem_append_left _ (hall elems i hi n hn)))
 have hlen : len * B ≤ reachBytes := by
  have h1 := hw ((elems.length + rest.length) * B) (by
   simp only [DataW.weights, ht, hB, List.length_map]
   exact List.mem_cons_self)
  rw [hel] at h1
  exact Nat.le_trans (Nat.mul_le_mul_right _ (by omega)) h1
 obtain ⟨xs, h1, h2⟩ := list_of (p := fun i v => ∃ cs', d.K (heapOf w) v cs' ∧ cs'.length = d.sz ∧ (∀ j, j < d.sz → w.cell? ((a.add (i * d.sz)).add j) = cs'[j]?) ∧ good v) len fun i hin => by
  have h3 := hi i hin
  rw [hs, List.getElem?_eq_getElem (by omega), Option.bind_eq_some_iff] at h3
  obtain ⟨cs', hc, ht'⟩ := h3
  obtain ⟨v, hv, hg⟩ := hd Hh enc w m _ _ ht' (hwe i (by omega))
  obtain ⟨_, hl, hat⟩ := World.cells?_some hc
  exact ⟨v, cs', hv, hl, hat, hg⟩
 refine ⟨xs, ⟨_, rfl, some a, cap, by rw [h1], by rw [h1]; exact hlc, by rw [h1]; exact Nat.le_trans hlc hcm, fun hpos => ?_⟩, fun x hx => ?_, by rw [h1]; exact hlen⟩
 · obtain ⟨cs0, _, hl0, hat0, _⟩ := h2 0 _ (List.getElem?_eq_getElem (by omega : 0 < xs.length))
   have hc0 : w.cell? ((a.add (0 * d.sz)).add 0) = some cs0[0] := by rw [hat0 0 h0, List.getElem?_eq_getElem (by omega)]
   obtain ⟨b, off, spot⟩ := a
   have hspot : spot = none := by
    cases spot with
    | none => rfl
    | some q => simpa [Addr.add] using World.cell?_spot hc0
   subst hspot
   have hblk : ∃ cells e fr, w.heap[b]? = some (.cells cells e fr) := by
    unfold World.cell? at hc0
    simp only [add_plain] at hc0
    split at hc0
    · rename_i c e fr hb; exact ⟨c, e, fr, hb⟩
    · cases hc0
   obtain ⟨cells, e, fr, hb⟩ := hblk
   have hcell : ∀ k, w.cell? ⟨b, k, none⟩ = cells[k]? := fun k => by unfold World.cell?; rw [hb]; simp
   have hat : ∀ i x, xs[i]? = some x → ∃ cs', d.K (heapOf w) x cs' ∧ cs'.length = d.sz ∧ ∀ j, j < d.sz → cells[off + i * d.sz + j]? = cs'[j]? := fun i x e' => by
    obtain ⟨cs', k1, k2, k3, _⟩ := h2 i x e'
    exact ⟨cs', k1, k2, fun j hj => by rw [← hcell, ← k3 j hj, add_plain, add_plain]⟩
   have hfit : off + xs.length * d.sz ≤ cells.size := by
    have hlt : xs.length - 1 < xs.length := by omega
    obtain ⟨cs', k1, k2, k3⟩ := hat (xs.length - 1) _ (List.getElem?_eq_getElem hlt)
    have h5 := k3 (d.sz - 1) (by omega)
    rw [List.getElem?_eq_getElem (by omega)] at h5
    have h6 := (Array.getElem?_eq_some_iff.1 h5).1
    have h7 : (xs.length - 1) * d.sz + d.sz = xs.length * d.sz := by rw [← Nat.succ_mul]; congr 1; omega
    omega
   refine ⟨⟨b, off, none⟩, cells, e, fr, (cells.toList.drop off).take (xs.length * d.sz), rfl, rfl, hb, ⟨?_, fun j x e' => ?_⟩, fun i u e' => ?_⟩
   · have e9 : cells.toList.length = cells.size := Array.length_toList
     rw [List.length_take, List.length_drop, e9]; omega
   · obtain ⟨cs', k1, k2, k3⟩ := hat j x e'
     have hj := (List.getElem?_eq_some_iff.1 e').1
     have hle : j * d.sz + d.sz ≤ xs.length * d.sz := by rw [← Nat.succ_mul]; exact Nat.mul_le_mul_right _ hj
     have : (((cells.toList.drop off).take (xs.length * d.sz)).drop (j * d.sz)).take d.sz = cs' := by
      apply List.ext_getElem?
      intro i
      rw [List.getElem?_take]
      by_cases hi' : i < d.sz
      · rw [if_pos hi', List.getElem?_drop, List.getElem?_take, if_pos (by omega), List.getElem?_drop, ← Nat.add_assoc, Array.getElem?_toList, k3 i hi']
      · rw [if_neg hi', List.getElem?_eq_none (by omega)]
     rw [this]; exact k1
   · rw [List.getElem?_take] at e'
     split at e'
     · rw [List.getElem?_drop, Array.getElem?_toList] at e'; exact e'
     · cases e'
 · obtain ⟨i, hi⟩ := List.getElem?_of_mem hx
   obtain ⟨_, _, _, _, hg⟩ := h2 i x hi
   exact hg
theorem opnw_struct2 {P : Program} {α β : Type} {a : Kd α} {b : Kd β} {g0 : α → Prop} {g1 : β → Prop} {t : TypeId} {f0 f1 : Field} (ht : P.underlying t = some (.struct #[f0, f1])) (h0 : OpnW P f0.type a g0) (h1 : OpnW P f1.type b g1)
 (o0 : f0.offset = 0) (o1 : f1.offset = a.sz) (s0 : P.cellsOf f0.type = a.sz) (s1 : P.cellsOf f1.type = b.sz) (s : P.cellsOf t = a.sz + b.sz) : OpnW P t (kpair a b) (fun x => g0 x.1 ∧ g1 x.2) := fun Hh enc w fuel cs x h hw => by
 obtain ⟨xs, n, _, rfl, hl, hlen, hf⟩ := DataW.trod_struct ht h
 match xs, hlen with
 | [y0, y1], _ =>
  have e0 := hf 0 f0 rfl
  have e1 := hf 1 f1 rfl
  simp only [List.getElem?_cons_zero, List.getElem?_cons_succ] at e0 e1
  have hwt : ∀ n, (n ∈ y0.1.weights P f0.type ∨ n ∈ y1.1.weights P f1.type) → n ≤ reachBytes := fun n hn => hw n (by
   simp only [DataW.weights, ht, List.map_cons, List.map_nil, DataW.weightsEach, List.mem_append, List.append_nil]
   exact hn)
  rw [o0, s0, List.drop_zero] at e0
  rw [o1, s1] at e1
  obtain ⟨u, hu, gu⟩ := h0 Hh enc w n _ _ e0 (fun n hn => hwt n (.inl hn))
  obtain ⟨v, hv, gv⟩ := h1 Hh enc w n _ _ e1 (fun n hn => hwt n (.inr hn))
  refine ⟨(u, v), ⟨_, _, hu, hv, ?_⟩, gu, gv⟩
  rw [List.take_of_length_le (l := cs.drop a.sz) (by rw [List.length_drop]; omega), List.take_append_drop]
end Go.Gw
