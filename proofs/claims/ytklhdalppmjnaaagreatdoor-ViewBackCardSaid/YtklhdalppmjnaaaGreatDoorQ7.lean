/- The texts JnB, G33, Jn1, Jn2, Jn3, JnE, JnC, JnD, JnF, Jn4, Jn5, JnG, Jn6, JnH, Jn7, JnL, JnM, JnN, G29, G34, G36, G37, G39, G43, G45, G46, VlA, VlB, Tu7, Tu8, TuF, Tu9, NtA, NtK, Nt1 of this claim, put together in their order. No condition of their own. -/
import Derived.Test.YtklhdalppmjnaaaGreatDoorQ4
import Derived.Test.YtklhdalppmjnaaaGreatDoorQ6
import Derived.ChangeKeysEq
import Derived.Laws.StructEq
import Derived.Test.YtklhdalppmjnaaaGreatDoorQ1
import Derived.Test.YtklhdalppmjnaaaGreatDoorRows
import Derived.Handed
import Derived.SizedLaws
import Derived.LaidLaws
import Derived.Lib.LaidTab
import Derived.Test.YtklhdalppmjnaaaGreatDoorQ2
import Derived.Lib.TrimUEq
import Derived.Laws.IdiomCopy
import Derived.Lib.AppendStr
import Derived.Lib.UnsafeStr
import Derived.Lib.Builder
import Derived.Laws.Externs
import Derived.Maps.RangeRun
import Derived.Lib.RuneBytes
import Derived.Lib.ValidLaws
import Derived.Laws.BitsAllLaws
set_option linter.unusedVariables false
set_option linter.unusedSimpArgs false
set_option linter.unusedSectionVars false
set_option maxHeartbeats 1000000
set_option maxRecDepth 20000
namespace Go.Jn
open Go Go.Gw Go.Tu
def ixI (vs : List Lab) (x : Lab) : Int := if vs.contains x then (ix vs x : Int) else -1
theorem Qc8 {vs : List Lab} {x : Lab} (h : x ∈ vs) : ixI vs x = (ix vs x : Int) := by unfold ixI; rw [if_pos (by simpa using h)]
theorem Qpy {vs : List Lab} {x : Lab} (h : x ∈ vs) : ix vs x < vs.length := List.idxOf_lt_length_of_mem h
section
variable {vs : List Lab} {x : Lab} {k : Nat}
theorem Quj (h : k < vs.length) (hno : x ∉ vs.take k) (he : x = at' vs (k : Int)) : ixI vs x = (k : Int) := by
 rw [Qz h] at he
 have hin : x ∈ vs := he ▸ List.getElem_mem h
 rw [Qc8 hin]
 have hs := List.take_append_drop k vs
 rw [List.drop_eq_getElem_cons h, ← he] at hs
 unfold ix
 rw [← hs, List.idxOf_append, if_neg hno, List.length_take]
 simp; omega
theorem Quk (h : k < vs.length) (hno : x ∉ vs.take k) (he : ¬ x = at' vs (k : Int)) : x ∉ vs.take (k + 1) := by
 rw [Qz h] at he
 rw [List.take_succ_eq_append_getElem h]
 simp only [List.mem_append, List.mem_singleton]
 rintro (h1 | h1)
 · exact hno h1
 exact he h1
theorem Qul (hno : x ∉ vs.take vs.length) : ixI vs x = -1 := by
 rw [List.take_length] at hno
 unfold ixI; rw [if_neg (by simpa using hno)]
theorem Qyx : decide (0 ≤ ixI vs x) = vs.contains x := by
 unfold ixI
 split
 · rename_i h; rw [h]; simp
 rename_i h; simp only [Bool.not_eq_true] at h; rw [h]; rfl
end
theorem Qi4 (l : Lab) : (decide ((1 : Int) ≤ (l.length : Int)) && decide ((l.length : Int) ≤ 16) && !(!l.all Qbb)) = Yo l := by
 unfold Yo
 rw [Bool.not_not]
 congr 1
 congr 1
 · rw [Bool.eq_iff_iff]; simp; omega
 rw [Bool.eq_iff_iff]; simp; omega
theorem Qlv {al : List Atm} {k : Nat} (h : k < al.length) : Qa (al.take (k + 1)) = Qav (Qa (al.take k)) (at' al (k : Int)) := by
 rw [Qz h, List.take_succ_eq_append_getElem h, Qc5]
end Go.Jn
namespace Go.Jn
open Go Go.Gw Go.Tu
def Qfw (out : List Lab) (a : Atm) (j : Nat) : List Lab := ([a.1, a.2.2].take j).foldl Wh out
theorem Qof (out : List Lab) (a : Atm) {j : Nat} (h : j < ([a.1, a.2.2] : List Lab).length) : Qfw out a (j + 1) = Wh (Qfw out a j) (at' [a.1, a.2.2] (j : Int)) := by
 unfold Qfw
 rw [Qz h, List.take_succ_eq_append_getElem h, List.foldl_append]; rfl
theorem Qrn (out : List Lab) (a : Atm) (j : Nat) : (Qfw out a j).length ≤ out.length + 2 := by
 have h1 : ∀ (x : Lab) (o : List Lab), (Wh o x).length ≤ o.length + 1 := fun x o => by rw [Qbq]; split <;> omega
 unfold Qfw
 match j with
 | 0 => simp
 | 1 => exact Nat.le_trans (h1 _ _) (by omega)
 | j + 2 => have := h1 a.2.2 (Wh out a.1); have := h1 a.1 out; simp only [List.take_succ_cons, List.take_nil, List.foldl_cons, List.foldl_nil]; omega
end Go.Jn
namespace Go.Jn
open Go Go.Gw Go.Tu
def Qd8 (a : Atm) : Bool := Yo a.1 && Yo a.2.1 && Yo a.2.2
def preB (v : Vw) : Bool := Yo v.1 && decide (v.2.2.2.2 = []) && decide ((1 : Int) ≤ v.2.2.1.length) && decide ((v.2.2.1.length : Int) ≤ 6) && decide ((1 : Int) ≤ v.2.2.2.1.length) && decide ((v.2.2.2.1.length : Int) ≤ 8)
def Qog (v : Vw) : Bool := Yo v.1 && Yo v.2.2.2.2 && decide ((v.2.2.1.length : Int) = 0) && decide ((v.2.2.2.1.length : Int) = 0)
def J3 (v : Vw) : Bool := if v.2.1 = 2 then Qog v else if v.2.1 = 1 then preB v && v.2.2.2.1.all Qd8 && Qhn (Qa v.2.2.2.1) v.2.2.1 else false
end Go.Jn
namespace Go.Jn
open Go Go.Gw Go.Tu
theorem Qi5 {α : Type} [Inhabited α] {l : List α} {p : α → Bool} {k : Nat} (h : k < l.length) : (l.take (k + 1)).all p = ((l.take k).all p && p (at' l (k : Int))) := by
 rw [Qz h, List.take_succ_eq_append_getElem h, List.all_append]; simp
theorem Qoh {v : Vw} {k : Nat} (h : k < v.2.2.2.1.length) : (preB v && (v.2.2.2.1.take k).all Qd8 && Yo (at' v.2.2.2.1 (k : Int)).1 && Yo (at' v.2.2.2.1 (k : Int)).2.1 && Yo (at' v.2.2.2.1 (k : Int)).2.2) = (preB v && (v.2.2.2.1.take (k + 1)).all Qd8) := by
 rw [Qi5 h]; unfold Qd8; simp only [Bool.and_assoc]
theorem Qum {V out : List Lab} {i : Nat} (h : i < out.length) : (Qhn V (out.take i) && V.contains (at' out (i : Int)) && !(out.take i).contains (at' out (i : Int))) = Qhn V (out.take (i + 1)) := by
 unfold Qhn
 rw [Qi5 h]
 have hn : (out.take (i + 1)).Nodup ↔ (out.take i).Nodup ∧ at' out (i : Int) ∉ out.take i := by
  rw [Qz h, List.take_succ_eq_append_getElem h, List.nodup_append]
  constructor
  · rintro ⟨h1, _, h3⟩
    exact ⟨h1, fun hm => h3 _ hm _ (by simp) rfl⟩
  rintro ⟨h1, h2⟩
  refine ⟨h1, by simp, fun a ha b hb e => ?_⟩
  have : b = out[i] := by simpa using hb
  subst this; subst e; exact h2 ha
 rw [Bool.eq_iff_iff]
 simp only [Bool.and_eq_true, decide_eq_true_eq, hn, Bool.not_eq_true', List.contains_eq_mem, decide_eq_false_iff_not]
 constructor
 · rintro ⟨⟨⟨h1, h2⟩, h3⟩, h4⟩; exact ⟨⟨h1, h3⟩, h2, h4⟩
 rintro ⟨⟨h1, h3⟩, h2, h4⟩; exact ⟨⟨⟨h1, h2⟩, h3⟩, h4⟩
theorem Q4b {v : Vw} {b : Bool} (h : decide (v.2.1 = 2) = true) (hb : (!Qog v) = b) : (if b then (1 : Int) else 0) = if J3 v then 0 else 1 := by
 have h1 : v.2.1 = 2 := by simpa using h
 unfold J3; rw [if_pos h1, ← hb]; cases Qog v <;> rfl
theorem Q47 {v : Vw} (h : decide (v.2.1 = 2) = false) (h1 : decide (v.2.1 = 1) = false) : (1 : Int) = if J3 v then 0 else 1 := by
 have h2 : ¬ v.2.1 = 2 := by simpa using h
 have h3 : ¬ v.2.1 = 1 := by simpa using h1
 unfold J3; rw [if_neg h2, if_neg h3]; rfl
theorem Q48 {v : Vw} (h : decide (v.2.1 = 2) = false) (h1 : decide (v.2.1 = 1) = true) (hp : (!(preB v && v.2.2.2.1.all Qd8)) = true) : (1 : Int) = if J3 v then 0 else 1 := by
 have h2 : ¬ v.2.1 = 2 := by simpa using h
 have h3 : v.2.1 = 1 := by simpa using h1
 have h4 : (preB v && v.2.2.2.1.all Qd8) = false := by cases hx : (preB v && v.2.2.2.1.all Qd8) with
  | false => rfl
  | true => rw [hx] at hp; exact hp.symm
 unfold J3; rw [if_neg h2, if_pos h3, h4]; rfl
theorem Q4c {v : Vw} {b : Bool} (h : decide (v.2.1 = 2) = false) (h1 : decide (v.2.1 = 1) = true) (hp : (!(preB v && v.2.2.2.1.all Qd8)) = false) (ho : (!Qhn (Qa v.2.2.2.1) v.2.2.1) = b) : (if b then (1 : Int) else 0) = if J3 v then 0 else 1 := by
 have h2 : ¬ v.2.1 = 2 := by simpa using h
 have h3 : v.2.1 = 1 := by simpa using h1
 have h4 : (preB v && v.2.2.2.1.all Qd8) = true := by cases hx : (preB v && v.2.2.2.1.all Qd8) with
  | true => rfl
  | false => rw [hx] at hp; exact hp.symm
 unfold J3; rw [if_neg h2, if_pos h3, h4, ← ho]; cases Qhn (Qa v.2.2.2.1) v.2.2.1 <;> rfl
theorem Qun {v : Vw} (h : preB v = true) : v.2.2.1.length ≤ 6 ∧ 1 ≤ v.2.2.1.length ∧ v.2.2.2.1.length ≤ 8 ∧ 1 ≤ v.2.2.2.1.length := by
 unfold preB at h
 simp only [Bool.and_eq_true, decide_eq_true_eq] at h
 omega
theorem Qyy (v : Vw) : (preB v && v.2.2.2.1.all Qd8) = Qrm v := by
 unfold preB Qrm Qd8
 have e : ∀ (n : Nat) (c : Nat), decide ((n : Int) ≤ (c : Int)) = decide (n ≤ c) := fun n c => by rw [Bool.eq_iff_iff]; simp
 have e1 : ∀ n : Nat, decide ((1 : Int) ≤ (n : Int)) = decide (1 ≤ n) := fun n => by rw [Bool.eq_iff_iff]; simp; omega
 rw [e1, e1, show (6 : Int) = ((6 : Nat) : Int) from rfl, show (8 : Int) = ((8 : Nat) : Int) from rfl, e, e]
theorem Qho (v : Vw) : (decide (v.2.1 ≠ 1) || decide ((if J3 v then (0 : Int) else 1) ≠ 0)) = !okV v := by
 rw [decide_not, decide_not]
 unfold okV
 by_cases h : v.2.1 = 1
 · have h2 : ¬ v.2.1 = 2 := by omega
   unfold J3
   rw [if_neg h2, if_pos h, Qyy]
   cases hb : (Qrm v && Qhn (Qa v.2.2.2.1) v.2.2.1) <;> simp [h, hb]
 simp [h]
end Go.Jn
namespace Go.Gw
open Go
theorem J9.mono {H H' : FH} (hs : Sub H H') : ∀ {As : List Ty} {vs : List Value}, J9 H As vs → J9 H' As vs
 | [], [], _ => trivial
 | T :: As, v :: vs, h => ⟨Ty.mono T hs h.1, J9.mono hs h.2⟩
section
variable {P : Program} {f : FuncId} {As As' : List Ty} {J : List It} {ρ : Type} {T : ρ → Ty} {φ : ρ → Prop} {Q : FH → Prop} {K0 : FH} {n0 : Nat}
open Classical in
theorem Qro {H H1 H2 : FH} {w w' : World} (hon : On H w) (hO : Xr (fun _ => True) w H J) (h1 : Sub H H1) (hn : ∀ k o, H1 k = some o → H k = some o ∨ k ∈ X9 J) (hs : St (fun g => g ∈ X9 []) H1 w H2 w') :
 ∃ H', St (fun g => g ∈ X9 J) H w H' w' ∧ Xr (fun g => g ∈ X9 J ∨ w.heap.size ≤ g) w' H' J := by
 have hst : St noM H w (fun k => if H k = none ∧ k ∈ X9 J then none else H2 k) w' := by
  refine ⟨fun k o e => ?_, fun k o e => ?_, hs.os, hs.tape, hs.output, hs.size, fun k hk _ => hs.keep k hk (by simp [X9]), fun k o e => ?_⟩
  · show (if H k = none ∧ k ∈ X9 J then none else H2 k) = some o
    rw [if_neg (fun h => by rw [h.1] at e; cases e)]
    exact hs.sub k o (h1 k o e)
  · by_cases hc : H k = none ∧ k ∈ X9 J
    · simp only [if_pos hc] at e; cases e
    simp only [if_neg hc] at e; exact hs.on k o e
  by_cases hc : H k = none ∧ k ∈ X9 J
  · simp only [if_pos hc] at e; cases e
  simp only [if_neg hc] at e
  rcases hs.new k o e with e2 | e2 | e2
  · rcases hn k o e2 with e3 | e3
    · exact .inl e3
    refine .inl ?_
    cases hk : H k with
    | none => exact absurd ⟨hk, e3⟩ hc
    | some o' => have := h1 k o' hk; rw [e2] at this; cases this; rfl
  · exact .inr (.inl e2)
  exact absurd e2 (by simp [X9])
 refine ⟨_, hst.none, ?_⟩
 have hO2 : Xr (fun g => g ∈ X9 J ∨ w.heap.size ≤ g) w H J := ⟨hO.all, hO.nodup, fun g hg => ⟨(hO.own g hg).1, (hO.own g hg).2.1, .inl hg⟩⟩
 exact hO2.st0 hst
theorem Ct.lend (hf : Frz J Q) (h : Ct P f As [] ρ T (fun _ => []) φ) (hc : ∀ H args, J9 H As' args → Q H → J9 H As args) (hT : ∀ r H H' v, (T r).p H v → (T r).p H' v) : Ct P f As' J ρ T (fun _ => J) φ := by
 intro H w args hon hA hO
 have hO2 : Xr (fun g => g ∈ X9 J) w H (J ++ []) := by rw [List.append_nil]; exact ⟨hO.all, hO.nodup, fun g hg => ⟨(hO.own g hg).1, (hO.own g hg).2.1, hg⟩⟩
 obtain ⟨H1, h1, h2, h3, _, h5⟩ := hf _ w H [] hon hO2
 refine (h H1 w args h2 (hc H1 args (hA.mono h1) h5) Xr.nil).mono ?_
 rintro e w' ⟨r, v, H2, rfl, hφ, hs, hv, _⟩
 obtain ⟨H', k1, k2⟩ := Qro hon hO h1 h3 hs
 exact ⟨r, v, H', rfl, hφ, k1, hT r _ _ v hv, k2⟩
theorem Qrp {ρ : Type} {b : ρ → Bool} : ∀ (r : ρ) (H H' : FH) (v : Value), (Xd (b r)).p H v → (Xd (b r)).p H' v := fun _ _ _ _ h => h
theorem Qyz {A B : Ty} {As : List Ty} {args : List Value} {H : FH} (hAB : ∀ v, A.p H v → B.p H v) (h : J9 H (A :: As) args) : J9 H (B :: As) args := by
 match args, h with
 | v :: vs, h => exact ⟨hAB v h.1, h.2⟩
theorem Ct.lend_hd {α : Type} {d : Kd α} {e : TypeId} {v : Value} {xs : List α} (h : Ct P f (SlT d xs :: As) [] ρ T (fun _ => []) φ) (hT : ∀ r H H' v, (T r).p H v → (T r).p H' v) : Ct P f (IsV v :: As) [Qg e d v xs] ρ T (fun _ => [Qg e d v xs]) φ :=
 Ct.lend Frz.own h (fun H args hA hQ => Qyz (fun u hu => by rw [show u = v from hu]; exact hQ) hA) hT
end
end Go.Gw
namespace Go.Gw
open Go Go.MapKept
section
variable {C : Cx} {Γ : Env} {L R : List It} {dst : Option Tmp} {ty : TypeId} {pos : String} {after : Array Edge} {guard : Option (Nat × Bool)} {x y z : Operand}
variable {κ α : Type} [DecidableEq κ] {t kt et : TypeId} {K : Kd κ} {enc : κ → Value} {m : List (κ × α)} {g st : Nat} {k : κ}
theorem Vj {d : Kd α} {z0 : α} (mk : Kx C.P kt K enc) (ht : C.P.underlying t = some (.map kt et)) (hz : Xv C.P et d z0) (hx : OT C.N Γ x (IsV (mp g))) (hm : Qis g enc d.T (ptk k ((lkp k m).getD z0) m) k st ∈ L) (hy : OT C.N Γ y (K.T k)) :
 Pure C Γ L ⟨dst, .lookup t x y false, ty, pos, after, guard⟩ (d.T ((lkp k m).getD z0)) := fun a w H f s ow => by
 obtain ⟨es, clock, hb, hR, _⟩ := ow.all _ hm
 obtain ⟨zv, hzr, hzt⟩ := Kn (w := w) hz
 have hxv : a.eval x = mp g := hx a H f
 have hyv : a.eval y = enc k := mk.val (hy a H f)
 have hl : lkp k (ptk k ((lkp k m).getD z0) m) = some ((lkp k m).getD z0) := by rw [Xl, if_pos rfl]
 rcases V8 (k := k) mk ht hb hR hzr with ⟨h1, _⟩ | ⟨v0, v, h1, h2, h3, _⟩
 · rw [hl] at h1; cases h1
 rw [hl] at h1; cases h1; exact ⟨v, by simp [execOp, hxv, hyv, h3, Result.andThen], h2⟩
end
end Go.Gw
namespace Go.Gw
theorem Yf {L : List It} (i j : Nat) {x y : It} (h : L[i]? = some x) (h' : (L.eraseIdx i)[j]? = some y) : L.Perm ([x, y] ++ (L.eraseIdx i).eraseIdx j) := (Qq i h).trans ((Qq j h').cons x)
end Go.Gw
namespace Go.Proofs.YtklhdalppmjnaaaGreatDoor
open Go Go.Gw Go.So Go.Tu Go.Jn
abbrev kI : Kd Int := Jm .i64
abbrev kE : Kd Ed := Xm kI (Xm kS kI)
abbrev kA : Kd Atm := Xm kS (Xm kS kS)
abbrev kV : Kd Vw := Xm kS (Xm kI (Xm (ksl kS) (Xm (ksl kA) kS)))
abbrev kPP : Kd Pr := kP2 kI
theorem zI : Xv Tryz.prog 3 kI 0 := ⟨.int .i64 0, by kernel_rfl, fun H => rfl⟩
theorem zS : Xv Tryz.prog 9 kS [] := ⟨.string (bs []), by kernel_rfl, fun H => rfl⟩
theorem Ue {α : Type} {d : Kd α} {H : FH} : (SlT d []).p H Qn := ⟨none, 0, rfl, by simp, by simp, fun h => by simp at h⟩
theorem e_p (H : FH) (t : Ed) : (kE.T t).p H (.agg #[.int .i64 t.1, .string (bs t.2.1), .int .i64 t.2.2]) := ⟨[.int .i64 t.1, .string (bs t.2.1), .int .i64 t.2.2], ⟨[_], [_, _], rfl, ⟨[_], [_], rfl, rfl, rfl⟩, rfl⟩, rfl⟩
theorem a_p (H : FH) (t : Atm) : (kA.T t).p H (.agg #[.string (bs t.1), .string (bs t.2.1), .string (bs t.2.2)]) := ⟨[.string (bs t.1), .string (bs t.2.1), .string (bs t.2.2)], ⟨[_], [_, _], rfl, ⟨[_], [_], rfl, rfl, rfl⟩, rfl⟩, rfl⟩
theorem zE : Xv Tryz.prog 42 kE (0, [], 0) := ⟨.agg #[.int .i64 0, .string (bs []), .int .i64 0], by kernel_rfl, fun H => e_p H (0, [], 0)⟩
theorem zA : Xv Tryz.prog 49 kA ([], [], []) := ⟨.agg #[.string (bs []), .string (bs []), .string (bs [])], by kernel_rfl, fun H => a_p H ([], [], [])⟩
theorem zV : Xv Tryz.prog 25 kV ([], 0, [], [], []) := ⟨.agg #[.string (bs []), .int .i64 0, Qn, Qn, .string (bs [])], by kernel_rfl, fun H => ⟨[.string (bs []), .int .i64 0, Qn, Qn, .string (bs [])], ⟨[_], [_, _, _, _], rfl, ⟨[_], [_, _, _], rfl, ⟨[_], [_, _], ⟨Qn, rfl, Ue⟩, ⟨[_], [_], ⟨Qn, rfl, Ue⟩, rfl, rfl⟩, rfl⟩, rfl⟩, rfl⟩, rfl⟩⟩
theorem zT : Xv Tryz.prog 51 kT [] := ⟨Qn, by kernel_rfl, fun H => Ue⟩
theorem zP : Xv Tryz.prog 108 kPP (0, 0) := ⟨.agg #[.int .i64 0, .int .i64 0], by kernel_rfl, fun H => ⟨[.int .i64 0, .int .i64 0], ⟨rfl, rfl, fun j x e => by
 match j, e with
 | 0, e => cases e; rfl
 | 1, e => cases e; rfl
 | j + 2, e => simp at e⟩, rfl⟩⟩
theorem le0 {t : Ed} : Qe kE kI 0 t t.1 (fun y => (y, t.2)) := Qe.fst
theorem le1 {t : Ed} : Qe kE kS 1 t t.2.1 (fun y => (t.1, y, t.2.2)) := Qe.comp (Qe.snd (a := kI) (b := Xm kS kI)) (Qe.fst (a := kS) (b := kI))
theorem le2 {t : Ed} : Qe kE kI 2 t t.2.2 (fun y => (t.1, t.2.1, y)) := Qe.comp (Qe.snd (a := kI) (b := Xm kS kI)) (Qe.snd (a := kS) (b := kI))
theorem la0 {t : Atm} : Qe kA kS 0 t t.1 (fun y => (y, t.2)) := Qe.fst
theorem la1 {t : Atm} : Qe kA kS 1 t t.2.1 (fun y => (t.1, y, t.2.2)) := Qe.comp (Qe.snd (a := kS) (b := Xm kS kS)) (Qe.fst (a := kS) (b := kS))
theorem la2 {t : Atm} : Qe kA kS 2 t t.2.2 (fun y => (t.1, t.2.1, y)) := Qe.comp (Qe.snd (a := kS) (b := Xm kS kS)) (Qe.snd (a := kS) (b := kS))
abbrev kV4 : Kd (List Atm × Lab) := Xm (ksl kA) kS
abbrev kV3 : Kd (List Lab × List Atm × Lab) := Xm (ksl kS) kV4
abbrev kV2 : Kd (Int × List Lab × List Atm × Lab) := Xm kI kV3
theorem lv0 {t : Vw} : Qe kV kS 0 t t.1 (fun y => (y, t.2)) := Qe.fst
theorem lv1 {t : Vw} : Qe kV kI 1 t t.2.1 (fun y => (t.1, y, t.2.2)) := Qe.comp (Qe.snd (a := kS) (b := kV2)) (Qe.fst (a := kI) (b := kV3))
theorem lv2 {t : Vw} : Qe kV (ksl kS) 2 t t.2.2.1 (fun y => (t.1, t.2.1, y, t.2.2.2)) := Qe.comp (Qe.snd (a := kS) (b := kV2)) (Qe.comp (Qe.snd (a := kI) (b := kV3)) (Qe.fst (a := ksl kS) (b := kV4)))
theorem lv3 {t : Vw} : Qe kV (ksl kA) 3 t t.2.2.2.1 (fun y => (t.1, t.2.1, t.2.2.1, y, t.2.2.2.2)) := Qe.comp (Qe.snd (a := kS) (b := kV2)) (Qe.comp (Qe.snd (a := kI) (b := kV3)) (Qe.comp (Qe.snd (a := ksl kS) (b := kV4)) (Qe.fst (a := ksl kA) (b := kS))))
theorem lv4 {t : Vw} : Qe kV kS 4 t t.2.2.2.2 (fun y => (t.1, t.2.1, t.2.2.1, t.2.2.2.1, y)) := Qe.comp (Qe.snd (a := kS) (b := kV2)) (Qe.comp (Qe.snd (a := kI) (b := kV3)) (Qe.comp (Qe.snd (a := ksl kS) (b := kV4)) (Qe.snd (a := ksl kA) (b := kS))))

/-- slices.Index[[]string,string] -/
theorem W1 (vs : List Lab) (x : Lab) (hm : vs.length ≤ 1000000) : Ct Tryz.prog 50 [SlT kS vs, BsT x] ([]) Unit (fun _ => I64 (ixI vs x)) (fun _ => []) (fun _ => True) := by
 refine Qm Tryz.func50 rfl rfl ?_
 intro H w
 refine sq (rg (ak rfl (tn (nn (sq (sq (rg (mv rfl rfl (oP (pls oz Tryz.underlying22) rfl (oP (Qp ot) rfl (tn (nn (tb (Qr (σ := Nat) (e2 0 1 rfl (ec 7 rfl en)) (fun k => [(8, I64 (k : Int))]) (fun k => []) (fun k => k ≤ vs.length ∧ x ∉ vs.take k) (fun k => vs.length - k) 0 ⟨Nat.zero_le _, by simp⟩ ?_ (op (by exact pn)) ?_))))))))))))))
 · exact (ec 8 rfl en)
 · rintro k ⟨hk, hno⟩
   refine sq (rg (oP (Q6 oz oz) rfl (tn (nn (sq (tc oz (fun c9 => ?_) (fun c9 => ?_)))))))
   · try simp only [cq] at c9
     refine sk (nn (sq (tb (sq (rg (mv rfl rfl (av rfl rfl (tn (nn (sq (rg (mv rfl rfl (mv rfl rfl (mv rfl rfl (oP (Qk oz oz Tryz.underlying22 ylw (by omega) (by omega)) rfl (oP (pL oz ylw) rfl (oP (Vv oz oz) rfl (tn (nn (tc oz (fun c16 => ?_) (fun c16 => ?_)))))))))))))))))))))
     · try simp only [cq] at c16
       have hres := Quj (vs := vs) (x := x) (k := k) (by omega) hno c16
       refine sq (rg (mv rfl rfl (av rfl rfl (tn (nn (tR (Qw (tt (tt (Qw (tt ?_)))))))))))
       exact Qh .ret (.inl rfl) rfl () (OT.val oz (congrArg (Value.int _) (hres.symm))) trivial (by exact pn)
     try simp only [cq] at c16
     have hst := Quk (vs := vs) (x := x) (k := k) (by omega) hno c16
     refine sk (bn (nn (rg (oP (pad oz ot (by omega)) rfl (mv rfl rfl (tn (nn ?_)))))))
     exact tg (k + 1) ⟨by omega, hst⟩ (by omega) ef (op (by exact pn))
   try simp only [cq] at c9
   refine Qy (tx (tx (bh (nn (sq ?_)))))
   obtain rfl : k = vs.length := by omega
   have hres := Qul (vs := vs) (x := x) hno
   refine rg (ak rfl (tn (nn (tR ?_))))
   exact Qh .ret (.inl rfl) rfl () (OT.val oz (congrArg (Value.int _) (hres.symm))) trivial (by exact pn)
/-- slices.Contains[[]string,string] -/
theorem Qa3 (vs : List Lab) (x : Lab) (hm : vs.length ≤ 1000000) : Ct Tryz.prog 54 [SlT kS vs, BsT x] ([]) Unit (fun _ => Xd (vs.contains x)) (fun _ => []) (fun _ => True) := by
 refine Qm Tryz.func54 rfl rfl ?_
 intro H w
 refine sq (rg (ak rfl (tn (nn (sq (rg (mv rfl rfl (mv rfl rfl (oA (aC (W1 _ _ (by assumption)) yd4 (oc oz (oc oz oN)) pR) pR rfl rfl (fun _ _ => ?_))))))))))
 refine oP (Vh oz ot) rfl (av rfl rfl (tn (nn (tR ?_))))
 exact Qh .ret (.inl rfl) rfl () (OT.val oz (congrArg Value.bool (Qyx))) trivial (by exact pn)
/-- rhizome/query.name -/
theorem Qev (l : Lab) : Ct Tryz.prog 53 [BsT l] ([]) Unit (fun _ => Xd (Yo l)) (fun _ => []) (fun _ => True) := by
 refine Qm Tryz.func53 rfl rfl ?_
 intro H w
 refine sq (rg (ak rfl (tn (nn (sq (rg (mv rfl rfl (oP (Wt Tryz.underlying9 oz) rfl (oP (Vh oz ot) rfl (mv rfl rfl (oG rfl rfl rfl (gm oz) (fun hg => by (have hg1 := hg.2; (try simp only [cq2] at hg1); exact Qp oz)) rfl ?_)))))))))))
 refine oG rfl rfl rfl (gm oz) (fun hg => by (have hg1 := hg.2; (try simp only [cq2] at hg1); exact Wt Tryz.underlying9 (gu oz hg))) rfl ?_
 refine oG rfl rfl rfl (gm oz) (fun hg => by (have hg1 := hg.2; (try simp only [cq2] at hg1); exact V4 (gu oz hg) ot)) rfl ?_
 refine oP (Q3 oz oz) rfl (mv rfl rfl (oG rfl rfl rfl (gm oz) (fun hg => by (have hg1 := hg.2; (try simp only [cq2] at hg1); exact Qp oz)) rfl ?_))
 refine Z0 () rfl rfl rfl (gm oz) (fun hg => by (have hg1 := hg.2; (try simp only [cq2] at hg1); exact Zj (Qlu (K0 := noK) (n0 := 0) _) Ju yu6 (oc (gu oz hg) (oc OT.func oN)) pR)) rfl (fun _ _ => ?_)
 refine oG rfl rfl rfl (gm oz) (fun hg => by (have hg1 := hg.2; (try simp only [cq2] at hg1); exact Zn (gu oz hg))) rfl ?_
 refine oP (Q3 oz oz) rfl (av rfl rfl (tn (nn (tR ?_))))
 exact Qh .ret (.inl rfl) rfl () (OT.val oz (congrArg Value.bool (Qi4 l))) trivial (by exact pn)

/-- rhizome/query.Vars -/
theorem Qa4 (v : Vw) (hv : v.2.2.2.1.length ≤ 1000) : Ct Tryz.prog 49 [kV.T v] ([]) Unit (fun _ => SlT kS (Qa v.2.2.2.1)) (fun _ => []) (fun _ => True) := by
 refine Qm Tryz.func49 rfl rfl ?_
 intro H w
 refine sq (rg (oA (Xe (d := kV) oz) pR rfl rfl (fun g0_0 _ => ?_)))
 refine ak rfl (tn (nn (sq (rg (ak rfl (tn (nn (sq (sq (Xf 9 kS (rg (oP (pf oz y46) rfl (oP (plb oz (mA 1 rfl) lv3 y2r) rfl (oP (pls oz Tryz.underlying23) rfl (oP (Qp ot) rfl (tn (nn (tb (Qr (σ := Nat × Value) (e2 9 10 rfl en) (fun s => [(11, I64 (s.1 : Int)), (3, IsV s.2)]) (fun s => [Qg 9 kS s.2 (Qa (v.2.2.2.1.take s.1)), Qb g0_0 25 kV v]) (fun s => s.1 ≤ v.2.2.2.1.length) (fun s => v.2.2.2.1.length - s.1) (0, Qn) (Nat.zero_le _) ?_ (op (by repeat first | exact pn | refine pc 0 rfl ?_)) ?_)))))))))))))))))))
 · exact (e2 11 3 rfl en)
 · rintro ⟨k, vo⟩ hk
   dsimp only at hk ⊢
   refine sq (rg (oP (Q6 oz oz) rfl (tn (nn (sq (tc oz (fun c12 => ?_) (fun c12 => ?_)))))))
   · try simp only [cq] at c12
     refine sk (nn (sq (tb (sq ?_))))
     obtain ⟨a, ha⟩ : ∃ a, at' v.2.2.2.1 (k : Int) = a := ⟨_, rfl⟩
     have hsn := Qlv (k := k) (show k < v.2.2.2.1.length by omega)
     have hvl := K8 (v.2.2.2.1.take k)
     rw [List.length_take] at hvl
     rw [ha] at hsn
     refine rg (oP (Qk oz oz Tryz.underlying23 y03 (by omega) (by omega)) rfl (oP (pL oz y03) rfl (oA (Q1 (zA)) pR rfl rfl (fun g4_2 _ => ?_))))
     refine oA (asv oz oz (pA 0 rfl) y03) (pA 0 rfl) rfl rfl (fun _ _ => ?_)
     refine tn (nn (sq ?_))
     rw [ha]
     refine rg (oP (pf oz ytp) rfl (oP (plb oz (mA 0 rfl) la0 ylw) rfl (oP (pf oz ypg) rfl (oP (plb oz (mA 0 rfl) la2 ylw) rfl (oA (Q9 (d := kS) (v0 := []) yr6 ylw zS (show 2 * 1 ≤ 16777216 from by decide) (by decide) (Qx rfl rfl (by decide) oz (Qx rfl rfl (by decide) oz Qd))) pR rfl rfl (fun _ _ => ?_))))))
     refine oP (pls oz Tryz.underlying22) rfl (oP (Qp ot) rfl (tn (Z6 19 (T := SlT kS [a.1, a.2.2]) oz (Z6 20 (T := I64 2) oz ?_))))
     refine nn (tb (Qr (σ := Nat × Value) (e4 9 10 11 19 rfl (ec 20 rfl en)) (fun s => [(21, I64 (s.1 : Int)), (3, IsV s.2)]) (fun s => [Qg 9 kS s.2 (Qfw (Qa (v.2.2.2.1.take k)) a s.1), Qb g0_0 25 kV v]) (fun s => s.1 ≤ 2) (fun s => 2 - s.1) (0, vo) (Nat.zero_le _) ?_ (op (by repeat first | exact pn | refine pc 1 rfl ?_)) ?_))
     · exact (e2 21 3 rfl en)
     rintro ⟨j, vo2⟩ hj
     dsimp only at hj ⊢
     refine sq (rg (oP (Q6 oz oz) rfl (tn (nn (sq (tc oz (fun c22 => ?_) (fun c22 => ?_)))))))
     · try simp only [cq] at c22
       refine sk (nn (sq (tb (sq ?_))))
       obtain ⟨x, hx⟩ : ∃ x, at' [a.1, a.2.2] (j : Int) = x := ⟨_, rfl⟩
       obtain ⟨out, ho⟩ : ∃ o, Qfw (Qa (v.2.2.2.1.take k)) a j = o := ⟨_, rfl⟩
       have hol := Qrn (Qa (v.2.2.2.1.take k)) a j
       have hst := Qof (Qa (v.2.2.2.1.take k)) a (j := j) (by show j < 2; omega)
       rw [hx, ho] at hst
       rw [ho] at hol
       rw [ho]
       refine rg (oP (Qk oz oz Tryz.underlying22 ylw (by omega) (by omega)) rfl (oP (pL oz ylw) rfl (av rfl rfl (tn (nn (sq ?_))))))
       rw [hx]
       refine rg (mv rfl rfl (mv rfl rfl (oA (aC (Ct.lend_hd (Qa3 out x (by omega)) Qrp) y5k (oc oz (oc oz oN)) (pA 0 rfl)) (pA 0 rfl) rfl rfl (fun _ _ => ?_))))
       refine oP (Zn oz) rfl (tn (nn (tc oz (fun c28 => ?_) (fun c28 => ?_))))
       · try simp only [cq] at c28
         rw [Wh, if_neg (by simpa using c28)] at hst
         refine rg (mv rfl rfl (mv rfl rfl (oA (Q9 (d := kS) (v0 := []) yr6 ylw zS (show 1 * 1 ≤ 16777216 from by decide) (by decide) (Qx rfl rfl (by decide) oz Qd)) pR rfl rfl (fun _ _ => ?_))))
         refine oA (Q0 oz (pA 0 rfl) oz yr6 (by (simp; omega)) (by (simp [maxLen]; omega))) (pA 0 rfl) rfl rfl (fun v9_3 _ => ?_)
         refine av rfl rfl (tn (bn (nn (rg (oP (pad oz ot (by omega)) rfl (mv rfl rfl (tn (nn ?_))))))))
         exact tg (j + 1, v9_3) (by show j + 1 ≤ 2; omega) (by show 2 - (j + 1) < 2 - j; omega) ef (op (by rw [hst]; exact (by repeat first | exact pn | refine pc 0 rfl ?_)))
       try simp only [cq] at c28
       rw [Wh, if_pos (by simpa using c28)] at hst
       refine sk (bn (nn (rg (oP (pad oz ot (by omega)) rfl (mv rfl rfl (tn (nn ?_)))))))
       exact tg (j + 1, vo2) (by show j + 1 ≤ 2; omega) (by show 2 - (j + 1) < 2 - j; omega) ef (op (by rw [hst]; exact (by repeat first | exact pn | refine pc 0 rfl ?_)))
     try simp only [cq] at c22
     refine Qy (tx (tx (bh (bn (nn ?_)))))
     obtain rfl : j = 2 := by omega
     have hend : Qfw (Qa (v.2.2.2.1.take k)) a 2 = Qa (v.2.2.2.1.take (k + 1)) := hsn.symm
     refine rg (oP (pad oz ot (by omega)) rfl (mv rfl rfl (tn (nn ?_))))
     exact tg (k + 1, vo2) (by show k + 1 ≤ v.2.2.2.1.length; omega) (by omega) ef (op (by rw [← hend]; exact (by repeat first | exact pn | refine pc 0 rfl ?_)))
   try simp only [cq] at c12
   refine Qy (tx (tx (bh (nn (sq ?_)))))
   obtain rfl : k = v.2.2.2.1.length := by omega
   rw [List.take_length]
   refine Xh (pA 0 rfl) 3 oz (rg (mv rfl rfl (av rfl rfl (tn (nn (tR ?_))))))
   exact Qh .ret (.inl rfl) rfl () oz trivial (by exact pn)

/-- rhizome/query.Check -/
theorem Qnj (v : Vw) (ho : v.2.2.1.length ≤ maxLen) (ha : v.2.2.2.1.length ≤ maxLen) : Ct Tryz.prog 34 [kV.T v] ([]) Unit (fun _ => I64 (if J3 v then 0 else 1)) (fun _ => []) (fun _ => True) := by
 refine Qm Tryz.func34 rfl rfl ?_
 intro H w
 unfold maxLen at ho ha
 refine sq (rg (oA (Xe (d := kV) oz) pR rfl rfl (fun g0_0 _ => ?_)))
 refine ak rfl (tn (nn (sq (rg (oP (pf oz yd0) rfl (oP (plb oz (mA 0 rfl) lv0 ylw) rfl (oA (aC (Qev _) yye (oc oz oN) pR) pR rfl rfl (fun _ _ => ?_))))))))
 refine av rfl rfl (tn (nn (sq (sq (rg (oP (pf oz yel) rfl (oP (plb oz (mA 0 rfl) lv1 ynm) rfl (tn (nn (tb (sq (rg (oP (Zu oz ot) rfl (av rfl rfl (tn (nn (tc oz (fun c14 => ?_) (fun c14 => ?_))))))))))))))))))
 · refine rg (mv rfl rfl (mv rfl rfl (oG rfl rfl rfl (gm oz) (fun hg => by (have hg1 := hg.2; (try simp only [cq2] at hg1); exact pf oz yys)) rfl ?_)))
   refine oG rfl rfl rfl (gm oz) (fun hg => by (have hg1 := hg.2; (try simp only [cq2] at hg1); exact plb (gu oz hg) (mA 0 rfl) lv4 ylw)) rfl ?_
   refine Z0 () rfl rfl rfl (gm oz) (fun hg => by (have hg1 := hg.2; (try simp only [cq2] at hg1); exact aC (Qev _) yye (oc (gu oz hg) oN) pR)) rfl (fun _ _ => ?_)
   refine oP (Q3 oz oz) rfl (mv rfl rfl (oG rfl rfl rfl (gm oz) (fun hg => by (have hg1 := hg.2; (try simp only [cq2] at hg1); exact pf oz yss)) rfl ?_))
   refine oG rfl rfl rfl (gm oz) (fun hg => by (have hg1 := hg.2; (try simp only [cq2] at hg1); exact plb (gu oz hg) (mA 0 rfl) lv2 ye4)) rfl ?_
   refine oG rfl rfl rfl (gm oz) (fun hg => by (have hg1 := hg.2; (try simp only [cq2] at hg1); exact pls (gu oz hg) Tryz.underlying22)) rfl ?_
   refine oG rfl rfl rfl (gm oz) (fun hg => by (have hg1 := hg.2; (try simp only [cq2] at hg1); exact Zu (gu oz hg) ot)) rfl ?_
   refine oP (Q3 oz oz) rfl (mv rfl rfl (oG rfl rfl rfl (gm oz) (fun hg => by (have hg1 := hg.2; (try simp only [cq2] at hg1); exact pf oz y46)) rfl ?_))
   refine oG rfl rfl rfl (gm oz) (fun hg => by (have hg1 := hg.2; (try simp only [cq2] at hg1); exact plb (gu oz hg) (mA 0 rfl) lv3 y2r)) rfl ?_
   refine oG rfl rfl rfl (gm oz) (fun hg => by (have hg1 := hg.2; (try simp only [cq2] at hg1); exact pls (gu oz hg) Tryz.underlying23)) rfl ?_
   refine oG rfl rfl rfl (gm oz) (fun hg => by (have hg1 := hg.2; (try simp only [cq2] at hg1); exact Zu (gu oz hg) ot)) rfl ?_
   refine oP (Q3 oz oz) rfl (av rfl rfl (tn (bn (nn (sq (sq (rg (mv rfl rfl (oP (Zn oz) rfl (tn (nn (tc oz (fun c119 => ?_) (fun c119 => ?_)))))))))))))
   · refine sq (rg (ak rfl (tn (nn (tR (tt ?_))))))
     exact Qh .ret (.inl rfl) rfl () (OT.val oz (congrArg (Value.int _) (Q4b (b := true) c14 c119))) trivial (by exact pn)
   refine sk (nn (sq (rg (ak rfl (tn (nn (tR ?_)))))))
   exact Qh .ret (.inl rfl) rfl () (OT.val oz (congrArg (Value.int _) (Q4b (b := false) c14 c119))) trivial (by exact pn)
 · refine sq (rg (oP (Zu oz ot) rfl (av rfl rfl (tn (nn (tc oz (fun c34 => ?_) (fun c34 => ?_)))))))
   · refine sq (rg (mv rfl rfl (mv rfl rfl (oG rfl rfl rfl (gm oz) (fun hg => by (have hg1 := hg.2; (try simp only [cq2] at hg1); exact pf oz yys)) rfl ?_))))
     refine oG rfl rfl rfl (gm oz) (fun hg => by (have hg1 := hg.2; (try simp only [cq2] at hg1); exact plb (gu oz hg) (mA 0 rfl) lv4 ylw)) rfl ?_
     refine oG rfl rfl rfl (gm oz) (fun hg => by (have hg1 := hg.2; (try simp only [cq2] at hg1); exact Vv (gu oz hg) ot)) rfl ?_
     refine oP (Q3 oz oz) rfl (mv rfl rfl (oG rfl rfl rfl (gm oz) (fun hg => by (have hg1 := hg.2; (try simp only [cq2] at hg1); exact pf oz yss)) rfl ?_))
     refine oG rfl rfl rfl (gm oz) (fun hg => by (have hg1 := hg.2; (try simp only [cq2] at hg1); exact plb (gu oz hg) (mA 0 rfl) lv2 ye4)) rfl ?_
     refine oG rfl rfl rfl (gm oz) (fun hg => by (have hg1 := hg.2; (try simp only [cq2] at hg1); exact pls (gu oz hg) Tryz.underlying22)) rfl ?_
     refine oG rfl rfl rfl (gm oz) (fun hg => by (have hg1 := hg.2; (try simp only [cq2] at hg1); exact Vh (gu oz hg) ot)) rfl ?_
     refine oP (Q3 oz oz) rfl (mv rfl rfl (oG rfl rfl rfl (gm oz) (fun hg => by (have hg1 := hg.2; (try simp only [cq2] at hg1); exact pf oz yss)) rfl ?_))
     refine oG rfl rfl rfl (gm oz) (fun hg => by (have hg1 := hg.2; (try simp only [cq2] at hg1); exact plb (gu oz hg) (mA 0 rfl) lv2 ye4)) rfl ?_
     refine oG rfl rfl rfl (gm oz) (fun hg => by (have hg1 := hg.2; (try simp only [cq2] at hg1); exact pls (gu oz hg) Tryz.underlying22)) rfl ?_
     refine oG rfl rfl rfl (gm oz) (fun hg => by (have hg1 := hg.2; (try simp only [cq2] at hg1); exact V4 (gu oz hg) ot)) rfl ?_
     refine oP (Q3 oz oz) rfl (mv rfl rfl (oG rfl rfl rfl (gm oz) (fun hg => by (have hg1 := hg.2; (try simp only [cq2] at hg1); exact pf oz y46)) rfl ?_))
     refine oG rfl rfl rfl (gm oz) (fun hg => by (have hg1 := hg.2; (try simp only [cq2] at hg1); exact plb (gu oz hg) (mA 0 rfl) lv3 y2r)) rfl ?_
     refine oG rfl rfl rfl (gm oz) (fun hg => by (have hg1 := hg.2; (try simp only [cq2] at hg1); exact pls (gu oz hg) Tryz.underlying23)) rfl ?_
     refine oG rfl rfl rfl (gm oz) (fun hg => by (have hg1 := hg.2; (try simp only [cq2] at hg1); exact Vh (gu oz hg) ot)) rfl ?_
     refine oP (Q3 oz oz) rfl (mv rfl rfl (oG rfl rfl rfl (gm oz) (fun hg => by (have hg1 := hg.2; (try simp only [cq2] at hg1); exact pf oz y46)) rfl ?_))
     refine oG rfl rfl rfl (gm oz) (fun hg => by (have hg1 := hg.2; (try simp only [cq2] at hg1); exact plb (gu oz hg) (mA 0 rfl) lv3 y2r)) rfl ?_
     refine oG rfl rfl rfl (gm oz) (fun hg => by (have hg1 := hg.2; (try simp only [cq2] at hg1); exact pls (gu oz hg) Tryz.underlying23)) rfl ?_
     refine oG rfl rfl rfl (gm oz) (fun hg => by (have hg1 := hg.2; (try simp only [cq2] at hg1); exact V4 (gu oz hg) ot)) rfl ?_
     refine oP (Q3 oz oz) rfl (av rfl rfl (tn (nn (sq (sq (rg (oP (pf oz y46) rfl (oP (plb oz (mA 0 rfl) lv3 y2r) rfl (oP (pls oz Tryz.underlying23) rfl (oP (Qp ot) rfl (tn (nn (tb (Qr (σ := Nat) (e2 1 67 rfl (ec 68 rfl en)) (fun k => [(69, I64 (k : Int)), (3, Xd (preB v && (v.2.2.2.1.take k).all Qd8))]) (fun k => [Qb g0_0 25 kV v]) (fun k => k ≤ v.2.2.2.1.length) (fun k => v.2.2.2.1.length - k) 0 (Nat.zero_le _) ?_ (op (by repeat first | exact pn | refine pc 0 rfl ?_)) ?_))))))))))))))
     · exact (ec 69 rfl (Qv (t := 3) (OT.val oz (congrArg Value.bool (by rw [List.take_zero]; simp [preB]))) en))
     rintro k hk
     refine sq (rg (oP (Q6 oz oz) rfl (tn (nn (sq (tc oz (fun c70 => ?_) (fun c70 => ?_)))))))
     · refine sk (nn (sq (tb (sq (rg (oP (Qk oz oz Tryz.underlying23 y03 (by omega) (by (simp [maxLen] at *; omega))) rfl ?_))))))
       refine oP (pL oz y03) rfl (oA (Q1 (zA)) pR rfl rfl (fun g10_2 _ => ?_))
       refine oA (asv oz oz (pA 0 rfl) y03) (pA 0 rfl) rfl rfl (fun _ _ => ?_)
       refine tn (nn (rg (mv rfl rfl (mv rfl rfl (oG rfl rfl rfl (gm oz) (fun hg => by (have hg1 := hg.2; (try simp only [cq2] at hg1); exact pf oz ytp)) rfl ?_)))))
       refine oG rfl rfl rfl (gm oz) (fun hg => by (have hg1 := hg.2; (try simp only [cq2] at hg1); exact plb (gu oz hg) (mA 0 rfl) la0 ylw)) rfl ?_
       refine Z0 () rfl rfl rfl (gm oz) (fun hg => by (have hg1 := hg.2; (try simp only [cq2] at hg1); exact aC (Qev _) yye (oc (gu oz hg) oN) pR)) rfl (fun _ _ => ?_)
       refine oP (Q3 oz oz) rfl (mv rfl rfl (oG rfl rfl rfl (gm oz) (fun hg => by (have hg1 := hg.2; (try simp only [cq2] at hg1); exact pf oz yl2)) rfl ?_))
       refine oG rfl rfl rfl (gm oz) (fun hg => by (have hg1 := hg.2; (try simp only [cq2] at hg1); exact plb (gu oz hg) (mA 0 rfl) la1 ylw)) rfl ?_
       refine Z0 () rfl rfl rfl (gm oz) (fun hg => by (have hg1 := hg.2; (try simp only [cq2] at hg1); exact aC (Qev _) yye (oc (gu oz hg) oN) pR)) rfl (fun _ _ => ?_)
       refine oP (Q3 oz oz) rfl (mv rfl rfl (oG rfl rfl rfl (gm oz) (fun hg => by (have hg1 := hg.2; (try simp only [cq2] at hg1); exact pf oz ypg)) rfl ?_))
       refine oG rfl rfl rfl (gm oz) (fun hg => by (have hg1 := hg.2; (try simp only [cq2] at hg1); exact plb (gu oz hg) (mA 0 rfl) la2 ylw)) rfl ?_
       refine Z0 () rfl rfl rfl (gm oz) (fun hg => by (have hg1 := hg.2; (try simp only [cq2] at hg1); exact aC (Qev _) yye (oc (gu oz hg) oN) pR)) rfl (fun _ _ => ?_)
       refine oP (Q3 oz oz) rfl (av rfl rfl (tn (bn (nn (rg (oP (pad oz ot (by (simp [maxLen] at *; omega))) rfl ?_))))))
       refine mv rfl rfl (tn (nn ?_))
       exact tg (k + 1) (by simp only [decide_eq_true_eq] at c70; omega) (by simp only [decide_eq_true_eq] at c70; omega) (ea (ec 69 rfl (Qv (t := 3) (OT.val oz (congrArg Value.bool (Qoh (by simp only [decide_eq_true_eq] at c70; omega)))) en)) ef) (op (by repeat first | exact pn | refine pc 1 rfl ?_))
     refine Qy (tx (tx (bh (nn (sq (sq (rg (mv rfl rfl (oP (Zn oz) rfl (tn (nn (tc oz (fun c91 => ?_) (fun c91 => ?_)))))))))))))
     · obtain rfl : k = v.2.2.2.1.length := by simp only [decide_eq_false_iff_not] at c70; omega
       rw [List.take_length] at c91
       refine sq (rg (ak rfl (tn (nn (tR (tt (Qw (tt ?_))))))))
       exact Qh .ret (.inl rfl) rfl () (OT.val oz (congrArg (Value.int _) (Q48 c14 c34 c91))) trivial (by exact pn)
     obtain rfl : k = v.2.2.2.1.length := by simp only [decide_eq_false_iff_not] at c70; omega
     rw [List.take_length] at c91
     have hpa : (preB v && v.2.2.2.1.all Qd8) = true := by simpa using c91
     obtain ⟨hp1, hp2⟩ := Bool.and_eq_true_iff.1 hpa
     obtain ⟨hl1, hl2, hl3, hl4⟩ := Qun hp1
     have hvl := K8 v.2.2.2.1
     refine sk (nn (sq (rg (oP (plv (oT rfl) (mA 0 rfl) y4q) rfl (oA (aC (Qa4 _ (by omega)) yew (oc (oT rfl) oN) pR) pR rfl rfl (fun _ _ => ?_))))))
     refine av rfl rfl (tn (nn (sq (rg (oP (pf oz yss) rfl (oP (plb oz (mA 0 rfl) lv2 ye4) rfl (oP (pls oz Tryz.underlying22) rfl (oP (Qp ot) rfl (tn (nn (tb (Qr (σ := Nat) (e4 1 6 95 96 rfl en) (fun i => [(97, I64 (i : Int)), (3, Xd (Qhn (Qa v.2.2.2.1) (v.2.2.1.take i)))]) (fun i => [Qb g0_0 25 kV v]) (fun i => i ≤ v.2.2.1.length) (fun i => v.2.2.1.length - i) 0 (Nat.zero_le _) ?_ (op (by repeat first | exact pn | refine pc 0 rfl ?_)) ?_))))))))))))
     · exact (ec 97 rfl (Qv (t := 3) (OT.val oz (congrArg Value.bool (by rw [List.take_length, hpa]; rfl))) en))
     rintro i hi
     refine sq (rg (oP (Q6 oz oz) rfl (tn (nn (sq (tc oz (fun c98 => ?_) (fun c98 => ?_)))))))
     · refine sk (nn (sq (tb (sq (rg (mv rfl rfl (oP (Qk oz oz Tryz.underlying22 ylw (by omega) (by (simp [maxLen] at *; omega))) rfl ?_)))))))
       refine oP (pL oz ylw) rfl (av rfl rfl (av rfl rfl (tn (nn (rg (mv rfl rfl (mv rfl rfl (oG rfl rfl rfl (gm oz) (fun hg => by (have hg1 := hg.2; (try simp only [cq2] at hg1); exact Qp oz)) rfl ?_))))))))
       refine oG rfl rfl rfl (gm oz) (fun hg => by (have hg1 := hg.2; (try simp only [cq2] at hg1); exact Qp oz)) rfl ?_
       refine Z0 () rfl rfl rfl (gm (oT rfl)) (fun hg => by (have hg1 := hg.2; (try simp only [cq2] at hg1); exact aC (Qa3 (Qa v.2.2.2.1) (at' v.2.2.1 (i : Int)) (by omega)) y5k (oc (gu (oT rfl) hg) (oc (gu (oT rfl) hg) oN)) pR)) rfl (fun _ _ => ?_)
       refine oP (Q3 oz oz) rfl (mv rfl rfl (oG rfl rfl rfl (gm oz) (fun hg => by (have hg1 := hg.2; (try simp only [cq2] at hg1); exact pf oz yss)) rfl ?_))
       refine oG rfl rfl rfl (gm oz) (fun hg => by (have hg1 := hg.2; (try simp only [cq2] at hg1); exact plb (gu oz hg) (mA 0 rfl) lv2 ye4)) rfl ?_
       refine oG rfl rfl rfl (gm oz) (fun hg => by (have hg1 := hg.2; (try simp only [cq2] at hg1); exact Qp oz)) rfl ?_
       refine oG rfl rfl rfl (gm oz) (fun hg => by (have hg1 := hg.2; (try simp only [cq2] at hg1); exact Qbm (gu oz hg) (gu oz hg) Tryz.underlying22 ylw (by omega) (by omega))) rfl ?_
       refine oG rfl rfl rfl (gm oz) (fun hg => by (have hg1 := hg.2; (try simp only [cq2] at hg1); exact Qp oz)) rfl ?_
       refine Z0 () rfl rfl rfl (gm oz) (fun hg => by (have hg1 := hg.2; (try simp only [cq2] at hg1); exact aC (Qa3 (v.2.2.1.take (i : Int).toNat) (at' v.2.2.1 (i : Int)) (by rw [List.length_take]; omega)) y5k (oc (gu oz hg) (oc (gu oz hg) oN)) pR)) rfl (fun _ _ => ?_)
       refine oG rfl rfl rfl (gm oz) (fun hg => by (have hg1 := hg.2; (try simp only [cq2] at hg1); exact Zn (gu oz hg))) rfl ?_
       refine oP (Q3 oz oz) rfl (av rfl rfl (tn (bn (nn (rg (oP (pad oz ot (by omega)) rfl (mv rfl rfl (tn (nn ?_)))))))))
       exact tg (i + 1) (by simp only [decide_eq_true_eq] at c98; omega) (by simp only [decide_eq_true_eq] at c98; omega) (ea (ec 97 rfl (Qv (t := 3) (OT.val oz (congrArg Value.bool (by rw [Int.toNat_natCast]; exact Qum (by simp only [decide_eq_true_eq] at c98; omega)))) en)) ef) (op (by repeat first | exact pn | refine pc 0 rfl ?_))
     refine Qy (tx (tx (bh (bn (nn (sq (sq (rg (mv rfl rfl (oP (Zn oz) rfl (tn (nn (tc oz (fun c119 => ?_) (fun c119 => ?_))))))))))))))
     · refine sq (rg (ak rfl (tn (nn (tR (tt ?_))))))
       exact Qh .ret (.inl rfl) rfl () (OT.val oz (congrArg (Value.int _) (Q4c (b := true) c14 c34 c91 (by rw [show v.2.2.1.take i = v.2.2.1 from List.take_of_length_le (by simp only [decide_eq_false_iff_not] at c98; omega)] at c119; exact c119)))) trivial (by exact pn)
     refine sk (nn (sq (rg (ak rfl (tn (nn (tR ?_)))))))
     exact Qh .ret (.inl rfl) rfl () (OT.val oz (congrArg (Value.int _) (Q4c (b := false) c14 c34 c91 (by rw [show v.2.2.1.take i = v.2.2.1 from List.take_of_length_le (by simp only [decide_eq_false_iff_not] at c98; omega)] at c119; exact c119)))) trivial (by exact pn)
   refine te en (rg (ak rfl (tn (bn (nn (sq (sq (rg (mv rfl rfl (oP (Zn oz) rfl (tn (nn (tc oz (fun c119 => ?_) (fun c119 => ?_))))))))))))))
   · refine sq (rg (ak rfl (tn (nn (tR (tt ?_))))))
     exact Qh .ret (.inl rfl) rfl () (OT.val oz (congrArg (Value.int _) (Q47 c14 c34))) trivial (by exact pn)
   refine sk (nn (sq (rg (ak rfl (tn (nn (tR ?_)))))))
   exact Qh .ret (.inl rfl) rfl () (OT.val oz (congrArg (Value.int _) (absurd c119 (by simp)))) trivial (by exact pn)
/-- rhizome/join.bad -/
theorem Q3h (v : Vw) (ho : v.2.2.1.length ≤ maxLen) (ha : v.2.2.2.1.length ≤ maxLen) : Ct Tryz.prog 94 [kV.T v] ([]) Unit (fun _ => Xd (!okV v)) (fun _ => []) (fun _ => True) := by
 refine Qm Tryz.func94 rfl rfl ?_
 intro H w
 refine sq (rg (oA (Xe (d := kV) oz) pR rfl rfl (fun g0_0 _ => ?_)))
 refine ak rfl (tn (nn (sq (rg (oP (pf oz yel) rfl (oP (plb oz (mA 0 rfl) lv1 ynm) rfl (oP (Ja oz ot) rfl (mv rfl rfl (oG rfl rfl rfl (gm oz) (fun hg => by (have hg1 := hg.2; (try simp only [cq2] at hg1); exact plv oz (mA 0 rfl) y4q)) rfl ?_)))))))))
 refine Z0 () rfl rfl rfl (gm oz) (fun hg => by (have hg1 := hg.2; (try simp only [cq2] at hg1); exact aC (Qnj _ (by assumption) (by assumption)) yin (oc (gu oz hg) oN) pR)) rfl (fun _ _ => ?_)
 refine oG rfl rfl rfl (gm oz) (fun hg => by (have hg1 := hg.2; (try simp only [cq2] at hg1); exact Ja (gu oz hg) ot)) rfl ?_
 refine oP (Yq oz oz) rfl (av rfl rfl (tn (nn (tR ?_))))
 exact Qh .ret (.inl rfl) rfl () (OT.val oz (congrArg Value.bool (Qho v))) trivial (by exact pn)
end Go.Proofs.YtklhdalppmjnaaaGreatDoor
namespace Go.Proofs.YtklhdalppmjnaaaGreatDoor
open Go Go.Gw Go.So Go.Tu Go.Jn Go.MapKept
abbrev Zq (p : Pr) : Value := .agg #[.int .i64 p.1, .int .i64 p.2]
abbrev encS (l : Lab) : Value := .string (bs l)
theorem Q2i {H : FH} {u : Pr} {a : Value} (h : (kPP.T u).p H a) : a = Zq u := by
 obtain ⟨cs, hK, rfl⟩ := kPP.ofT h
 have hl : cs.length = 2 := kPP.len hK
 obtain ⟨_, _, h2⟩ := hK
 have e0 := h2 0 u.1 rfl
 have e1 := h2 1 u.2 rfl
 match cs, hl with
 | [c0, c1], _ =>
  have f0 : [c0] = [Value.int .i64 u.1] := e0
  have f1 : [c1] = [Value.int .i64 u.2] := e1
  rw [show c0 = Value.int .i64 u.1 from by simpa using f0, show c1 = Value.int .i64 u.2 from by simpa using f1]; rfl
theorem Qlw (w : World) (d : Nat) (u v : Pr) : (Op.equalIn (d + 1 + 1) 108 (Zq u) (Zq v)).run Tryz.prog w = .ok (decide (u = v)) w := by
 have hu : Tryz.prog.underlying 108 = some (.array 2 3) := Tryz.underlying108
 have hk : Tryz.prog.plainKey 3 = true := by decide +kernel
 have h3 : Tryz.prog.underlying 3 = some (.int .i64) := Tryz.underlying3
 have hc : Tryz.prog.cellsOf 3 = 1 := by decide +kernel
 obtain ⟨i, hi⟩ : ∃ i, Tryz.prog.info? 3 = some i := Option.isSome_iff_exists.1 (by decide +kernel)
 rw [run_equalIn_array w (d + 1) _ _ hu hi, hc]
 have p : ∀ (xs : Array Value) (o : Nat) (q : Value), xs[o]? = some q → (part 3 xs o).run Tryz.prog w = .ok q w := fun xs o q h => run_part_plain w hk h
 have e : ∀ (a b : Int), (Op.equalIn (d + 1) 3 (.int .i64 a) (.int .i64 b)).run Tryz.prog w = .ok (a == b) w := fun a b => run_equalIn_int w d 3 .i64 .i64 a b h3
 have p0 : ∀ a b : Int, (part 3 #[.int .i64 a, .int .i64 b] 0).run Tryz.prog w = .ok (.int .i64 a) w := fun a b => p _ 0 _ rfl
 have p1 : ∀ a b : Int, (part 3 #[.int .i64 a, .int .i64 b] 1).run Tryz.prog w = .ok (.int .i64 b) w := fun a b => p _ 1 _ rfl
 obtain ⟨u1, u2⟩ := u
 obtain ⟨v1, v2⟩ := v
 simp only [show List.range 2 = [0, 1] from rfl, Op.eqItems, Sem.run_bind, Nat.mul_one, p0, p1, e, Result.andThen_ok]
 by_cases h1 : u1 = v1
 · by_cases h2 : u2 = v2
   · simp [h1, h2, p1, e]
   simp [h1, h2, p1, e]
 simp [h1]
theorem Q49 (em : Bool) (k : Pr) (w : World) : (Instr.checkKey em 10000 108 (Zq k)).run Tryz.prog w = .ok () w := by
 have hu : Tryz.prog.underlying 108 = some (.array 2 3) := Tryz.underlying108
 have h3 : Tryz.prog.underlying 3 = some (.int .i64) := Tryz.underlying3
 have hk : Tryz.prog.plainKey 3 = true := by decide +kernel
 have hc : Tryz.prog.cellsOf 3 = 1 := by decide +kernel
 obtain ⟨i, hi⟩ : ∃ i, Tryz.prog.info? 3 = some i := Option.isSome_iff_exists.1 (by decide +kernel)
 rw [show (10000 : Nat) = 9999 + 1 from rfl, Instr.checkKey]
 simp only [Sem.run_bind, run_underlying hu, Result.andThen_ok]
 simp only [Std.Legacy.Range.forIn_eq_forIn_range', Std.Legacy.Range.size, Nat.sub_zero, Nat.add_one_sub_one, Nat.div_one]
 have p0 : (part 3 #[.int .i64 k.1, .int .i64 k.2] 0).run Tryz.prog w = .ok (.int .i64 k.1) w := run_part_plain w hk rfl
 have p1 : (part 3 #[.int .i64 k.1, .int .i64 k.2] 1).run Tryz.prog w = .ok (.int .i64 k.2) w := run_part_plain w hk rfl
 have c : ∀ n : Int, (Instr.checkKey em 9999 3 (.int .i64 n)).run Tryz.prog w = .ok () w := fun n => run_checkKey h3 (by simp [IsKey]) em 9998
 rw [show List.range' 0 2 = [0, 1] from rfl]
 simp only [List.forIn_cons, List.forIn_nil, Sem.run_bind, run_sizeOf w hi, hc, Result.andThen_ok, Nat.zero_mul, Nat.one_mul, Nat.mul_one, p0, p1, c, Sem.run_pure]
theorem mkP : Kx Tryz.prog 108 kPP Zq :=
 Kx.ofAsk (d := .array 2 3) Tryz.underlying108 Q2i (fun a b => rfl) Q49 (fun w a b => by
  rw [show Op.equal 108 (Zq a) (Zq b) = Op.equalIn 10000 108 (Zq a) (Zq b) from rfl]; exact Qlw w 9998 a b) (fun k => by simp [Instr.sameBits])
theorem mkI : Kx Tryz.prog 3 kI (Value.int .i64) := Qua Tryz.underlying3
theorem mkS : Kx Tryz.prog 9 kS encS :=
 Kx.ofNow Tryz.underlying9 (fun x => by simp [IsKey]) fun a b => by
  show some (bs a == bs b) = _
  congr 1
  rw [Bool.eq_iff_iff, bytes_beq, decide_eq_true_eq]
  exact ⟨fun h => by simpa using congrArg (fun x : ByteArray => x.data.toList) h, fun h => by rw [h]⟩
theorem Quo {H : FH} {t : Ed} {a : Value} (h : (kE.T t).p H a) : a = .agg #[.int .i64 t.1, .string (bs t.2.1), .int .i64 t.2.2] := by
 obtain ⟨cs, ⟨c1, c2, h1, ⟨c3, c4, h3, h4, rfl⟩, rfl⟩, rfl⟩ := h
 have e1 : c1 = [Value.int .i64 t.1] := h1
 have e3 : c3 = [Value.string (bs t.2.1)] := h3
 have e4 : c4 = [Value.int .i64 t.2.2] := h4
 subst e1 e3 e4
 rfl
abbrev tvE (t : Ed) : Array Value := #[.int .i64 t.1, .string (bs t.2.1), .int .i64 t.2.2]
theorem Qbt (w : World) (d : Nat) (u v : Ed) : (Op.equalIn (d + 1 + 1) 42 (.agg (tvE u)) (.agg (tvE v))).run Tryz.prog w = .ok (decide (u = v)) w := by
 have hf : Tryz.prog.underlying 42 = some (.struct (Tryz.prog.fieldsOf 42)) := by unfold Program.fieldsOf; rw [Tryz.underlying42]
 have hp : Tryz.prog.stoodInHeld 42 = false := by decide +kernel
 rw [run_equalIn_agg w (d + 1) 42 _ _ hf hp]
 clear hf
 simp only [Program.fieldsOf, Tryz.underlying42]
 have kS' : Tryz.prog.plainKey 9 = true := by decide +kernel
 have kI' : Tryz.prog.plainKey 3 = true := by decide +kernel
 have uS : Tryz.prog.underlying 9 = some .string := Tryz.underlying9
 have uI : Tryz.prog.underlying 3 = some (.int .i64) := Tryz.underlying3
 have p0 : ∀ t : Ed, (part 3 (tvE t) 0).run Tryz.prog w = .ok (.int .i64 t.1) w := fun t => run_part_plain w kI' rfl
 have p1 : ∀ t : Ed, (part 9 (tvE t) 1).run Tryz.prog w = .ok (.string (bs t.2.1)) w := fun t => run_part_plain w kS' rfl
 have p2 : ∀ t : Ed, (part 3 (tvE t) 2).run Tryz.prog w = .ok (.int .i64 t.2.2) w := fun t => run_part_plain w kI' rfl
 have e3 : ∀ (a b : Int), (Op.equalIn (d + 1) 3 (.int .i64 a) (.int .i64 b)).run Tryz.prog w = .ok (a == b) w := fun a b => run_equalIn_int w d 3 .i64 .i64 a b uI
 have e9 : ∀ (a b : List UInt8), (Op.equalIn (d + 1) 9 (.string (bs a)) (.string (bs b))).run Tryz.prog w = .ok (decide (a = b)) w := fun a b => by rw [run_equalIn_string w d 9 _ _ uS, Qn6]
 obtain ⟨u0, u1, u2⟩ := u
 obtain ⟨v0, v1, v2⟩ := v
 simp only [Op.eqFields, show ("From" ≠ "_") from by decide, show ("Label" ≠ "_") from by decide, show ("To" ≠ "_") from by decide, if_true, ne_eq, not_false_eq_true, Sem.run_bind, p0, p1, p2, e3, e9, Result.andThen_ok]
 by_cases h0 : u0 = v0
 · by_cases h1 : u1 = v1
   · by_cases h2 : u2 = v2 <;> simp [h0, h1, h2, p1, p2, e3, e9, Op.eqFields]
   simp [h0, h1, p1, e3, e9]
 simp [h0]
theorem Q5a : Q2g Tryz.prog 42 kE := fun H w u v a b x y ha hb => by
 rw [Quo ha, Quo hb]
 have hg : Tryz.prog.eqGuardType Tryz.prog.depth 42 = false := by decide +kernel
 refine ⟨run_eqGuard_agg w .eql 42 x y _ _ hg, run_eqGuard_agg w .neq 42 x y _ _ hg, ?_, ?_⟩
 · rw [run_eql_struct w 42, show (Op.equalIn 10000 42 (.agg (tvE u)) (.agg (tvE v))).run Tryz.prog w = _ from Qbt w 9998 u v]; rfl
 rw [run_neq_struct w 42, show (Op.equalIn 10000 42 (.agg (tvE u)) (.agg (tvE v))).run Tryz.prog w = _ from Qbt w 9998 u v]; rfl
abbrev kX : Kd (Value × Value × Value) := Xm Q2 (Xm Q2 Q2)
theorem lx0 {t : Value × Value × Value} : Qe kX Q2 0 t t.1 (fun y => (y, t.2)) := Qe.fst
theorem lx1 {t : Value × Value × Value} : Qe kX Q2 1 t t.2.1 (fun y => (t.1, y, t.2.2)) := Qe.comp (Qe.snd (a := Q2) (b := Xm Q2 Q2)) (Qe.fst (a := Q2) (b := Q2))
theorem lx2 {t : Value × Value × Value} : Qe kX Q2 2 t t.2.2 (fun y => (t.1, t.2.1, y)) := Qe.comp (Qe.snd (a := Q2) (b := Xm Q2 Q2)) (Qe.snd (a := Q2) (b := Q2))
theorem zX : Xv Tryz.prog 204 kX (.map none, Qn, .map none) := ⟨.agg #[.map none, Qn, .map none], by kernel_rfl, fun H => ⟨[.map none, Qn, .map none], ⟨[_], [_, _], ⟨rfl, rfl⟩, ⟨[_], [_], ⟨rfl, rfl⟩, ⟨rfl, rfl⟩, rfl⟩, rfl⟩, rfl⟩⟩
abbrev Fr := Int × Value × List Int
structure Rec where
 g : Nat
 gf : Nat
 gh : Nat
 va : Value
 all : List Pr
 has : List (Pr × Int)
 frm : List Fr
def Vr (r : Rec) : Ix := (r.frm.map (fun f => (f.1, f.2.2)), r.all, r.has)
def frI (f : Fr) : It := Qg 3 kI f.2.1 f.2.2
def hdV (frm : List Fr) : List (Int × Value) := frm.map fun f => (f.1, f.2.1)
abbrev encI : Int → Value := Value.int .i64
def Qd9 (r : Rec) : List It := Qb r.g 204 kX (mp r.gf, r.va, mp r.gh) :: Qf r.gf encI IsV (hdV r.frm) :: Qf r.gh Zq kI.T r.has :: Qg 108 kPP r.va r.all :: r.frm.map frI
def Jq (m : List (Lab × Rec)) : List It := m.flatMap fun p => Qd9 p.2
def Wu (m : List (Lab × Rec)) : List (Lab × Value) := m.map fun p => (p.1, pt p.2.g 0)
def Qlx (m : List (Lab × Rec)) : List (Lab × Ix) := m.map fun p => (p.1, Vr p.2)
def Q4d (o : Option Rec) : Option Addr := o.map fun r => ⟨r.g, 0, none⟩
theorem Qy0 (lab : Lab) (m : List (Lab × Rec)) : (lkp lab (Wu m)).getD (.pointer none) = .pointer (Q4d (lkp lab m)) := by
 unfold Wu
 rw [W4 (fun r : Rec => pt r.g 0)]
 cases lkp lab m <;> rfl
theorem Qpz (lab : Lab) (m : List (Lab × Rec)) : lkp lab (Qlx m) = (lkp lab m).map Vr := W4 Vr
theorem Qy1 (lab : Lab) (r : Rec) (m : List (Lab × Rec)) : Qlx (ptk lab r m) = ptk lab (Vr r) (Qlx m) := Qaq Vr
theorem Qbu (lab : Lab) (r : Rec) (m : List (Lab × Rec)) : Wu (ptk lab r m) = ptk lab (pt r.g 0) (Wu m) := Qaq (fun r : Rec => pt r.g 0)
theorem Qea {κ α : Type} [DecidableEq κ] {k : κ} {x : α} : ∀ {m : List (κ × α)}, lkp k m = some x → ptk k x m = m
 | [], h => by cases h
 | (a, b) :: m, h => by
  unfold lkp at h
  unfold ptk
  by_cases e : a = k
  · rw [if_pos e] at h ⊢; cases h; rw [← e]
  rw [if_neg e] at h ⊢; rw [Qea h]
theorem Qrq {lab : Lab} {r : Rec} {m : List (Lab × Rec)} : (Jq (ptk lab r m)).Perm (Qd9 r ++ Jq (dlk lab m)) := by
 have := (Vc (k := lab) (x := r) (m := m)).flatMap_right (fun p : Lab × Rec => Qd9 p.2)
 exact this
theorem Qbv {n : Int} {x : Value × List Int} {m : List Fr} : ((ptk n x m).map frI).Perm (Qg 3 kI x.1 x.2 :: (dlk n m).map frI) := (Vc (k := n) (x := x) (m := m)).map frI
theorem Qcg (n : Int) (x : Value × List Int) (m : List Fr) : hdV (ptk n x m) = ptk n x.1 (hdV m) := Qaq (fun x : Value × List Int => x.1)
theorem Qy2 (n : Int) (x : Value × List Int) (m : List Fr) : (ptk n x m).map (fun f => (f.1, f.2.2)) = ptk n x.2 (m.map fun f => (f.1, f.2.2)) := Qaq (fun x : Value × List Int => x.2)
theorem Qp0 (n : Int) (m : List Fr) : (lkp n (hdV m)).getD Qn = ((lkp n m).getD (Qn, [])).1 := by
 unfold hdV
 rw [W4 (fun x : Value × List Int => x.1)]
 cases lkp n m <;> rfl
theorem Qkf (n : Int) (m : List Fr) : (lkp n (m.map fun f => (f.1, f.2.2))).getD [] = ((lkp n m).getD (Qn, [])).2 := by
 rw [W4 (fun x : Value × List Int => x.2)]
 cases lkp n m <;> rfl
section
variable {C : Cx} {Γ : Env} {L R : List It} {φ : Act → World → Prop}
theorem Qhp (n : Int) {m : List Fr} (hp : L.Perm (m.map frI ++ R)) (h : Tr C Γ (Qg 3 kI ((lkp n (hdV m)).getD Qn) ((lkp n m).getD (Qn, [])).2 :: ((dlk n m).map frI ++ R)) φ) : Tr C Γ L φ := by
 refine Q5 hp ?_
 rw [Qp0] at h
 cases hl : lkp n m with
 | none =>
  rw [hl, Jy (Xx.1 hl)] at h
  exact Xf 3 kI h
 | some x =>
  rw [hl] at h
  have h1 : (m.map frI).Perm (Qg 3 kI x.1 x.2 :: (dlk n m).map frI) := (V7 hl).map frI
  exact Q5 (h1.append_right R) h
end
abbrev Qp1 : Kd (List (Int × List Int)) := Q2h encI (ksl kI).T
abbrev Qrr : Kd (List (Pr × Int)) := Q2h Zq kI.T
abbrev kIx : Kd Ix := Xm Qp1 (Xm (ksl kPP) Qrr)
theorem ly0 {t : Ix} : Qe kIx Qp1 0 t t.1 (fun y => (y, t.2)) := Qe.fst
theorem ly1 {t : Ix} : Qe kIx (ksl kPP) 1 t t.2.1 (fun y => (t.1, y, t.2.2)) := Qe.comp (Qe.snd (a := Qp1) (b := Xm (ksl kPP) Qrr)) (Qe.fst (a := ksl kPP) (b := Qrr))
theorem ly2 {t : Ix} : Qe kIx Qrr 2 t t.2.2 (fun y => (t.1, t.2.1, y)) := Qe.comp (Qe.snd (a := Qp1) (b := Xm (ksl kPP) Qrr)) (Qe.snd (a := ksl kPP) (b := Qrr))
theorem Q5b (r : Rec) : Frz (Qd9 r) fun H => (AtT kIx (Vr r)).p H (pt r.g 0) := by
 have h1 : Frz (r.frm.map frI) fun H => ∀ f ∈ r.frm, (SlT kI f.2.2).p H f.2.1 := Frz.map_ (f := frI) (Q := fun f H => (SlT kI f.2.2).p H f.2.1) (fun f => Qau.ty) r.frm fun f => Frz.own
 have h2 := (Frz.blk (g := r.g) (t := 204) (d := kX) (x := (mp r.gf, r.va, mp r.gh))).cons Qau.ty
  ((Frz.mapI (g := r.gf) (enc := encI) (V := IsV) (m := hdV r.frm)).cons Qau.ty
   ((Frz.mapI (g := r.gh) (enc := Zq) (V := kI.T) (m := r.has)).cons Qau.ty
    ((Frz.own (t := 108) (d := kPP) (v := r.va) (xs := r.all)).cons Qau.ty h1)))
 refine Frz.imp (J := Qd9 r) h2 ?_
 rintro H ⟨q1, q2, q3, q4, q5⟩
 refine AtT.conv q1 ?_
 rintro cs ⟨c1, c2, k1, ⟨c3, c4, k3, k4, rfl⟩, rfl⟩
 have e1 : c1 = [mp r.gf] := k1.1
 have e3 : c3 = [r.va] := k3.1
 have e4 : c4 = [mp r.gh] := k4.1
 subst e1 e3 e4
 refine ⟨_, _, ⟨mp r.gf, rfl, ?_⟩, ⟨[r.va], [mp r.gh], ⟨r.va, rfl, q4⟩, ⟨mp r.gh, rfl, q3⟩, rfl⟩, rfl⟩
 show (Qg8 encI (ksl kI).T (r.frm.map fun f => (f.1, f.2.2))).p H (mp r.gf)
 rcases q2 with ⟨h, _⟩ | ⟨g, es, clock, h1, h2, h3⟩
 · cases h
 refine .inr ⟨g, es, clock, h1, h2, ?_, fun i e p hi hp => ?_, ?_, h3.bn, h3.lt⟩
 · rw [h3.key]; unfold hdV; rw [List.map_map, List.map_map]; rfl
 · rw [List.getElem?_map] at hp
   cases hm : r.frm[i]? with
   | none => rw [hm] at hp; cases hp
   | some f =>
    rw [hm] at hp
    cases hp
    have h4 := h3.val i e (f.1, f.2.1) hi (by unfold hdV; rw [List.getElem?_map, hm]; rfl)
    rw [show e.val = f.2.1 from h4]
    exact q5 f (List.mem_of_getElem? hm)
 have := h3.nd
 unfold hdV keys at this
 unfold keys
 rw [List.map_map] at this ⊢
 exact this
theorem Q4e (g : Nat) (m : List (Lab × Rec)) : Frz (Qf g encS IsV (Wu m) :: Jq m) fun H => (Qg8 encS (kpt kIx).T (m.map fun p => (p.1, some (Vr p.2)))).p H (mp g) := by
 have h1 : Frz (Jq m) fun H => ∀ p ∈ m, (AtT kIx (Vr p.2)).p H (pt p.2.g 0) := Frz.flat (f := fun p : Lab × Rec => Qd9 p.2) (Q := fun p H => (AtT kIx (Vr p.2)).p H (pt p.2.g 0)) (fun p => Qau.ty) m fun p _ => Q5b p.2
 refine ((Frz.mapI (g := g) (enc := encS) (V := IsV) (m := Wu m)).cons Qau.ty h1).imp ?_
 rintro H ⟨q1, q2⟩
 rcases q1 with ⟨h, _⟩ | ⟨g', es, clock, h1, h2, h3⟩
 · cases h
 refine .inr ⟨g', es, clock, h1, h2, ?_, fun i e p hi hp => ?_, ?_, h3.bn, h3.lt⟩
 · rw [h3.key]; unfold Wu; rw [List.map_map, List.map_map]; rfl
 · rw [List.getElem?_map] at hp
   cases hm : m[i]? with
   | none => rw [hm] at hp; cases hp
   | some f =>
    rw [hm] at hp
    cases hp
    have h4 := h3.val i e (f.1, pt f.2.g 0) hi (by unfold Wu; rw [List.getElem?_map, hm]; rfl)
    rw [show e.val = pt f.2.g 0 from h4]
    exact q2 f (List.mem_of_getElem? hm)
 have := h3.nd
 unfold Wu keys at this
 unfold keys
 rw [List.map_map] at this ⊢
 exact this
end Go.Proofs.YtklhdalppmjnaaaGreatDoor
namespace Go.Gw
open Go
theorem Qch {L : List It} : Jf L L := ⟨[], by simp⟩
theorem Wv {L M : List It} {x : It} (h : Jf L M) : Jf (x :: L) M := let ⟨R, hR⟩ := h; ⟨x :: R, (hR.cons x).trans List.perm_middle.symm⟩
theorem Jr {L M N : List It} (h : Jf L M) (h' : Jf M N) : Jf L N := by
 obtain ⟨R, hR⟩ := h
 obtain ⟨S, hS⟩ := h'
 exact ⟨S ++ R, hR.trans ((hS.append_right R).trans (by rw [List.append_assoc]))⟩
theorem Yi {L M : List It} (h : L.Perm M) : Jf L M := ⟨[], by simpa using h⟩
end Go.Gw
namespace Go.Proofs.YtklhdalppmjnaaaGreatDoor
open Go Go.Gw Go.So Go.Tu Go.Jn Go.MapKept
section
variable {C : Cx} {Γ : Env} {X Y : List It} {φ : Act → World → Prop}
theorem Qrs (n : Int) {m : List Fr} (h : Tr C Γ (Qg 3 kI ((lkp n (hdV m)).getD Qn) ((lkp n m).getD (Qn, [])).2 :: (Y ++ ((dlk n m).map frI ++ X))) φ) : Tr C Γ (Y ++ (m.map frI ++ X)) φ := by
 have hp : (Y ++ (m.map frI ++ X)).Perm (m.map frI ++ (Y ++ X)) := by
  rw [← List.append_assoc, ← List.append_assoc]
  exact List.Perm.append_right X List.perm_append_comm
 refine Qhp n hp (Q5 ?_ h)
 refine List.Perm.cons _ ?_
 rw [← List.append_assoc, ← List.append_assoc]
 exact List.Perm.append_right X List.perm_append_comm
theorem Qrt (lab : Lab) {r : Rec} {m : List (Lab × Rec)} (hl : lkp lab m = some r) (h : Tr C Γ (Y ++ (Qd9 r ++ Jq (dlk lab m))) φ) : Tr C Γ (Y ++ Jq m) φ :=
 Q5 (List.Perm.append_left Y ((V7 hl).flatMap_right (fun p : Lab × Rec => Qd9 p.2))) h
end
theorem Qi6 {g : Nat} {lab : Lab} {r : Rec} {recs : List (Lab × Rec)} : Jf (Qf g encS IsV (Wu (ptk lab r recs)) :: (Qd9 r ++ Jq (dlk lab recs))) (Qf g encS IsV (Wu (ptk lab r recs)) :: Jq (ptk lab r recs)) := Yi (Qrq.symm.cons _)
theorem Qup {n : Int} {x : Value × List Int} {m : List Fr} {X : List It} : Jf (Qg 3 kI x.1 x.2 :: ((dlk n m).map frI ++ X)) ((ptk n x m).map frI ++ X) := Yi ((Qbv.symm.append_right X))
theorem Quq {r : Rec} {p : Pr} {v w : Value} (hc : (lkp p r.has).getD 0 + 1 = 1) : Vr { r with has := ptk p ((lkp p r.has).getD 0 + 1) r.has, all := r.all ++ [p], va := v, frm := ptk p.1 (w, ((lkp p.1 r.frm).getD (Qn, [])).2 ++ [p.2]) r.frm } = Qfv (Vr r) p := by
 unfold Qfv Vr
 simp only [if_pos hc, Qy2, Qkf]
theorem Qy3 {r : Rec} {p : Pr} (hc : ¬ (lkp p r.has).getD 0 + 1 = 1) : Vr { r with has := ptk p ((lkp p r.has).getD 0 + 1) r.has } = Qfv (Vr r) p := by
 unfold Qfv Vr
 simp only [if_neg hc]
theorem Qly {l : List Ed} {k : Nat} {e : Ed} {recs : List (Lab × Rec)} {r r' : Rec} (h : k < l.length) (he : at' l (k : Int) = e) (hr : Qlx recs = Zb (l.take k)) (hc : Vr r = (lkp e.2.1 (Zb (l.take k))).getD ([], [], [])) (hs : Vr r' = Qfv (Vr r) (e.1, e.2.2)) : Qlx (ptk e.2.1 r' recs) = Zb (l.take (k + 1)) := by
 rw [Qy1, hs, hr, hc]
 rw [Qz h] at he
 rw [List.take_succ_eq_append_getElem h, he]
 unfold Zb
 rw [List.foldl_append]; rfl
theorem Qru {l : List Ed} {k : Nat} {lab : Lab} {r : Rec} (h : k ≤ l.length) (hc : Vr r = (lkp lab (Zb (l.take k))).getD ([], [], [])) (p : Pr) : 0 ≤ (lkp p r.has).getD 0 ∧ (lkp p r.has).getD 0 ≤ l.length ∧ r.all.length ≤ l.length ∧ ((lkp p.1 r.frm).getD (Qn, [])).2.length ≤ l.length := by
 obtain ⟨hx, _⟩ := Qhl (l.take k) lab
 rw [← hc] at hx
 have h1 := Qpv (l.take k) lab
 rw [List.length_take] at h1
 have h2 := hx.h0 p
 have h3 := hx.hl p
 have h4 := hx.al
 have h5 := hx.fl p.1
 have e5 : (lkp p.1 (Vr r).1).getD [] = ((lkp p.1 r.frm).getD (Qn, [])).2 := Qkf p.1 r.frm
 rw [e5] at h5
 have e4 : (Vr r).2.1 = r.all := rfl
 rw [e4] at h4
 have e3 : (Vr r).2.2 = r.has := rfl
 rw [e3] at h2 h3
 refine ⟨h2, ?_, ?_, ?_⟩ <;> omega
def Qur (m : List (Lab × Ix)) : List (Lab × Option Ix) := m.map fun p => (p.1, some p.2)
theorem Qus (m : List (Lab × Rec)) : (m.map fun p => (p.1, some (Vr p.2))) = Qur (Qlx m) := by unfold Qur Qlx; rw [List.map_map]; rfl
end Go.Proofs.YtklhdalppmjnaaaGreatDoor
namespace Go.Proofs.YtklhdalppmjnaaaGreatDoor
open Go Go.Gw Go.So Go.Tu Go.Jn Go.MapKept
section
variable {g : Nat} {lab : Lab} {r : Rec} {recs : List (Lab × Rec)} {T1 T2 : It}
theorem Qy4 {n : Int} {w va : Value} {xs : List Int} {all : List Pr} {has : List (Pr × Int)} :
 Jf (Qf r.gf encI IsV (ptk n w (hdV r.frm)) :: Qg 3 kI w xs :: Qb r.g 204 kX (mp r.gf, va, mp r.gh) :: Qg 108 kPP va all :: Qf r.gh Zq kI.T has :: T1 :: Qf g encS IsV (Wu (ptk lab r recs)) :: T2 :: ((dlk n r.frm).map frI ++ Jq (dlk lab recs)))
  (Qf g encS IsV (Wu (ptk lab { r with has := has, all := all, va := va, frm := ptk n (w, xs) r.frm } recs)) :: Jq (ptk lab { r with has := has, all := all, va := va, frm := ptk n (w, xs) r.frm } recs)) := by
 refine Jr ?_ Qi6
 rw [Qbu, Qbu]
 unfold Qd9
 rw [Qcg]
 refine Zd 6 rfl (Zd 2 rfl (Zd 0 rfl (Zd 2 rfl (Zd 1 rfl ?_))))
 show Jf (Qg 3 kI w xs :: T1 :: T2 :: ((dlk n r.frm).map frI ++ Jq (dlk lab recs))) ((ptk n (w, xs) r.frm).map frI ++ Jq (dlk lab recs))
 refine Jr ?_ Qup
 exact Zd 0 rfl (Wv (Wv Qch))
theorem Q2j {has : List (Pr × Int)} :
 Jf (Qf r.gh Zq kI.T has :: T1 :: Qf g encS IsV (Wu (ptk lab r recs)) :: T2 :: Qb r.g 204 kX (mp r.gf, r.va, mp r.gh) :: Qf r.gf encI IsV (hdV r.frm) :: Qg 108 kPP r.va r.all :: (r.frm.map frI ++ Jq (dlk lab recs)))
  (Qf g encS IsV (Wu (ptk lab { r with has := has } recs)) :: Jq (ptk lab { r with has := has } recs)) := by
 refine Jr ?_ Qi6
 rw [Qbu, Qbu]
 unfold Qd9
 exact Zd 2 rfl (Zd 3 rfl (Zd 3 rfl (Zd 0 rfl (Zd 2 rfl (Wv (Wv Qch))))))
theorem Qy5 {gx gf gh : Nat} (hn : lkp lab recs = none) :
 Jf (Qf g encS IsV (ptk lab (pt gx 0) (Wu recs)) :: Qg 108 kPP Qn [] :: Qb gx 204 kX (mp gf, Qn, mp gh) :: Qf gh Zq kI.T [] :: Qf gf encI IsV [] :: T1 :: Jq recs)
  (Qf g encS IsV (Wu (ptk lab ⟨gx, gf, gh, Qn, [], [], []⟩ recs)) :: T1 :: (Qd9 ⟨gx, gf, gh, Qn, [], [], []⟩ ++ Jq (dlk lab recs))) := by
 rw [Qbu, Jy (Xx.1 hn)]
 exact Zd 0 rfl (Zd 4 rfl (Zd 1 rfl (Zd 2 rfl (Zd 1 rfl (Zd 0 rfl Qch)))))
theorem Qy6 (hr : lkp lab recs = some r) :
 Jf (T1 :: Qf g encS IsV (Wu recs) :: (Qd9 r ++ Jq (dlk lab recs))) (Qf g encS IsV (Wu (ptk lab r recs)) :: T1 :: (Qd9 r ++ Jq (dlk lab recs))) := by
 rw [Qea hr]
 exact Zd 1 rfl (Zd 0 rfl Qch)
end
end Go.Proofs.YtklhdalppmjnaaaGreatDoor
namespace Go.Jn
open Go Go.Gw Go.Tu
section
variable {x : Ix} {r : Tp} {f t : Nat} {nx : List Tp}
abbrev Wn (nx : List Tp) (o : Option Ix) (r : Tp) (f t : Nat) : Bool := decide (nx.length + (ext o r f t).length ≤ 3000)
theorem Qp2 (h1 : f < r.length) (h2 : t < r.length) : ext (some x) r f t = if (lkp (r.getD f 0, r.getD t 0) x.2.2).getD 0 = 0 then [] else [r] := by rw [Qbs, if_pos ⟨h1, h2⟩]
theorem Qut (h1 : f < r.length) (h2 : ¬ t < r.length) : ext (some x) r f t = ((lkp (r.getD f 0) x.1).getD []).map (fun b => r ++ [b]) := by rw [Qbs, if_neg (fun e => h2 e.2), if_pos h1]
theorem Quu (h1 : ¬ f < r.length) : ext (some x) r f t = x.2.1.filterMap (Wa r t) := by rw [Qbs, if_neg (fun e => h1 e.1), if_neg h1]
theorem Q4f {b : Bool} (h1 : f < r.length) (h2 : t < r.length) (hc : decide ((lkp (r.getD f 0, r.getD t 0) x.2.2).getD 0 = 0) = false) (hb : b = decide (((nx ++ [r]).length : Int) ≤ 3000)) : (decide ((lkp (r.getD f 0, r.getD t 0) x.2.2).getD 0 = 0) || b) = Wn nx (some x) r f t := by
 unfold Wn
 rw [Qp2 h1 h2, if_neg (by simpa using hc), hc, hb, Bool.false_or, Bool.eq_iff_iff]
 simp only [decide_eq_true_eq, List.length_append, List.length_singleton]; omega
theorem Q5c {b : Bool} (h1 : f < r.length) (h2 : t < r.length) (hn : nx.length ≤ 3000) (hc : decide ((lkp (r.getD f 0, r.getD t 0) x.2.2).getD 0 = 0) = true) : (decide ((lkp (r.getD f 0, r.getD t 0) x.2.2).getD 0 = 0) || b) = Wn nx (some x) r f t := by
 unfold Wn
 rw [Qp2 h1 h2, if_pos (by simpa using hc), hc, Bool.true_or]
 symm; simpa using hn
theorem U9 {α β : Type} [Inhabited α] {l : List α} (f : α → β) {k : Nat} (h : k < l.length) : (l.take (k + 1)).map f = (l.take k).map f ++ [f (at' l (k : Int))] := by
 rw [Qz h, List.take_succ_eq_append_getElem h, List.map_append]; rfl
theorem Qrv {α β : Type} [Inhabited α] {l : List α} (f : α → Option β) {k : Nat} (h : k < l.length) : (l.take (k + 1)).filterMap f = (l.take k).filterMap f ++ (f (at' l (k : Int))).toList := by
 rw [Qz h, List.take_succ_eq_append_getElem h, List.filterMap_append]
 congr 1
theorem Qy7 {i : Nat} {bl : List Int} (he : (lkp (r.getD f 0) x.1).getD [] = bl) (h1 : f < r.length) (h2 : ¬ t < r.length) (hi : i < bl.length) {s : List Tp} (hs : s.length = nx.length + i + 1) (hc : ¬ ((s.length : Int) ≤ 3000)) : false = Wn nx (some x) r f t := by
 unfold Wn
 rw [Qut h1 h2, he, List.length_map]
 symm; simp only [decide_eq_false_iff_not]; omega
theorem Q2k {bl : List Int} (he : (lkp (r.getD f 0) x.1).getD [] = bl) (h1 : f < r.length) (h2 : ¬ t < r.length) (hn : nx.length + bl.length ≤ 3000) : true = Wn nx (some x) r f t := by
 unfold Wn
 rw [Qut h1 h2, he, List.length_map]
 symm; simpa using hn
theorem Qy8 {α β : Type} (f : α → Option β) (l : List α) (k : Nat) : ((l.take k).filterMap f).length ≤ (l.filterMap f).length := by
 have h := List.take_append_drop k l
 have h2 : (l.filterMap f).length = ((l.take k).filterMap f).length + ((l.drop k).filterMap f).length := by
  conv => lhs; rw [← h]
  rw [List.filterMap_append, List.length_append]
 omega
theorem Qp3 {i : Nat} (h1 : ¬ f < r.length) {s : List Tp} (hs : s = nx ++ (x.2.1.take (i + 1)).filterMap (Wa r t)) (hc : ¬ ((s.length : Int) ≤ 3000)) : false = Wn nx (some x) r f t := by
 unfold Wn
 rw [Quu h1]
 have := Qy8 (Wa r t) x.2.1 (i + 1)
 rw [hs, List.length_append] at hc
 symm; simp only [decide_eq_false_iff_not]; omega
theorem Q2l (h1 : ¬ f < r.length) (hn : (nx ++ x.2.1.filterMap (Wa r t)).length ≤ 3000) : true = Wn nx (some x) r f t := by
 unfold Wn
 rw [Quu h1, ← List.length_append]
 symm; simpa using hn
end
end Go.Jn
namespace Go.Proofs.YtklhdalppmjnaaaGreatDoor
open Go Go.Gw Go.So Go.Tu Go.Jn

/-- rhizome/join.byLabel -/
theorem Qo5 (l : List Ed) (hm : l.length ≤ 1000000) : Ct Tryz.prog 95 [SlT kE l] ([]) Unit (fun _ => Qg8 encS (kpt kIx).T (Qur (Zb l))) (fun _ => []) (fun _ => True) := by
 refine Qm Tryz.func95 rfl rfl ?_
 intro H w
 refine sq (rg (ak rfl (tn (nn (sq (rg (oA (Q8 encS IsV) pR rfl rfl (fun g1_0 _ => ?_))))))))
 refine av rfl rfl (tn (nn (sq (sq (rg (mv rfl rfl (oP (pls oz Tryz.underlying26) rfl (oP (Qp ot) rfl (tn (nn (tb (Qr (σ := Nat × List (Lab × Rec)) (e2 3 9 rfl (ec 10 rfl en)) (fun s => [(11, I64 (s.1 : Int))]) (fun s => (Qf g1_0 encS IsV (Wu s.2) :: Jq s.2)) (fun s => s.1 ≤ l.length ∧ Qlx s.2 = Zb (l.take s.1)) (fun s => l.length - s.1) (0, []) ⟨Nat.zero_le _, rfl⟩ ?_ (op pl) ?_))))))))))))
 · exact (ec 11 rfl en)
 rintro ⟨k, recs⟩ ⟨hk, habs⟩
 dsimp only at hk habs ⊢
 refine sq (rg (oP (Q6 oz oz) rfl (tn (nn (sq (tc oz (fun c12 => ?_) (fun c12 => ?_)))))))
 · refine sk (nn (sq (tb (sq ?_))))
   have hkl : k < l.length := by simpa using c12
   obtain ⟨e, he⟩ : ∃ e, at' l (k : Int) = e := ⟨_, rfl⟩
   refine rg (oP (Qk oz oz Tryz.underlying26 y16 (by omega) (by omega)) rfl (oP (pL oz y16) rfl (oA (Q1 (zE)) pR rfl rfl (fun g4_2 _ => ?_))))
   refine oA (asv oz oz (pA 0 rfl) y16) (pA 0 rfl) rfl rfl (fun _ _ => ?_)
   refine tn (nn (sq ?_))
   rw [he]
   refine rg (mv rfl rfl (oP (pf oz yh3) rfl (oP (plb oz (mA 0 rfl) le1 ylw) rfl (oP (X7 mkS Tryz.underlying168 (z0 := (.pointer none)) (by kernel_rfl) oz (mA 1 rfl) oz) rfl (av rfl rfl (tn (nn (U4 (σ := Rec) (e4 3 5 9 10 rfl (ec 11 rfl en)) (fun cur => [(6, IsV (pt cur.g 0))]) (fun cur => Qf g1_0 encS IsV (Wu (ptk e.2.1 cur recs)) :: Qb g4_2 42 kE e :: Qb cur.g 204 kX (mp cur.gf, cur.va, mp cur.gh) :: Qf cur.gf encI IsV (hdV cur.frm) :: Qf cur.gh Zq kI.T cur.has :: Qg 108 kPP cur.va cur.all :: (cur.frm.map frI ++ Jq (dlk e.2.1 recs))) (fun cur => Vr cur = (lkp e.2.1 (Zb (l.take k))).getD ([], [], [])) ?_ ?_))))))))
   · refine sq ?_
     rw [Qy0]
     refine rg (mv rfl rfl (oP (K1 Qe9 oz Tryz.underlying172) rfl (tn (nn (tc oz (fun c20 => ?_) (fun c20 => ?_))))))
     · have hnone : lkp e.2.1 recs = none := by
        cases hx : lkp e.2.1 recs with
        | none => rfl
        | some r => rw [hx] at c20; cases c20
       refine sq (rg (oA (Q8 encI IsV) pR rfl rfl (fun g7_0 _ => ?_)))
       refine oA (Q8 Zq kI.T) pR rfl rfl (fun g7_1 _ => ?_)
       refine oP (Zc (d := kX) (v0 := (.map none, Qn, .map none)) (ps := [(0, 1), (1, 1), (2, 1)]) zX (by kernel_rfl) rfl (Qi rfl lx0 (by exact OT.raw oz rfl) (Qi rfl lx2 (by exact OT.raw oz rfl) Qd))) rfl ?_
       refine oA (Xe (d := kX) oz) pR rfl rfl (fun g7_3 _ => ?_)
       refine av rfl rfl (tn (nn (Xf 108 kPP (rg (mv rfl rfl (oP (pf oz yh3) rfl (oP (plb oz (mA 4 rfl) le1 ylw) rfl (mv rfl rfl (oA (X4 mkS Tryz.underlying168 oz (pA 5 rfl) oz oz) (pA 5 rfl) rfl rfl (fun _ _ => ?_))))))))))
       refine tn (nn ?_)
       exact Yv ({ g := g7_3, gf := g7_0, gh := g7_1, va := Qn, all := [], has := [], frm := [] }) (by rw [← habs, Qpz, hnone]; rfl) ef (op (Qy5 hnone))
     obtain ⟨r, hr⟩ : ∃ r, lkp e.2.1 recs = some r := by
      cases hx : lkp e.2.1 recs with
      | none => rw [hx] at c20; cases c20
      | some r => exact ⟨r, rfl⟩
     refine Qrt (Y := [_, _]) e.2.1 hr ?_
     rw [hr]
     refine sk (nn ?_)
     exact Yv r (by rw [← habs, Qpz, hr]; rfl) ef (op (Qy6 hr))
   rintro cur hcur
   refine sq ?_
   obtain ⟨hb1, hb2, hb3, hb4⟩ := Qru (l := l) (by omega) hcur (e.1, e.2.2)
   refine rg (oP (pf oz ye8) rfl (oP (plb oz (mA 1 rfl) le0 ynm) rfl (oP (pf oz y9l) rfl (oP (plb oz (mA 1 rfl) le2 ynm) rfl (oP (Xq (d := kPP) (v0 := (0, 0)) (agg := false) Tryz.underlying108 ynm zP rfl (Qi rfl Qe.p0 oz (Qi rfl Qe.p1 oz Qd))) rfl (oA (Q1 (zP)) pR rfl rfl (fun g9_5 _ => ?_)))))))
   refine oA (asv oz oz (pA 0 rfl) yd7) (pA 0 rfl) rfl rfl (fun _ _ => ?_)
   refine tn (nn (sq (Q5 (Qq 5 rfl) (Q5 (Qq 1 rfl) ?_))))
   apply Ye (ρ := Nat) (φ := fun rr => True) (p := 7) (Lf := fun c rr => cond c (Qis cur.gh Zq kI.T (ptk (e.1, e.2.2) ((lkp (e.1, e.2.2) cur.has).getD 0) cur.has) (e.1, e.2.2) rr :: Qb g9_5 108 kPP (e.1, e.2.2) :: Qf g1_0 encS IsV (Wu (ptk e.2.1 cur recs)) :: Qb g4_2 42 kE e :: Qb cur.g 204 kX (mp cur.gf, cur.va, mp cur.gh) :: Qf cur.gf encI IsV (hdV cur.frm) :: Qg 108 kPP cur.va cur.all :: (cur.frm.map frI ++ Jq (dlk e.2.1 recs))) (Qb g9_5 108 kPP (e.1, e.2.2) :: Qf cur.gh Zq kI.T cur.has :: Qf g1_0 encS IsV (Wu (ptk e.2.1 cur recs)) :: Qb g4_2 42 kE e :: Qb cur.g 204 kX (mp cur.gf, cur.va, mp cur.gh) :: Qf cur.gf encI IsV (hdV cur.frm) :: Qg 108 kPP cur.va cur.all :: (cur.frm.map frI ++ Jq (dlk e.2.1 recs)))) 0 (by kernel_rfl) (m := 9) (ns := [[(6, none)], [(34, some 0)], [(35, some 1)], [(36, some 2)], [(7, none)], [(37, some 3), (38, some 4)], [(39, some 5)], [(37, some 3), (38, some 4)], [(41, some 7)]]) (by kernel_rfl) (by kernel_rfl) (Ts := fun rr => [_, _, _, _, _, _, _, J7 [kI.T ((lkp (e.1, e.2.2) cur.has).getD 0), I64 (rr : Int)], I64 (rr : Int)]) (fun _ => rfl)
   case hops =>
    refine ⟨?_, ?_, ?_, ?_, ?_, ?_, ?_, ?_, ?_, trivial⟩
    · exact ⟨cBf (by kernel_rfl) fun r _ => rgo r rfl ⟨rfl, trivial⟩ (rmv rfl), fun _ _ _ _ => rfl⟩
    · exact ⟨cBf (by kernel_rfl) fun r _ => rgo r rfl ⟨rfl, trivial⟩ (rP (Qc oz)), fun _ _ _ _ => rfl⟩
    · exact ⟨cBf (by kernel_rfl) fun r _ => rgo r rfl ⟨rfl, trivial⟩ (rP (pf oz ywt)), fun _ _ _ _ => rfl⟩
    · exact ⟨cBf (by kernel_rfl) fun r _ => rgo r rfl ⟨rfl, trivial⟩ (rP (Qj oz (mA 4 rfl) lx2 y7m)), fun _ _ _ _ => rfl⟩
    · exact ⟨cBf (by kernel_rfl) fun r _ => rgo r rfl ⟨rfl, trivial⟩ (rP (plv oz (mA 0 rfl) yd7)), fun _ _ _ _ => rfl⟩
    · exact ⟨cB (fun r hc => rgo r rfl ⟨rfl, trivial⟩ (rP (Xo mkP Tryz.underlying202 zI oz (mA 1 rfl) oz))) fun r hc => rgo r rfl ⟨rfl, trivial⟩ (rP (Vj mkP Tryz.underlying202 zI oz (mA 0 rfl) oz)), fun _ _ _ _ => rfl⟩
    · exact ⟨by intro c r hc; cases c <;> exact rgo r rfl ⟨rfl, trivial⟩ (rP (pad oz ot (by omega))), fun _ _ _ _ => rfl⟩
    · refine ⟨?_, ?_⟩
      · exact cBf (by kernel_rfl) fun r _ => Zf rfl (Qc3 mkP Tryz.underlying202 zI oz (pA 1 rfl) oz) (pA 1 rfl) (fun r => pR) (fun _ _ _ => trivial) (fun _ _ _ _ h => h)
      exact fun _ h => absurd h (by decide)
    refine ⟨?_, ?_⟩
    · exact cBt (by kernel_rfl) fun r _ => rgo r rfl ⟨rfl, trivial⟩ (rP (Ql oz rfl))
    exact fun h => Bool.noConfusion (h.symm.trans (by kernel_rfl : Jb _ _ _ _ = false))
   case h =>
    intro s10_7 _
    refine oA (Vi oz (pA 0 rfl) oz oz) (pA 0 rfl) rfl rfl (fun _ _ => ?_)
    refine tn ?_
    rw [Qgd]
    refine nn (sq ?_)
    apply Xs (m := 5) (ns := [[(6, none)], [(43, some 0)], [(44, some 1)], [(45, some 2)], [(7, none)]]) (by kernel_rfl) (by kernel_rfl) (Ts := [_, _, _, _, _]) rfl
    case hops =>
     exact ⟨rmv rfl, rP (Qc oz), rP (pf oz ywt), rP (Qj oz (mA 4 rfl) lx2 y7m), rP (plv oz (mA 1 rfl) yd7), trivial⟩
    case h =>
     refine oP (Xo mkP Tryz.underlying202 zI oz (mA 0 rfl) oz) rfl (oP (Zu oz ot) rfl (tn (nn (tc oz (fun c49 => ?_) (fun c49 => ?_)))))
     · have hc : ((lkp (e.1, e.2.2) cur.has).getD 0 + 1) = 1 := by rw [Xl, if_pos rfl] at c49; simpa using c49
       refine sq ?_
       apply Ye (ρ := Value) (φ := fun rr => True) (p := 7) (Lf := fun c rr => cond c (Qg 108 kPP rr (cur.all ++ [(e.1, e.2.2)]) :: Qf cur.gh Zq kI.T (ptk (e.1, e.2.2) ((lkp (e.1, e.2.2) cur.has).getD 0 + 1) cur.has) :: Qb g9_5 108 kPP (e.1, e.2.2) :: Qf g1_0 encS IsV (Wu (ptk e.2.1 cur recs)) :: Qb g4_2 42 kE e :: Qb cur.g 204 kX (mp cur.gf, cur.va, mp cur.gh) :: Qf cur.gf encI IsV (hdV cur.frm) ::  (cur.frm.map frI ++ Jq (dlk e.2.1 recs))) (Qf cur.gh Zq kI.T (ptk (e.1, e.2.2) ((lkp (e.1, e.2.2) cur.has).getD 0 + 1) cur.has) :: Qb g9_5 108 kPP (e.1, e.2.2) :: Qf g1_0 encS IsV (Wu (ptk e.2.1 cur recs)) :: Qb g4_2 42 kE e :: Qb cur.g 204 kX (mp cur.gf, cur.va, mp cur.gh) :: Qf cur.gf encI IsV (hdV cur.frm) :: Qg 108 kPP cur.va cur.all :: (cur.frm.map frI ++ Jq (dlk e.2.1 recs)))) Qn (by kernel_rfl) (m := 8) (ns := [[(6, none)], [(6, none)], [(51, some 1)], [(52, some 2)], [(53, some 3)], [(7, none)], [(55, some 5)], [(54, some 4), (56, some 6)]]) (by kernel_rfl) (by kernel_rfl) (Ts := fun rr => [_, _, _, _, _, _, _, IsV rr]) (fun _ => rfl)
       case hops =>
        refine ⟨?_, ?_, ?_, ?_, ?_, ?_, ?_, ?_, trivial⟩
        · exact ⟨by intro c r hc; cases c <;> exact rgo r rfl ⟨rfl, trivial⟩ (rmv rfl), fun _ _ _ _ => rfl⟩
        · exact ⟨cBf (by kernel_rfl) fun r _ => rgo r rfl ⟨rfl, trivial⟩ (rmv rfl), fun _ _ _ _ => rfl⟩
        · exact ⟨cBf (by kernel_rfl) fun r _ => rgo r rfl ⟨rfl, trivial⟩ (rP (Qc oz)), fun _ _ _ _ => rfl⟩
        · exact ⟨cBf (by kernel_rfl) fun r _ => rgo r rfl ⟨rfl, trivial⟩ (rP (pf oz yrl)), fun _ _ _ _ => rfl⟩
        · exact ⟨cBf (by kernel_rfl) fun r _ => rgo r rfl ⟨rfl, trivial⟩ (rP (Qj oz (mA 4 rfl) lx1 yl0)), fun _ _ _ _ => rfl⟩
        · exact ⟨cBf (by kernel_rfl) fun r _ => rgo r rfl ⟨rfl, trivial⟩ (rP (plv oz (mA 1 rfl) yd7)), fun _ _ _ _ => rfl⟩
        · exact ⟨cBf (by kernel_rfl) fun r _ => rgo r rfl ⟨rfl, trivial⟩ (X8 rfl (Q9 (d := kPP) (v0 := (0, 0)) yie yd7 zP (show 1 * 2 ≤ 16777216 from by decide) (by decide) (Qx rfl rfl (by decide) oz Qd)) (fun _ _ _ _ h => h)), fun _ _ _ _ => rfl⟩
        refine ⟨?_, ?_⟩
        · exact cBf (by kernel_rfl) fun r _ => Zf rfl (Q0 oz (pA 6 rfl) oz yie (by (simp; omega)) (by (simp [maxLen]; omega))) (pA 6 rfl) (fun r => pR) (fun _ _ _ => trivial) (fun _ _ _ _ h => h)
        exact fun _ h => absurd h (by decide)
       case h =>
        intro v12_7 _
        refine oP (Qc oz) rfl (oP (pf oz yrl) rfl (Vq (Zv 0 rfl) Ve fun hone => (oA (Zo oz oz (by assumption) (pA 5 rfl) lx1 yl0) (pA 5 rfl) rfl rfl (fun _ _ => ?_))))
        refine tn (nn (Qrs (Y := [_, _, _, _, _, _, _]) e.1 ?_))
        apply Ye (ρ := Value) (φ := fun rr => True) (p := 16) (Lf := fun c rr => cond c (Qg 3 kI rr (((lkp e.1 cur.frm).getD (Qn, [])).2 ++ [e.2.2]) :: Qb cur.g 204 kX (mp cur.gf, v12_7, mp cur.gh) :: Qg 108 kPP v12_7 (cur.all ++ [(e.1, e.2.2)]) :: Qf cur.gh Zq kI.T (ptk (e.1, e.2.2) ((lkp (e.1, e.2.2) cur.has).getD 0 + 1) cur.has) :: Qb g9_5 108 kPP (e.1, e.2.2) :: Qf g1_0 encS IsV (Wu (ptk e.2.1 cur recs)) :: Qb g4_2 42 kE e :: Qf cur.gf encI IsV (hdV cur.frm) :: ((dlk e.1 cur.frm).map frI ++ Jq (dlk e.2.1 recs))) (Qg 3 kI ((lkp e.1 (hdV cur.frm)).getD Qn) ((lkp e.1 cur.frm).getD (Qn, [])).2 :: Qb cur.g 204 kX (mp cur.gf, v12_7, mp cur.gh) :: Qg 108 kPP v12_7 (cur.all ++ [(e.1, e.2.2)]) :: Qf cur.gh Zq kI.T (ptk (e.1, e.2.2) ((lkp (e.1, e.2.2) cur.has).getD 0 + 1) cur.has) :: Qb g9_5 108 kPP (e.1, e.2.2) :: Qf g1_0 encS IsV (Wu (ptk e.2.1 cur recs)) :: Qb g4_2 42 kE e :: Qf cur.gf encI IsV (hdV cur.frm) :: ((dlk e.1 cur.frm).map frI ++ Jq (dlk e.2.1 recs)))) Qn (by kernel_rfl) (m := 17) (ns := [[(6, none)], [(60, some 0)], [(61, some 1)], [(62, some 2)], [(5, none)], [(64, some 4)], [(6, none)], [(66, some 6)], [(67, some 7)], [(68, some 8)], [(5, none)], [(70, some 10)], [(69, some 9), (71, some 11)], [(5, none)], [(73, some 13)], [(74, some 14)], [(72, some 12), (75, some 15)]]) (by kernel_rfl) (by kernel_rfl) (Ts := fun rr => [_, _, _, _, _, _, _, _, _, _, _, _, _, _, _, _, IsV rr]) (fun _ => rfl)
        case hops =>
         refine ⟨?_, ?_, ?_, ?_, ?_, ?_, ?_, ?_, ?_, ?_, ?_, ?_, ?_, ?_, ?_, ?_, ?_, trivial⟩
         · exact ⟨by intro c r hc; cases c <;> exact rgo r rfl ⟨rfl, trivial⟩ (rmv rfl), fun _ _ _ _ => rfl⟩
         · exact ⟨by intro c r hc; cases c <;> exact rgo r rfl ⟨rfl, trivial⟩ (rP (Qc oz)), fun _ _ _ _ => rfl⟩
         · exact ⟨by intro c r hc; cases c <;> exact rgo r rfl ⟨rfl, trivial⟩ (rP (pf oz yfy)), fun _ _ _ _ => rfl⟩
         · exact ⟨by intro c r hc; cases c <;> exact rgo r rfl ⟨rfl, trivial⟩ (rP (Qj oz (mA 1 rfl) lx0 y30)), fun _ _ _ _ => rfl⟩
         · exact ⟨by intro c r hc; cases c <;> exact rgo r rfl ⟨rfl, trivial⟩ (rP (pf oz ye8)), fun _ _ _ _ => rfl⟩
         · exact ⟨by intro c r hc; cases c <;> exact rgo r rfl ⟨rfl, trivial⟩ (rP (plb oz (mA 6 rfl) le0 ynm)), fun _ _ _ _ => rfl⟩
         · exact ⟨cBf (by kernel_rfl) fun r _ => rgo r rfl ⟨rfl, trivial⟩ (rmv rfl), fun _ _ _ _ => rfl⟩
         · exact ⟨cBf (by kernel_rfl) fun r _ => rgo r rfl ⟨rfl, trivial⟩ (rP (Qc oz)), fun _ _ _ _ => rfl⟩
         · exact ⟨cBf (by kernel_rfl) fun r _ => rgo r rfl ⟨rfl, trivial⟩ (rP (pf oz yfy)), fun _ _ _ _ => rfl⟩
         · exact ⟨cBf (by kernel_rfl) fun r _ => rgo r rfl ⟨rfl, trivial⟩ (rP (Qj oz (mA 1 rfl) lx0 y30)), fun _ _ _ _ => rfl⟩
         · exact ⟨cBf (by kernel_rfl) fun r _ => rgo r rfl ⟨rfl, trivial⟩ (rP (pf oz ye8)), fun _ _ _ _ => rfl⟩
         · exact ⟨cBf (by kernel_rfl) fun r _ => rgo r rfl ⟨rfl, trivial⟩ (rP (plb oz (mA 6 rfl) le0 ynm)), fun _ _ _ _ => rfl⟩
         · exact ⟨cBf (by kernel_rfl) fun r _ => rgo r rfl ⟨rfl, trivial⟩ (rP (X7 mkI Tryz.underlying120 (z0 := Qn) (by kernel_rfl) oz (mA 7 rfl) oz)), fun _ _ _ _ => rfl⟩
         · exact ⟨cBf (by kernel_rfl) fun r _ => rgo r rfl ⟨rfl, trivial⟩ (rP (pf oz y9l)), fun _ _ _ _ => rfl⟩
         · exact ⟨cBf (by kernel_rfl) fun r _ => rgo r rfl ⟨rfl, trivial⟩ (rP (plb oz (mA 6 rfl) le2 ynm)), fun _ _ _ _ => rfl⟩
         · exact ⟨cBf (by kernel_rfl) fun r _ => rgo r rfl ⟨rfl, trivial⟩ (X8 rfl (Q9 (d := kI) (v0 := 0) y9t ynm zI (show 1 * 1 ≤ 16777216 from by decide) (by decide) (Qx rfl rfl (by decide) oz Qd)) (fun _ _ _ _ h => h)), fun _ _ _ _ => rfl⟩
         refine ⟨?_, ?_⟩
         · exact cBf (by kernel_rfl) fun r _ => Zf rfl (Q0 oz (pA 0 rfl) oz y9t (by (simp [maxLen] at *; omega)) (by (simp [maxLen] at *; omega))) (pA 0 rfl) (fun r => pR) (fun _ _ _ => trivial) (fun _ _ _ _ h => h)
         exact fun _ h => absurd h (by decide)
        case h =>
         intro v13_16 _
         refine oA (X4 mkI Tryz.underlying120 oz (pA 7 rfl) oz oz) (pA 7 rfl) rfl rfl (fun _ _ => ?_)
         refine tn (bn (nn (rg (oP (pad oz ot (by omega)) rfl (mv rfl rfl (tn (nn ?_)))))))
         exact tg (k + 1, ptk e.2.1 { cur with has := (ptk (e.1, e.2.2) ((lkp (e.1, e.2.2) cur.has).getD 0 + 1) cur.has), all := cur.all ++ [(e.1, e.2.2)], va := v12_7, frm := ptk e.1 (v13_16, ((lkp e.1 cur.frm).getD (Qn, [])).2 ++ [e.2.2]) cur.frm } recs) ⟨(by show k + 1 ≤ l.length; omega), Qly hkl he habs hcur (Quq hc)⟩ (by omega) ef (op Qy4)
     have hc : ¬ ((lkp (e.1, e.2.2) cur.has).getD 0 + 1) = 1 := by rw [Xl, if_pos rfl] at c49; simpa using c49
     refine sk (bn (nn (rg (oP (pad oz ot (by omega)) rfl (mv rfl rfl (tn (nn ?_)))))))
     exact tg (k + 1, ptk e.2.1 { cur with has := (ptk (e.1, e.2.2) ((lkp (e.1, e.2.2) cur.has).getD 0 + 1) cur.has) } recs) ⟨(by show k + 1 ≤ l.length; omega), Qly hkl he habs hcur (Qy3 hc)⟩ (by omega) ef (op Q2j)
 refine Qy (tx (tx (bh (nn (sq ?_)))))
 have hkl : k = l.length := by simp only [decide_eq_false_iff_not] at c12; omega
 rw [hkl, List.take_length] at habs
 refine rg (mv rfl rfl (av rfl rfl (tn (Qhh (Q4e g1_0 recs) (R := []) (by rw [List.append_nil]) 2 oz (fun H q => by rw [Qus, habs] at q; exact q) ?_))))
 refine nn (tR ?_)
 exact Qh .ret (.inl rfl) rfl () oz trivial (by exact pn)
abbrev Q4v (g : Nat) : Value := .func (.func 96) #[] #[pt g 0]
theorem zLI : Xv Tryz.prog 50 (ksl kI) [] := ⟨Qn, by kernel_rfl, fun H => Ue⟩
theorem zPt : Xv Tryz.prog 172 (kpt kIx) none := ⟨.pointer none, by kernel_rfl, fun H => rfl⟩
theorem zr : Xv Tryz.prog 36 Q2 Qn := ⟨Qn, by kernel_rfl, fun H => ⟨rfl, rfl⟩⟩

/-- slices.Clone[rhizome/api.Tuple,int] -/
theorem Qfl (xs : Tp) (hm : xs.length ≤ 1000000) : Ct Tryz.prog 66 [SlT kI xs] ([]) Value (fun v => IsV v) (fun v => [Qg 3 kI v xs]) (fun _ => True) := by
 refine Qm Tryz.func66 rfl rfl ?_
 intro H w
 refine sq (rg (ak rfl (tn (nn (sq (sq (rg (mv rfl rfl (oA (Wr oz Tryz.underlying51) pR rfl rfl (fun b1 hb1 => ?_))))))))))
 refine tn (nn (tc oz (fun c4 => ?_) (fun c4 => ?_)))
 · try simp only [cq] at c4
   obtain rfl := hb1 c4
   refine Xf 3 kI (sq (rg (ak rfl (tn (nn (tR (tt ?_)))))))
   exact Qh .ret (.inl rfl) rfl Qn oz trivial (by repeat first | exact pn | refine pc 0 rfl ?_)
 · try simp only [cq] at c4
   refine sk (nn (sq (rg (oA (Js (d := kI) (v0 := 0) ye1 ynm zI (show 0 * 1 ≤ 16777216 from by decide) (by decide) Qd) pR rfl rfl (fun v3_0 _ => ?_)))))
   refine mv rfl rfl (oA (Q0 oz (pA 0 rfl) oz ye1 (by (simp; omega)) (by (simp [maxLen]; omega))) (pA 0 rfl) rfl rfl (fun v3_2 _ => ?_))
   refine av rfl rfl (tn (nn (tR ?_)))
   exact Qh .ret (.inl rfl) rfl _ oz trivial (by repeat first | exact pn | refine pc 0 rfl ?_)
/-- rhizome/join.Rows$1 -/
theorem Qew (t : Tp) (g : Nat) (v : Value) (nx : List Tp) (hm : nx.length ≤ 1000000) : Ct Tryz.prog 96 [SlT kI t, IsV (pt g 0)] ([Qb g 36 Q2 v, Qg 51 kT v (nx)]) Value (fun r => Xd (decide (((nx ++ [t]).length : Int) ≤ 3000))) (fun r => [Qb g 36 Q2 r, Qg 51 kT r (nx ++ [t])]) (fun _ => True) := by
 refine Qm Tryz.func96 rfl rfl ?_
 intro H w
 refine sq (rg (ak rfl (tn (nn (sq (rg (oP (Za oz (mA 0 rfl) y1z) rfl (mv rfl rfl (oA (Q9 (d := kT) (v0 := []) yiy yko zT (show 1 * 1 ≤ 16777216 from by decide) (by decide) (Qx rfl rfl (by decide) oz Qd)) pR rfl rfl (fun _ _ => ?_))))))))))
 refine oA (Q0 oz (pA 1 rfl) oz yiy (by (simp; omega)) (by (simp [maxLen]; omega))) (pA 1 rfl) rfl rfl (fun v1_3 _ => ?_)
 refine Vq (Zv 0 rfl) Ve fun hone => (oA (Qba oz oz (by assumption) (pA 1 rfl) y1z) (pA 1 rfl) rfl rfl (fun _ _ => ?_))
 refine tn (nn (sq (rg (oP (Za oz (mA 0 rfl) y1z) rfl (oP (Xt oz (mA 1 rfl) Tryz.underlying36) rfl (oP (V4 oz ot) rfl (av rfl rfl (tn (nn (tR ?_))))))))))
 exact Qh .ret (.inl rfl) rfl v1_3 oz trivial (by repeat first | exact pn | refine pc 0 rfl ?_)
/-- rhizome/join.extend -/
theorem Qs3 (o : Option Ix) (r : Tp) (f t : Nat) (g : Nat) (v : Value) (nx : List Tp) (hf : f ≤ r.length) (ht : t ≤ r.length + 1) (hft : f < r.length → t ≤ r.length) (hn : nx.length ≤ 3000) (hr : r.length ≤ 1000) (hx : ∀ x, o = some x → x.2.1.length ≤ 1000000 ∧ ∀ n, ((lkp n x.1).getD []).length ≤ 1000000) : Ct Tryz.prog 97 [Qli kIx o, SlT kI r, I64 (f : Int), I64 (t : Int), IsV (Q4v g)] ([Qb g 36 Q2 v, Qg 51 kT v (nx)]) (Value × List Tp) (fun p => Xd (Wn nx o r f t)) (fun p => [Qb g 36 Q2 p.1, Qg 51 kT p.1 (p.2)]) (fun p => nx.length + (ext o r f t).length ≤ 3000 → p.2 = nx ++ ext o r f t) := by
 refine Qm Tryz.func97 rfl rfl ?_
 intro H w
 refine sq (rg (ak rfl (tn (nn (sq (sq (rg (mv rfl rfl (oP (Qc4 oz Tryz.underlying172) rfl (tn (nn (tc oz (fun c18 => ?_) (fun c18 => ?_)))))))))))))
 · obtain rfl : o = none := by cases o with
    | none => rfl
    | some x => cases c18
   refine sq (rg (ak rfl (tn (nn (tR (tt ?_))))))
   exact Qh .ret (.inl rfl) rfl (v, nx) (OT.val oz (congrArg Value.bool ((decide_eq_true (by show nx.length + 0 ≤ 3000; omega)).symm))) (fun _ => (List.append_nil nx).symm) (by repeat first | exact pn | refine pc 0 rfl ?_)
 obtain ⟨x, rfl⟩ : ∃ x, o = some x := by cases o with
  | none => cases c18
  | some x => exact ⟨x, rfl⟩
 obtain ⟨hx1, hx2⟩ := hx x rfl
 refine Z6 0 (T := AtT kIx x) oz (sk (nn (sq (sq (rg (mv rfl rfl (oP (pls oz Tryz.underlying51) rfl (av rfl rfl (tn (nn (tb (sq (rg (mv rfl rfl (mv rfl rfl (oP (Q6 oz oz) rfl (mv rfl rfl (oG rfl rfl rfl (gm oz) (fun hg => by (have hg1 := hg.2; (try simp only [cq2] at hg1); exact Qp oz)) rfl ?_))))))))))))))))))
 refine oG rfl rfl rfl (gm oz) (fun hg => by (have hg1 := hg.2; (try simp only [cq2] at hg1); exact Qp oz)) rfl ?_
 refine oG rfl rfl rfl (gm oz) (fun hg => by (have hg1 := hg.2; (try simp only [cq2] at hg1); exact Q6 (gu oz hg) (gu oz hg))) rfl ?_
 refine oP (Q3 oz oz) rfl (av rfl rfl (tn (nn (tc oz (fun c57 => ?_) (fun c57 => ?_)))))
 · obtain ⟨hA1, hA2⟩ : f < r.length ∧ t < r.length := by simp only [Bool.and_eq_true, decide_eq_true_eq] at c57; omega
   refine sq ?_
   apply Xs (m := 18) (ns := [[(0, none)], [(66, some 0)], [(67, some 1)], [(68, some 2)], [(1, none)], [(2, none)], [(70, some 4), (71, some 5)], [(72, some 6)], [(1, none)], [(3, none)], [(74, some 8), (75, some 9)], [(76, some 10)], [(73, some 7), (77, some 11)], [(69, some 3), (78, some 12)], [(79, some 13)], [(80, some 14)], [(4, none), (81, some 15)], [(1, none), (81, some 15)]]) (by kernel_rfl) (by kernel_rfl) (Ts := [_, _, _, _, _, _, _, _, _, _, _, _, _, _, _, _, _, _]) rfl
   case hops =>
    exact ⟨rmv rfl, rP (Qo oz), rP (Qs oz ly2 ywt), rP (pL oz y7m), rmv rfl, rmv rfl, rP (Qk oz oz Tryz.underlying51 ynm (by omega) (by omega)), rP (pL oz ynm), rmv rfl, rmv rfl, rP (Qk oz oz Tryz.underlying51 ynm (by omega) (by omega)), rP (pL oz ynm), rP (Xq (d := kPP) (v0 := (0, 0)) (agg := false) Tryz.underlying108 ynm zP rfl (Qi rfl Qe.p0 oz (Qi rfl Qe.p1 oz Qd))), rP (Vx mkP Tryz.underlying202 zI oz oz), rP (Zu oz ot), rmv rfl, rJ rfl fun hg hg1 => rmv rfl, rJ rfl fun hg hg1 => rmv rfl, trivial⟩
   case h =>
    refine Qlq rfl rfl rfl rfl oz (fun hsp => ?_) (fun hsp => ?_)
    · refine oA (Z2 (gu (oT rfl) ⟨trivial, hsp⟩) (CtV.of [pt g 0] (Qew (r) g (v) (nx) (by omega)) (by kernel_rfl)) (oc (gu (oT rfl) ⟨trivial, hsp⟩) oN) (Yf 0 0 rfl rfl)) (Yf 0 0 rfl rfl) rfl rfl (fun v15_18 _ => ?_)
      refine oP (Yq oz (by exact OT.gu_in oz ⟨trivial, by assumption⟩)) rfl ?_
      refine av rfl rfl (tn (nn (tR (Qw (tt ?_)))))
      exact Qh .ret (.inl rfl) rfl (v15_18, nx ++ [r]) (OT.val oz (congrArg Value.bool (Q4f hA1 hA2 hsp rfl))) (fun _ => by show nx ++ [r] = nx ++ ext (some x) r f t; rw [Qp2 hA1 hA2]; exact congrArg (nx ++ ·) (if_neg (of_decide_eq_false hsp)).symm) (by repeat first | exact pn | refine pc 0 rfl ?_)
    refine oP (Yq oz (by exact OT.gu_out (T := Xd true) oz (by simp_all))) rfl ?_
    refine av rfl rfl (tn (nn (tR (Qw (tt ?_)))))
    exact Qh .ret (.inl rfl) rfl (v, nx) (OT.val oz (congrArg Value.bool (Q5c hA1 hA2 hn hsp))) (fun _ => by show nx = nx ++ ext (some x) r f t; rw [Qp2 hA1 hA2]; exact (List.append_nil nx).symm.trans (congrArg (nx ++ ·) (if_pos (of_decide_eq_true hsp)).symm)) (by repeat first | exact pn | refine pc 0 rfl ?_)
 have hnA : ¬ (f < r.length ∧ t < r.length) := by rintro ⟨h1, h2⟩; simp only [Bool.and_eq_false_iff, decide_eq_false_iff_not] at c57; omega
 refine sq (rg (mv rfl rfl (mv rfl rfl (oP (Q6 oz oz) rfl (av rfl rfl (tn (nn (tc oz (fun c86 => ?_) (fun c86 => ?_)))))))))
 · have hB1 : f < r.length := by simpa using c86
   have hB2 : ¬ t < r.length := fun e => hnA ⟨hB1, e⟩
   obtain ⟨bl, he1⟩ : ∃ bl, (lkp (at' r (f : Int)) x.1).getD [] = bl := ⟨_, rfl⟩
   have he : (lkp (r.getD f 0) x.1).getD [] = bl := he1
   have hbl : bl.length ≤ 1000000 := he ▸ hx2 (r.getD f 0)
   refine sq ?_
   apply Xs (m := 11) (ns := [[(0, none)], [(90, some 0)], [(91, some 1)], [(92, some 2)], [(1, none)], [(2, none)], [(94, some 4), (95, some 5)], [(96, some 6)], [(93, some 3), (97, some 7)], [(98, some 8)], []]) (by kernel_rfl) (by kernel_rfl) (Ts := [_, _, _, _, _, _, _, _, _, _, _]) rfl
   case hops =>
    exact ⟨rmv rfl, rP (Qo oz), rP (Qs oz ly0 yfy), rP (pL oz y30), rmv rfl, rmv rfl, rP (Qk oz oz Tryz.underlying51 ynm (by omega) (by omega)), rP (pL oz ynm), rP (Vx mkI Tryz.underlying120 zLI oz oz), rP (pls oz Tryz.underlying50), rP (Qp ot), trivial⟩
   case h =>
    refine tn ?_
    rw [he1]
    refine nn (tb (Qr (σ := Nat × Value) (e4 1 4 98 99 rfl en) (fun s => [(100, I64 (s.1 : Int))]) (fun s => [Qb g 36 Q2 s.2, Qg 51 kT s.2 (nx ++ (bl.take s.1).map (fun b => r ++ [b]))]) (fun s => s.1 ≤ bl.length ∧ nx.length + s.1 ≤ 3000) (fun s => bl.length - s.1) (0, v) ⟨Nat.zero_le _, hn⟩ ?_ (op (by rw [List.take_zero, List.map_nil, List.append_nil]; exact pl)) ?_))
    · exact (ec 100 rfl en)
    rintro ⟨i, vi⟩ ⟨hi, hin⟩
    dsimp only at hi hin ⊢
    refine sq ?_
    have hil : (nx ++ ((bl.take i).map (fun b => r ++ [b]))).length = nx.length + i := by rw [List.length_append, List.length_map, List.length_take]; omega
    refine rg (oP (Q6 oz oz) rfl (tn (nn (sq (tc oz (fun c101 => ?_) (fun c101 => ?_))))))
    · refine sk (nn (sq (tb (sq ?_))))
      have hst := U9 (fun b => r ++ [b]) (l := bl) (k := i) (by simpa using c101)
      refine rg (oP (Qk oz oz Tryz.underlying50 ynm (by omega) (by (simp [maxLen] at *; omega))) rfl ?_)
      refine oP (pL (oT rfl) ynm) rfl (av rfl rfl (tn (nn (sq (rg (mv rfl rfl (mv rfl rfl (oA (aC (Qfl _ (by omega)) yz4 (oc (oT rfl) oN) pR) pR rfl rfl (fun v20_2 _ => ?_)))))))))
      refine mv rfl rfl (oA (Q9 (d := kI) (v0 := 0) ye1 ynm zI (show 1 * 1 ≤ 16777216 from by decide) (by decide) (Qx rfl rfl (by decide) oz Qd)) pR rfl rfl (fun _ _ => ?_))
      refine oA (Q0 oz (pA 0 rfl) oz ye1 (by (simp; omega)) (by (simp [maxLen]; omega))) (pA 0 rfl) rfl rfl (fun v20_5 _ => ?_)
      refine Xh (Qq 0 rfl) 109 (oT rfl) (oA (Z2 (oT rfl) (CtV.of [pt g 0] (Qew (r ++ [at' bl (i : Int)]) g (vi) (nx ++ (bl.take i).map (fun b => r ++ [b])) (by omega)) (by kernel_rfl)) (oc (oT rfl) oN) (Yf 0 0 rfl rfl)) (Yf 0 0 rfl rfl) rfl rfl (fun v20_6 _ => ?_))
      refine oP (Zn oz) rfl (tn (nn (tc oz (fun c111 => ?_) (fun c111 => ?_))))
      · refine sq (rg (ak rfl (tn (nn (tR (Qw (tt (tt (Qw (Qw (tt ?_)))))))))))
        have hbf := Qy7 (nx := nx) (t := t) he hB1 hB2 (i := i) (by simpa using c101) (s := nx ++ (bl.take i).map (fun b => r ++ [b]) ++ [r ++ [at' bl (i : Int)]]) (by rw [List.length_append, hil]; rfl) (by have h9 := c111; simp only [Bool.not_eq_true', decide_eq_false_iff_not] at h9; exact h9)
        exact Qh .ret (.inl rfl) rfl (v20_6, _) (OT.val oz (congrArg Value.bool (hbf))) (fun hq => absurd hbf (by unfold Wn; rw [decide_eq_true hq]; simp)) (by repeat first | exact pn | refine pc 0 rfl ?_)
      refine sk (bn (nn (rg (oP (pad oz ot (by omega)) rfl (mv rfl rfl (tn (nn ?_)))))))
      exact tg (i + 1, v20_6) ⟨by show i + 1 ≤ _; simp only [decide_eq_true_eq] at c101; omega, by show nx.length + (i + 1) ≤ 3000; have h9 := c111; simp only [Bool.not_eq_false', decide_eq_true_eq, List.length_append, List.length_singleton] at h9; rw [List.length_append] at hil; omega⟩ (by simp only [decide_eq_true_eq] at c101; show bl.length - (i + 1) < bl.length - i; omega) ef (op (by rw [hst, ← List.append_assoc]; exact (by repeat first | exact pn | refine pc 0 rfl ?_)))
    refine Qy (tx (tx (bh (bn (nn (sq (rg (ak rfl (tn (nn (tR ?_)))))))))))
    obtain rfl : i = bl.length := by simp only [decide_eq_false_iff_not] at c101; omega
    exact Qh .ret (.inl rfl) rfl (vi, nx ++ (bl.take bl.length).map (fun b => r ++ [b])) (OT.val oz (congrArg Value.bool (Q2k he hB1 hB2 (by omega)))) (fun _ => by show nx ++ _ = nx ++ ext (some x) r f t; rw [Qut hB1 hB2, he, List.take_length]) (by repeat first | exact pn | refine pc 0 rfl ?_)
 have hC1 : ¬ f < r.length := by simpa using c86
 refine sq (rg (mv rfl rfl (oP (Qo oz) rfl (oP (Qs oz ly1 yrl) rfl (oP (pL oz yl0) rfl (oP (pls oz Tryz.underlying160) rfl (oP (Qp ot) rfl (tn (nn (tb (Qr (σ := Nat × Value) (e4 1 3 4 11 rfl (e2 24 25 rfl en)) (fun s => [(26, I64 (s.1 : Int))]) (fun s => [Qb g 36 Q2 s.2, Qg 51 kT s.2 (nx ++ (x.2.1.take s.1).filterMap (Wa r t))]) (fun s => s.1 ≤ x.2.1.length ∧ (nx ++ (x.2.1.take s.1).filterMap (Wa r t)).length ≤ 3000) (fun s => x.2.1.length - s.1) (0, v) ⟨Nat.zero_le _, by simpa using hn⟩ ?_ (op (by rw [List.take_zero, List.filterMap_nil, List.append_nil]; exact pl)) ?_)))))))))))
 · exact (ec 26 rfl en)
 rintro ⟨i, vi⟩ ⟨hi, hin⟩
 dsimp only at hi hin ⊢
 refine sq (rg (oP (Q6 oz oz) rfl (tn (nn (sq (tc oz (fun c27 => ?_) (fun c27 => ?_)))))))
 · refine sk (nn (sq (tb (sq ?_))))
   obtain ⟨p, hp⟩ : ∃ p, at' x.2.1 (i : Int) = p := ⟨_, rfl⟩
   have hil : i < x.2.1.length := by simpa using c27
   have hst := Qrv (Wa r t) (l := x.2.1) (k := i) hil
   rw [hp] at hst
   refine rg (oP (Qk oz oz Tryz.underlying160 yd7 (by omega) (by omega)) rfl (oP (pL oz yd7) rfl (oA (Q1 (zP)) pR rfl rfl (fun g6_2 _ => ?_))))
   refine oA (asv oz oz (pA 0 rfl) yd7) (pA 0 rfl) rfl rfl (fun _ _ => ?_)
   refine tn (nn (sq ?_))
   rw [hp]
   apply Ye (ρ := Value) (φ := fun rr => True) (p := 1) (Lf := fun c rr => cond c (Qg 3 kI rr r :: Qb g6_2 108 kPP p :: Qb g 36 Q2 vi :: Qg 51 kT vi (nx ++ (x.2.1.take i).filterMap (Wa r t)) :: []) (Qb g6_2 108 kPP p :: Qb g 36 Q2 vi :: Qg 51 kT vi (nx ++ (x.2.1.take i).filterMap (Wa r t)) :: [])) Qn (by kernel_rfl) (m := 5) (ns := [[(1, none)], [(30, some 0)], [(15, none)], [(32, some 2)], [(33, some 3)]]) (by kernel_rfl) (by kernel_rfl) (Ts := fun rr => [_, IsV rr, _, kI.T p.1, SlT kI [p.1]]) (fun _ => rfl)
   case hops =>
    refine ⟨?_, ?_, ?_, ?_, ?_, trivial⟩
    · exact ⟨cBf (by kernel_rfl) fun r _ => rgo r rfl ⟨rfl, trivial⟩ (rmv rfl), fun _ _ _ _ => rfl⟩
    · refine ⟨?_, ?_⟩
      · exact cBf (by kernel_rfl) fun r _ => Zf rfl (aC (Qfl _ (by omega)) yz4 (oc oz oN) pR) pR (fun r => pR) (fun _ _ _ => trivial) (fun _ _ _ _ h => h)
      exact fun _ h => absurd h (by decide)
    · exact ⟨cB (fun r hc => rgo r rfl ⟨rfl, trivial⟩ (rP (Zh oz (mA 0 rfl) Tryz.underlying108 ynm))) fun r hc => rgo r rfl ⟨rfl, trivial⟩ (rP (Zh oz (mA 1 rfl) Tryz.underlying108 ynm)), fun _ _ _ _ => rfl⟩
    · exact ⟨cB (fun r hc => rgo r rfl ⟨rfl, trivial⟩ (rP (Z3 (d := kI) (v := p) oz (mA 0 rfl) ynm))) fun r hc => rgo r rfl ⟨rfl, trivial⟩ (rP (Z3 (d := kI) (v := p) oz (mA 1 rfl) ynm)), fun _ _ _ _ => rfl⟩
    exact ⟨by intro c r hc; cases c <;> exact rgo r rfl ⟨rfl, trivial⟩ (X8 rfl (Q9 (d := kI) (v0 := 0) ye1 ynm zI (show 1 * 1 ≤ 16777216 from by decide) (by decide) (Qx rfl rfl (by decide) oz Qd)) (fun _ _ _ _ h => h)), fun _ _ _ _ => rfl⟩
   case h =>
    intro v7_1 _
    refine oA (Q0 oz (pA 0 rfl) oz ye1 (by (simp; omega)) (by (simp [maxLen]; omega))) (pA 0 rfl) rfl rfl (fun v7_5 _ => ?_)
    refine av rfl rfl (tn (nn (sq (sq (rg (mv rfl rfl (mv rfl rfl (oP (pad oz ot (by omega)) rfl (oP (Zu oz oz) rfl (tn (nn (tc oz (fun c39 => ?_) (fun c39 => ?_)))))))))))))
    · have ht1 : t = r.length + 1 := by simp only [decide_eq_true_eq] at c39; omega
      have hrow : Wa r t p = some (r ++ [p.1] ++ [p.2]) := by unfold Wa; rw [if_pos ht1]
      refine rg (mv rfl rfl (oP (Zi oz (mA 1 rfl) Tryz.underlying108 ynm) rfl (oP (Z4 (d := kI) (v := p) oz (mA 1 rfl) ynm) rfl (oA (Q9 (d := kI) (v0 := 0) ye1 ynm zI (show 1 * 1 ≤ 16777216 from by decide) (by decide) (Qx rfl rfl (by decide) oz Qd)) pR rfl rfl (fun _ _ => ?_)))))
      refine oA (Q0 oz (pA 0 rfl) oz ye1 (by (simp; omega)) (by (simp [maxLen]; omega))) (pA 0 rfl) rfl rfl (fun v9_4 _ => ?_)
      refine av rfl rfl (tn (nn (sq (rg (mv rfl rfl (mv rfl rfl (Xh (Qq 0 rfl) 53 oz (oA (Z2 oz (CtV.of [pt g 0] (Qew (_) g (vi) (nx ++ (x.2.1.take i).filterMap (Wa r t)) (by omega)) (by kernel_rfl)) (oc oz oN) (Yf 1 1 rfl rfl)) (Yf 1 1 rfl rfl) rfl rfl (fun v11_2 _ => ?_)))))))))
      refine oP (Zn oz) rfl (tn (nn (tc oz (fun c55 => ?_) (fun c55 => ?_))))
      · refine sq (rg (ak rfl (tn (nn (tR (Qw (tt (tt (Qw (Qw (tt ?_)))))))))))
        have hbf := Qp3 (nx := nx) (t := t) hC1 (i := i) (s := nx ++ (x.2.1.take i).filterMap (Wa r t) ++ [_]) (by rw [hst, hrow, Option.toList_some, List.append_assoc]) (by have h9 := c55; simp only [Bool.not_eq_true', decide_eq_false_iff_not] at h9; exact h9)
        exact Qh .ret (.inl rfl) rfl (v11_2, _) (OT.val oz (congrArg Value.bool (hbf))) (fun hq => absurd hbf (by unfold Wn; rw [decide_eq_true hq]; simp)) (by repeat first | exact pn | refine pc 0 rfl ?_)
      refine sk (bn (nn (rg (oP (pad oz ot (by omega)) rfl (mv rfl rfl (tn (nn ?_)))))))
      exact tg (i + 1, v11_2) ⟨(by show i + 1 ≤ _; omega), (by show (nx ++ (x.2.1.take (i + 1)).filterMap (Wa r t)).length ≤ 3000; have h9 := c55; simp only [Bool.not_eq_false', decide_eq_true_eq] at h9; rw [hst, hrow, Option.toList_some, ← List.append_assoc]; simp only [List.length_append, List.length_singleton] at h9 ⊢; omega)⟩ (by show x.2.1.length - (i + 1) < x.2.1.length - i; omega) ef (op (by rw [hst, hrow, Option.toList_some, ← List.append_assoc]; exact (by repeat first | exact pn | refine pc 0 rfl ?_)))
    have ht1 : ¬ t = r.length + 1 := by simp only [decide_eq_false_iff_not] at c39; omega
    refine sq ?_
    apply Xs (m := 6) (ns := [[(16, none)], [(3, none)], [(45, some 0), (46, some 1)], [(47, some 2)], [(15, none)], [(49, some 4)]]) (by kernel_rfl) (by kernel_rfl) (Ts := [_, _, _, _, _, _]) rfl
    case hops =>
     exact ⟨rmv rfl, rmv rfl, rP (pio oz (mA 0 rfl) oz Tryz.underlying51 ynm (by omega) (by (simp; omega))), rP (plo oz (mA 0 rfl) (by omega) (by (simp; omega)) ynm), rP (Zi oz (mA 1 rfl) Tryz.underlying108 ynm), rP (Z4 (d := kI) (v := p) oz (mA 1 rfl) ynm), trivial⟩
    case h =>
     refine oP (Ja oz oz) rfl (tn (nn (tc oz (fun c51 => ?_) (fun c51 => ?_))))
     · have hrow : Wa r t p = none := by unfold Wa; rw [if_neg ht1]; exact if_neg (of_decide_eq_true c51)
       refine Qy (tx (bh (nn (rg (oP (pad oz ot (by omega)) rfl (mv rfl rfl (tn (nn ?_))))))))
       exact tg (i + 1, vi) ⟨(by show i + 1 ≤ _; omega), (by show (nx ++ (x.2.1.take (i + 1)).filterMap (Wa r t)).length ≤ 3000; rw [hst, hrow, Option.toList_none, List.append_nil]; exact hin)⟩ (by show x.2.1.length - (i + 1) < x.2.1.length - i; omega) ef (op (by rw [hst, hrow, Option.toList_none, List.append_nil]; exact (by repeat first | exact pn | refine pc 2 rfl ?_)))
     have hrow : Wa r t p = some (r ++ [p.1]) := by unfold Wa; rw [if_neg ht1]; exact if_pos (Classical.not_not.1 (of_decide_eq_false c51))
     refine sk (nn (sq (rg (mv rfl rfl (mv rfl rfl (Xh (Qq 0 rfl) 53 oz (oA (Z2 oz (CtV.of [pt g 0] (Qew (_) g (vi) (nx ++ (x.2.1.take i).filterMap (Wa r t)) (by omega)) (by kernel_rfl)) (oc oz oN) (Yf 1 1 rfl rfl)) (Yf 1 1 rfl rfl) rfl rfl (fun v11_2 _ => ?_))))))))
     refine oP (Zn oz) rfl (tn (nn (tc oz (fun c55 => ?_) (fun c55 => ?_))))
     · refine sq (rg (ak rfl (tn (nn (tR (Qw (tt (tt (Qw (Qw (tt ?_)))))))))))
       have hbf := Qp3 (nx := nx) (t := t) hC1 (i := i) (s := nx ++ (x.2.1.take i).filterMap (Wa r t) ++ [_]) (by rw [hst, hrow, Option.toList_some, List.append_assoc]) (by have h9 := c55; simp only [Bool.not_eq_true', decide_eq_false_iff_not] at h9; exact h9)
       exact Qh .ret (.inl rfl) rfl (v11_2, _) (OT.val oz (congrArg Value.bool (hbf))) (fun hq => absurd hbf (by unfold Wn; rw [decide_eq_true hq]; simp)) (by repeat first | exact pn | refine pc 0 rfl ?_)
     refine sk (bn (nn (rg (oP (pad oz ot (by omega)) rfl (mv rfl rfl (tn (nn ?_)))))))
     exact tg (i + 1, v11_2) ⟨(by show i + 1 ≤ _; omega), (by show (nx ++ (x.2.1.take (i + 1)).filterMap (Wa r t)).length ≤ 3000; have h9 := c55; simp only [Bool.not_eq_false', decide_eq_true_eq] at h9; rw [hst, hrow, Option.toList_some, ← List.append_assoc]; simp only [List.length_append, List.length_singleton] at h9 ⊢; omega)⟩ (by show x.2.1.length - (i + 1) < x.2.1.length - i; omega) ef (op (by rw [hst, hrow, Option.toList_some, ← List.append_assoc]; exact (by repeat first | exact pn | refine pc 0 rfl ?_)))
 refine Qy (tx (tx (bh (bn (nn (sq (rg (ak rfl (tn (nn (tR ?_)))))))))))
 obtain rfl : i = x.2.1.length := by simp only [decide_eq_false_iff_not] at c27; omega
 exact Qh .ret (.inl rfl) rfl (vi, nx ++ (x.2.1.take x.2.1.length).filterMap (Wa r t)) (OT.val oz (congrArg Value.bool (Q2l hC1 (by rw [List.take_length] at hin; exact hin)))) (fun _ => by show nx ++ _ = nx ++ ext (some x) r f t; rw [Quu hC1, List.take_length]) (by repeat first | exact pn | refine pc 0 rfl ?_)
end Go.Proofs.YtklhdalppmjnaaaGreatDoor
namespace Go.Jn
open Go Go.Gw Go.Tu Go.Proofs.YtklhdalppmjnaaaGreatDoor
theorem Quv (lab : Lab) (m : List (Lab × Ix)) : (lkp lab (Qur m)).getD none = lkp lab m := by
 unfold Qur
 rw [W4 (fun x : Ix => some x)]
 cases lkp lab m <;> rfl
theorem Qi7 {α β : Type} [Inhabited α] {l : List α} (f : α → List β) {k : Nat} (h : k < l.length) : (l.take (k + 1)).flatMap f = (l.take k).flatMap f ++ f (at' l (k : Int)) := by
 rw [Qz h, List.take_succ_eq_append_getElem h, List.flatMap_append]; simp
theorem Qkg {α β : Type} (f : α → List β) (l : List α) (k : Nat) : ((l.take k).flatMap f).length ≤ (l.flatMap f).length := by
 have h := List.take_append_drop k l
 have h2 : (l.flatMap f).length = ((l.take k).flatMap f).length + ((l.drop k).flatMap f).length := by
  conv => lhs; rw [← h]
  rw [List.flatMap_append, List.length_append]
 omega
theorem Qi8 {m : List (Lab × Ix)} {V : List Lab} {al : List Atm} {k : Nat} (h : k < al.length) : Zp m V (al.take (k + 1)) = Qlt m V (Zp m V (al.take k)) (at' al (k : Int)) := by
 rw [Qz h, List.take_succ_eq_append_getElem h, Qhm]
theorem Qhq (l : List Ed) {al : List Atm} {k : Nat} {r : Tp} (h : r ∈ Zp (Zb l) (Qa al) (al.take k)) : r.length = (Qa (al.take k)).length := (((Qfb l (al.take k) (K2 al k)).2 r).1 h).1
theorem Qrw {al : List Atm} {k : Nat} {a : Atm} (h : k < al.length) (ha : at' al (k : Int) = a) : Qct (Qa (al.take k)).length (Qa (al.take (k + 1))).length (ix (Qa al) a.1) (ix (Qa al) a.2.2) := by
 have h1 := Qlv h
 rw [ha] at h1
 exact Qt9 (Qbr _) h1 (K2 al (k + 1))
theorem Qrx {al : List Atm} {k : Nat} {a : Atm} (h : k < al.length) (ha : at' al (k : Int) = a) : ixI (Qa al) a.1 = (ix (Qa al) a.1 : Int) ∧ ixI (Qa al) a.2.2 = (ix (Qa al) a.2.2 : Int) := by
 rw [Qz h] at ha
 have hm : a ∈ al := ha ▸ List.getElem_mem h
 exact ⟨Qc8 (Y3.2 ⟨a, hm, .inl rfl⟩), Qc8 (Y3.2 ⟨a, hm, .inr rfl⟩)⟩
theorem Qry (l : List Ed) (hl : l.length ≤ 1000000) (lab : Lab) : ∀ x, lkp lab (Zb l) = some x → x.2.1.length ≤ 1000000 ∧ ∀ n, ((lkp n x.1).getD []).length ≤ 1000000 := by
 intro x hx
 obtain ⟨h, _⟩ := Qhl l lab
 rw [hx] at h
 simp only [Option.getD_some] at h
 have h1 := Qpv l lab
 have h2 := h.al
 refine ⟨by omega, fun n => ?_⟩
 have h3 := h.fl n
 omega
theorem at_mem {α : Type} [Inhabited α] {l : List α} {k : Nat} (h : k < l.length) : at' l (k : Int) ∈ l := by rw [Qz h]; exact List.getElem_mem h
theorem Qkh {v : Vw} (h : (!okV v) = false) : okV v = true ∧ v.2.2.1.length ≤ 6 ∧ 1 ≤ v.2.2.2.1.length ∧ v.2.2.2.1.length ≤ 8 := by
 have h1 : okV v = true := by simpa using h
 refine ⟨h1, ?_⟩
 unfold okV Qrm at h1
 simp only [Bool.and_eq_true, decide_eq_true_eq] at h1
 omega
theorem Qki (l : List Ed) {al : List Atm} (h8 : al.length ≤ 8) (k : Nat) : ∀ r ∈ Zp (Zb l) (Qa al) (al.take k), r.length ≤ 16 := by
 intro r hr
 have h1 := Qhq l hr
 have h2 := K8 (al.take k)
 rw [List.length_take] at h2
 omega
theorem Q4g {m : List (Lab × Ix)} {V : List Lab} {al : List Atm} : ∀ j, j ≤ 0 → (Zp m V (al.take j)).length ≤ 3000 := fun j hj => by
 obtain rfl : j = 0 := by omega
 show 1 ≤ 3000; omega
theorem Qrz {m : List (Lab × Ix)} {V : List Lab} {al : List Atm} {k : Nat} (h : ∀ j, j ≤ k → (Zp m V (al.take j)).length ≤ 3000) (h1 : (Zp m V (al.take (k + 1))).length ≤ 3000) : ∀ j, j ≤ k + 1 → (Zp m V (al.take j)).length ≤ 3000 := fun j hj => by
 rcases Nat.lt_or_ge j (k + 1) with h2 | h2
 · exact h j (by omega)
 obtain rfl : j = k + 1 := by omega
 exact h1
theorem Qy9 {l : List Ed} {al : List Atm} {k i : Nat} {a : Atm} {rows : List Tp} {r : Tp} (hk : k < al.length) (ha : at' al (k : Int) = a) (hr : Zp (Zb l) (Qa al) (al.take k) = rows) (hi : i < rows.length) (hrr : at' rows (i : Int) = r)
 (h : ¬ ((rows.take i).flatMap (fun r => ext (lkp a.2.1 (Zb l)) r (ix (Qa al) a.1) (ix (Qa al) a.2.2))).length + (ext (lkp a.2.1 (Zb l)) r (ix (Qa al) a.1) (ix (Qa al) a.2.2)).length ≤ 3000) : Kv l al := by
 refine ⟨k + 1, hk, ?_⟩
 rw [Qi8 hk, ha, hr]
 unfold Qlt
 have h1 := Qkg (fun r => ext (lkp a.2.1 (Zb l)) r (ix (Qa al) a.1) (ix (Qa al) a.2.2)) rows (i + 1)
 have h2 := Qi7 (fun r => ext (lkp a.2.1 (Zb l)) r (ix (Qa al) a.1) (ix (Qa al) a.2.2)) hi
 rw [hrr] at h2
 rw [h2, List.length_append] at h1
 omega
theorem Quw {l : List Ed} {al : List Atm} (h : ∀ j, j ≤ al.length → (Zp (Zb l) (Qa al) (al.take j)).length ≤ 3000) : ¬ Kv l al := by
 rintro ⟨k, hk, h1⟩
 have := h k hk
 omega
end Go.Jn
namespace Go.Proofs.YtklhdalppmjnaaaGreatDoor
open Go Go.Gw Go.So Go.Tu Go.Jn

/-- rhizome/join.Rows -/
theorem Q0y (v : Vw) (l : List Ed) (ho : v.2.2.1.length ≤ maxLen) (ha : v.2.2.2.1.length ≤ maxLen) (hm : l.length ≤ 1000000) : Ct Tryz.prog 61 [kV.T v, SlT kE l] ([]) (List Tp × Int) (fun r => J7 [SlT kT r.1, I64 r.2]) (fun _ => []) (fun r => Qkd v l r) := by
 refine Qm Tryz.func61 rfl rfl ?_
 intro H w
 have ho0 := ho; have ha0 := ha; unfold maxLen at ho ha
 refine sq (rg (oA (Xe (d := kV) oz) pR rfl rfl (fun g0_0 _ => ?_)))
 refine ak rfl (ak rfl (tn (nn (sq (sq (rg (oP (plv oz (mA 0 rfl) y4q) rfl (oA (aC (Q3h _ ho0 ha0) y5v (oc oz oN) pR) pR rfl rfl (fun _ _ => ?_)))))))))
 refine tn (nn (tc oz (fun c16 => ?_) (fun c16 => ?_)))
 · refine sq (rg (ak rfl (ak rfl (tn (nn (tR (tt ?_)))))))
   exact Yl .ret (.inl rfl) rfl ([], 1) (OT.conv oz (fun H u h => J6 h)) oz (fun _ _ h => h) (.inl ⟨by simpa using c16, rfl⟩) (by exact pn)
 obtain ⟨hok, hol, hal1, hal8⟩ := Qkh c16
 refine sk (nn (sq (rg (oP (plv (oT rfl) (mA 0 rfl) y4q) rfl (oA (aC (Qa4 _ (by omega)) yew (oc (oT rfl) oN) pR) pR rfl rfl (fun _ _ => ?_))))))
 refine mv rfl rfl (oA (aC (Qo5 _ (by omega)) ywh (oc oz oN) pR) pR rfl rfl (fun _ _ => ?_))
 refine av rfl rfl (av rfl rfl (tn (nn (sq (rg (oA (Q9 (d := kT) (v0 := []) yiy yko zT (show 1 * 1 ≤ 16777216 from by decide) (by decide) (Qx rfl rfl (by decide) (OT.conv ot (fun H u h => J6 h)) Qd)) pR rfl rfl (fun _ _ => ?_)))))))
 refine av rfl rfl (tn (Z6 8 (T := SlT kT (Zp (Zb l) (Qa v.2.2.2.1) (v.2.2.2.1.take 0))) (OT.eq oz rfl) (nn (sq (sq (rg (oP (pf oz y46) rfl (oP (plb oz (mA 0 rfl) lv3 y2r) rfl (oP (pls oz Tryz.underlying23) rfl (oP (Qp ot) rfl (tn (nn (tb (Qr (σ := Nat) (e4 6 7 23 24 rfl en) (fun k => [(25, I64 (k : Int)), (8, SlT kT (Zp (Zb l) (Qa v.2.2.2.1) (v.2.2.2.1.take k)))]) (fun k => [Qb g0_0 25 kV v]) (fun k => k ≤ v.2.2.2.1.length ∧ ∀ j, j ≤ k → (Zp (Zb l) (Qa v.2.2.2.1) (v.2.2.2.1.take j)).length ≤ 3000) (fun k => v.2.2.2.1.length - k) 0 ⟨Nat.zero_le _, Q4g⟩ ?_ (op (by repeat first | exact pn | refine pc 0 rfl ?_)) ?_))))))))))))))
 · exact (e2 25 8 rfl en)
 rintro k ⟨hk, hcaps⟩
 refine sq (rg (oP (Q6 oz oz) rfl (tn (nn (sq (tc oz (fun c26 => ?_) (fun c26 => ?_)))))))
 · refine sk (nn (sq (tb (sq ?_))))
   have hka : k < v.2.2.2.1.length := by simpa using c26
   obtain ⟨a, haa⟩ : ∃ a, at' v.2.2.2.1 (k : Int) = a := ⟨_, rfl⟩
   obtain ⟨rows, hrows⟩ : ∃ rows, Zp (Zb l) (Qa v.2.2.2.1) (v.2.2.2.1.take k) = rows := ⟨_, rfl⟩
   have hlies := Qrw hka haa
   obtain ⟨hix1, hix2⟩ := Qrx hka haa
   have hvl := K8 v.2.2.2.1
   have hcap := hcaps k (Nat.le_refl k)
   rw [hrows] at hcap ⊢
   refine rg (oP (Qk oz oz Tryz.underlying23 y03 (by omega) (by omega)) rfl (oP (pL oz y03) rfl (oA (Q1 (zA)) pR rfl rfl (fun g7_2 _ => ?_))))
   refine oA (asv oz oz (pA 0 rfl) y03) (pA 0 rfl) rfl rfl (fun _ _ => ?_)
   refine tn (nn (sq ?_))
   rw [haa]
   refine rg (oA (Q1 zr) pR rfl rfl (fun g8_0 _ => ?_))
   refine tn (Xf 51 kT (nn (sq (rg (oP (Vb (Ws oz Qbo)) rfl (av rfl rfl (tn (nn (sq (sq (rg (mv rfl rfl (oP (pls oz Tryz.underlying36) rfl (oP (Qp ot) rfl (tn (nn (tb (Qr (σ := Nat × Value) (e8 6 7 10 11 12 23 24 25 rfl (e2 30 31 rfl en)) (fun s => [(32, I64 (s.1 : Int))]) (fun s => [Qb g8_0 36 Q2 s.2, Qg 51 kT s.2 ((rows.take s.1).flatMap (fun r => ext (lkp a.2.1 (Zb l)) r (ix (Qa v.2.2.2.1) a.1) (ix (Qa v.2.2.2.1) a.2.2))), Qb g7_2 49 kA a, Qb g0_0 25 kV v]) (fun s => s.1 ≤ rows.length ∧ ((rows.take s.1).flatMap (fun r => ext (lkp a.2.1 (Zb l)) r (ix (Qa v.2.2.2.1) a.1) (ix (Qa v.2.2.2.1) a.2.2))).length ≤ 3000) (fun s => rows.length - s.1) (0, Qn) ⟨Nat.zero_le _, by simp⟩ ?_ (op (by repeat first | exact pn | refine pc 0 rfl ?_ | refine pc 1 rfl ?_)) ?_))))))))))))))))))
   · exact (ec 32 rfl en)
   rintro ⟨i, vi⟩ ⟨hi, hin⟩
   dsimp only at hi hin ⊢
   refine sq (rg (oP (Q6 oz oz) rfl (tn (nn (sq (tc oz (fun c33 => ?_) (fun c33 => ?_)))))))
   · refine sk (nn (sq (tb (sq ?_))))
     have hir : i < rows.length := by simpa using c33
     obtain ⟨r, hrr⟩ : ∃ r, at' rows (i : Int) = r := ⟨_, rfl⟩
     have hrl : r.length = _ := Qhq l (k := k) (al := v.2.2.2.1) (by rw [hrows, ← hrr]; exact at_mem hir)
     have hvlk := K8 (v.2.2.2.1.take k)
     rw [List.length_take] at hvlk
     have hst := Qi7 (fun r => ext (lkp a.2.1 (Zb l)) r (ix (Qa v.2.2.2.1) a.1) (ix (Qa v.2.2.2.1) a.2.2)) hir
     rw [hrr] at hst
     rw [← hrl] at hlies
     have hl1 := hlies.f1
     have hl2 := hlies.t1
     have hl3 := hlies.t2
     refine rg (oP (Qk oz oz Tryz.underlying36 yko (by omega) (by omega)) rfl (oP (pL oz yko) rfl (av rfl rfl (tn (nn (sq ?_))))))
     rw [hrr]
     apply Xs (m := 14) (ns := [[(7, none)], [(10, none)], [(37, some 1)], [(36, some 0), (38, some 2)], [(14, none)], [(6, none)], [(10, none)], [(42, some 6)], [(41, some 5), (43, some 7)], [(6, none)], [(10, none)], [(46, some 10)], [(45, some 9), (47, some 11)], [(12, none)]]) (by kernel_rfl) (by kernel_rfl) (Ts := [_, _, _, _, _, _, _, _, _, _, _, _, _, _]) rfl
     case hops =>
      exact ⟨rmv rfl, rP (pf (oT rfl) yl2), rP (plb (oT rfl) (mA 2 rfl) la1 ylw), rP (Vx mkS Tryz.underlying168 zPt (oT rfl) (oT rfl)), rmv rfl, rmv rfl, rP (pf (oT rfl) ytp), rP (plb (oT rfl) (mA 2 rfl) la0 ylw), X8 rfl (aC (W1 _ _ (by omega)) yd4 (oc (oT rfl) (oc (oT rfl) oN)) pR) (fun _ _ _ _ h => h), rmv rfl, rP (pf (oT rfl) ypg), rP (plb (oT rfl) (mA 2 rfl) la2 ylw), X8 rfl (aC (W1 _ _ (by omega)) yd4 (oc (oT rfl) (oc (oT rfl) oN)) pR) (fun _ _ _ _ h => h), rmv rfl, trivial⟩
     case h =>
      rw [Quv, hix1, hix2]
      refine oA (aC (Qs3 (lkp a.2.1 (Zb l)) r (ix (Qa v.2.2.2.1) a.1) (ix (Qa v.2.2.2.1) a.2.2) g8_0 vi ((rows.take i).flatMap (fun r => ext (lkp a.2.1 (Zb l)) r (ix (Qa v.2.2.2.1) a.1) (ix (Qa v.2.2.2.1) a.2.2))) hl1 hl2 hl3 (by omega) (by omega) (Qry l (by omega) a.2.1)) yu4 (oc oz (oc oz (oc oz (oc oz (oc oz oN))))) (Yf 0 0 rfl rfl)) (Yf 0 0 rfl rfl) rfl rfl (fun p hp => ?_)
      refine oP (Zn oz) rfl (tn (nn (tc oz (fun c51 => ?_) (fun c51 => ?_))))
      · have hg : ¬ ((rows.take i).flatMap (fun r => ext (lkp a.2.1 (Zb l)) r (ix (Qa v.2.2.2.1) a.1) (ix (Qa v.2.2.2.1) a.2.2))).length + ((fun r => ext (lkp a.2.1 (Zb l)) r (ix (Qa v.2.2.2.1) a.1) (ix (Qa v.2.2.2.1) a.2.2)) r).length ≤ 3000 := by simpa [Wn] using c51
        refine sq (rg (ak rfl (ak rfl (tn (nn (tR (Qw (tt (tt (Qw (tt (Qw (tt (tt (Qw (tt ?_))))))))))))))))
        exact Yl .ret (.inl rfl) rfl ([], 5) (OT.conv oz (fun H u h => J6 h)) oz (fun _ _ h => h) (.inr (.inl ⟨hok, Qy9 hka haa hrows hir hrr hg, rfl⟩)) (by exact pn)
      have hg : ((rows.take i).flatMap (fun r => ext (lkp a.2.1 (Zb l)) r (ix (Qa v.2.2.2.1) a.1) (ix (Qa v.2.2.2.1) a.2.2))).length + ((fun r => ext (lkp a.2.1 (Zb l)) r (ix (Qa v.2.2.2.1) a.1) (ix (Qa v.2.2.2.1) a.2.2)) r).length ≤ 3000 := by simpa [Wn] using c51
      refine sk (bn (nn (rg (oP (pad oz ot (by omega)) rfl (mv rfl rfl (tn (nn ?_)))))))
      exact tg (i + 1, p.1) ⟨by show i + 1 ≤ rows.length; omega, by rw [hst, List.length_append]; exact hg⟩ (by show rows.length - (i + 1) < rows.length - i; omega) ef (op (by rw [hst, ← hp hg]; exact (by repeat first | exact pn | refine pc 0 rfl ?_)))
   refine Qy (tx (tx (bh (nn ?_))))
   obtain rfl : i = rows.length := by simp only [decide_eq_false_iff_not] at c33; omega
   rw [List.take_length] at hin ⊢
   have hnx : Zp (Zb l) (Qa v.2.2.2.1) (v.2.2.2.1.take (k + 1)) = rows.flatMap (fun r => ext (lkp a.2.1 (Zb l)) r (ix (Qa v.2.2.2.1) a.1) (ix (Qa v.2.2.2.1) a.2.2)) := by rw [Qi8 hka, haa, hrows]; rfl
   refine rg (oP (Za oz (mA 0 rfl) y1z) rfl (av rfl rfl (tn (Xh (Qq 1 rfl) 8 oz (bn (nn (rg (oP (pad oz ot (by omega)) rfl (mv rfl rfl (tn (nn ?_)))))))))))
   exact tg (k + 1) ⟨by omega, Qrz hcaps (by rw [hnx]; exact hin)⟩ (by omega) (ea (ec 25 rfl (Qv (t := 8) (OT.eq oz (congrArg (SlT kT) hnx.symm)) en)) ef) (op (by repeat first | exact pn | refine pc 2 rfl ?_))
 refine Qy (tx (tx (bh (nn (sq ?_)))))
 obtain rfl : k = v.2.2.2.1.length := by simp only [decide_eq_false_iff_not] at c26; omega
 have hsm : Small (Zp (Zb l) (Qa v.2.2.2.1) v.2.2.2.1) := ⟨by have := hcaps _ (Nat.le_refl _); rw [List.take_length] at this; omega, fun r hr => by have := Qki l hal8 v.2.2.2.1.length r (by rw [List.take_length]; exact hr); omega⟩
 rw [List.take_length]
 refine rg (mv rfl rfl (oA (Zj (Qdh (K0 := noK) (n0 := 0) _ hsm) Ju y07 (oc oz oN) pR) pR rfl rfl (fun _ _ => ?_)))
 refine av rfl rfl (ak rfl (tn (nn (tR ?_))))
 exact Yl .ret (.inl rfl) rfl (Jd (Zp (Zb l) (Qa v.2.2.2.1) v.2.2.2.1), 0) (OT.unfr2 oz) oz (fun _ _ h => h) (.inr (.inr ⟨hok, Quw hcaps, rfl⟩)) (by exact pn)
end Go.Proofs.YtklhdalppmjnaaaGreatDoor
namespace Go.Jn
open Go Go.Gw Go.Tu
abbrev Qhr (xs : List Tp) : Prop := xs.Pairwise fun x y => X6 x y ≤ 0
def Qcu (xs : List Tp) : List Int := (dd xs).map fun t => (xs.count t : Int)
theorem Qux (xs : List Tp) : (Qcu xs).length = (dd xs).length := by unfold Qcu; rw [List.length_map]
section
variable {xs : List Tp} {k : Nat}
theorem Qp4 (hs : Qhr xs) {i j : Nat} (hi : i < j) (hj : j < xs.length) : X6 (at' xs (i : Int)) (at' xs (j : Int)) ≤ 0 := by
 rw [Qz (show i < xs.length by omega), Qz hj]
 exact List.pairwise_iff_getElem.1 hs i j (by omega) hj hi
theorem Quy {a b : Tp} (h1 : X6 a b ≤ 0) (h2 : X6 b a ≤ 0) : a = b := by
 have := Vp a b
 exact Uw.1 (by omega)
theorem Qr0 (hs : Qhr xs) (k : Nat) : Qhr (xs.take k) := hs.sublist (List.take_sublist _ _)
theorem Quz (hs : Qhr xs) : (dd xs).Nodup := (Qd1 hs).imp fun {a b} h e => by subst e; rw [Wf] at h; omega
theorem Qkj (h : k + 1 < xs.length) : at' xs (((k + 1 : Nat) : Int) - 1) = at' xs (k : Int) := by congr 1; omega
theorem Qgf : ∀ {k : Nat}, k < xs.length → dd (xs.take (k + 1)) ≠ [] ∧ at' (dd (xs.take (k + 1))) (((dd (xs.take (k + 1))).length : Int) - 1) = at' xs (k : Int)
 | 0, h => by
  have e : xs.take (0 + 1) = [at' xs ((0 : Nat) : Int)] := by rw [Qz h, List.take_succ_eq_append_getElem h]; simp
  rw [e, Qkc (by simp)]
  exact ⟨by simp, rfl⟩
 | k + 1, h => by
  obtain ⟨h1, h2⟩ := Qgf (k := k) (by omega)
  have hst := Qd2 (xs := xs) (m := k + 1) (by omega) h
  rw [Qkj h] at hst
  split at hst
  · rename_i he
    rw [hst]; exact ⟨h1, h2.trans he⟩
  rw [hst]
  refine ⟨by simp, ?_⟩
  rw [List.length_append, List.length_singleton]
  have e : (((dd (xs.take (k + 1))).length + 1 : Nat) : Int) - 1 = ((dd (xs.take (k + 1))).length : Int) := by omega
  rw [e, Qz (by simp)]
  simp
theorem Qc9 {t : Tp} (h : k < xs.length) : (xs.take (k + 1)).count t = (xs.take k).count t + if at' xs (k : Int) = t then 1 else 0 := by
 rw [Qz h, List.take_succ_eq_append_getElem h, List.count_append]
 congr 1
 rw [List.count_singleton]
 simp
theorem Qza (hs : Qhr xs) (h : k < xs.length) (hne : k = 0 ∨ at' xs ((k : Int) - 1) ≠ at' xs (k : Int)) : dd (xs.take (k + 1)) = dd (xs.take k) ++ [at' xs (k : Int)] ∧ Qcu (xs.take (k + 1)) = Qcu (xs.take k) ++ [1] := by
 have hno : at' xs (k : Int) ∉ xs.take k := by
  intro hm
  obtain ⟨i, hi, he⟩ := List.getElem_of_mem hm
  rw [List.length_take] at hi
  have hik : i < k := by omega
  have he2 : at' xs (i : Int) = at' xs (k : Int) := by
   rw [List.getElem_take] at he
   rw [Qz (show i < xs.length by omega)]; exact he
  rcases hne with h0 | h0
  · omega
  have e1 : ((k : Int) - 1) = ((k - 1 : Nat) : Int) := by omega
  rw [e1] at h0
  refine h0 (Quy (Qp4 hs (by omega) h) ?_)
  rcases Nat.lt_or_ge i (k - 1) with h1 | h1
  · rw [← he2]; exact Qp4 hs h1 (by omega)
  have : i = k - 1 := by omega
  subst this
  rw [← he2, Wf]; exact Int.le_refl _
 have hdd : dd (xs.take (k + 1)) = dd (xs.take k) ++ [at' xs (k : Int)] := by
  rcases Nat.eq_zero_or_pos k with h0 | h0
  · subst h0
    rw [Qz h, List.take_succ_eq_append_getElem h]
    simp only [List.take_zero, List.nil_append]
    rw [Qkc (by simp)]; rfl
  have hst := Qd2 (xs := xs) (m := k) h0 h
  rw [if_neg (hne.resolve_left (by omega))] at hst
  exact hst
 refine ⟨hdd, ?_⟩
 unfold Qcu
 rw [hdd, List.map_append]
 have c0 : (xs.take k).count (at' xs (k : Int)) = 0 := List.count_eq_zero.2 hno
 congr 1
 · refine List.map_congr_left fun t ht => ?_
   rw [Qc9 h, if_neg (show ¬ at' xs (k : Int) = t from fun e => hno (by rw [e]; exact Qhd.1 ht))]; rfl
 simp [Qc9 h, c0]
theorem Qhs (hs : Qhr xs) (h : k + 1 < xs.length) (he : at' xs (k : Int) = at' xs ((k + 1 : Nat) : Int)) : dd (xs.take (k + 1 + 1)) = dd (xs.take (k + 1)) ∧
 Qcu (xs.take (k + 1 + 1)) = (Qcu (xs.take (k + 1))).set ((dd (xs.take (k + 1))).length - 1) (at' (Qcu (xs.take (k + 1))) (((dd (xs.take (k + 1))).length : Int) - 1) + 1) := by
 have hst := Qd2 (xs := xs) (m := k + 1) (by omega) h
 rw [Qkj h, if_pos he] at hst
 refine ⟨hst, ?_⟩
 obtain ⟨hn, hl⟩ := Qgf (xs := xs) (k := k) (by omega)
 have hnd := Quz (Qr0 hs (k + 1))
 unfold Qcu
 rw [hst]
 generalize hD : dd (xs.take (k + 1)) = D at hn hl hnd
 have hlen : 0 < D.length := by cases D with
  | nil => exact absurd rfl hn
  | cons a l => simp
 have hi : ((D.length : Int) - 1) = ((D.length - 1 : Nat) : Int) := by omega
 rw [hi] at hl ⊢
 have hlt : D.length - 1 < D.length := by omega
 rw [Qz hlt] at hl
 rw [Qz (by rw [List.length_map]; exact hlt), List.getElem_map]
 apply List.ext_getElem
 · simp
 intro i h1 h2
 rw [List.length_map] at h1
 rw [List.getElem_map, Qc9 h, List.getElem_set]
 by_cases hii : D.length - 1 = i
 · subst hii
   rw [if_pos rfl, if_pos (by rw [← he, hl])]
   omega
 rw [if_neg hii, if_neg, List.getElem_map]
 · simp
 intro e
 rw [← he, ← hl] at e
 exact hii ((List.getElem_inj hnd).1 e)
end
theorem Qu0 {all rs : List Tp} (hp : rs.Perm all) (hs : Qhr rs) : dd rs = Jd all ∧ Qcu rs = Qd7 all := by
 have h1 := Que hp hs
 refine ⟨h1, ?_⟩
 unfold Qcu Qd7
 rw [h1]
 exact List.map_congr_left fun t _ => by rw [hp.count_eq]
theorem Qr1 (l : List Tp) : Jd (Jd l) = Jd l := (Qbp (Xi l).1 fun x => Iff.rfl).symm
end Go.Jn
namespace Go.Jn
open Go Go.Gw Go.Tu
theorem Qzb {v : Vw} {l : List Ed} {r : List Tp × Int} (h : Qkd v l r) (h0 : r.2 ≠ 0) : Qc7 v l ([], [], r.2) := by
 rcases h with ⟨h1, rfl⟩ | ⟨h1, h2, rfl⟩ | ⟨h1, h2, rfl⟩
 · exact .inl ⟨h1, rfl⟩
 · exact .inr (.inl ⟨h1, h2, rfl⟩)
 exact absurd rfl h0
theorem Qzc {v : Vw} {l : List Ed} {r : List Tp × Int} (h : Qkd v l r) (h0 : r.2 = 0) : okV v = true ∧ ¬ Kv l v.2.2.2.1 ∧ r.1 = Jd (Zp (Zb l) (Qa v.2.2.2.1) v.2.2.2.1) := by
 rcases h with ⟨h1, rfl⟩ | ⟨h1, h2, rfl⟩ | ⟨h1, h2, rfl⟩
 · cases h0
 · cases h0
 exact ⟨h1, h2, rfl⟩
theorem Qoi {v : Vw} {l : List Ed} {rows : List Tp} (hok : okV v = true) (hn : ¬ Kv l v.2.2.2.1) (hr : rows = Jd (Zp (Zb l) (Qa v.2.2.2.1) v.2.2.2.1)) :
 rows.length ≤ 3000 ∧ (∀ r ∈ rows, r.length = (Qa v.2.2.2.1).length) ∧ v.2.2.1.length ≤ 6 ∧ (Qa v.2.2.2.1).length ≤ 16 ∧ ∀ o ∈ v.2.2.1, o ∈ Qa v.2.2.2.1 := by
 obtain ⟨_, h1, h2, h3⟩ := Qkh (v := v) (by rw [hok]; rfl)
 have hvl := K8 v.2.2.2.1
 refine ⟨?_, fun r hrm => ?_, h1, by omega, fun o ho => ?_⟩
 · have h4 : ¬ 3000 < (Zp (Zb l) (Qa v.2.2.2.1) (v.2.2.2.1.take v.2.2.2.1.length)).length := fun e => hn ⟨_, Nat.le_refl _, e⟩
   rw [List.take_length] at h4
   have := Ua (Zp (Zb l) (Qa v.2.2.2.1) v.2.2.2.1)
   rw [hr]; omega
 · rw [hr] at hrm
   have := ((Xi _).2 r).1 hrm
   have h5 := Qhq l (al := v.2.2.2.1) (k := v.2.2.2.1.length) (r := r) (by rw [List.take_length]; exact this)
   rwa [List.take_length] at h5
 have h6 := hok
 unfold okV Qhn at h6
 simp only [Bool.and_eq_true, List.all_eq_true] at h6
 simpa using h6.2.1 o ho
theorem Qr2 (xs : List Tp) (i : Int) : 0 ≤ at' (Qcu xs) i ∧ at' (Qcu xs) i ≤ xs.length := by
 unfold at'
 rw [List.getD_eq_getElem?_getD]
 cases e : (Qcu xs)[i.toNat]? with
 | none => exact ⟨Int.le_refl _, Int.natCast_nonneg _⟩
 | some x =>
  unfold Qcu at e
  rw [List.getElem?_map] at e
  cases e2 : (dd xs)[i.toNat]? with
  | none => rw [e2] at e; cases e
  | some t =>
   rw [e2] at e
   cases e
   have := List.count_le_length (a := t) (l := xs)
   simp only [Option.getD_some]; omega
theorem Qzd {rs : List Tp} {k : Nat} {t : Tp} (h : k < rs.length) (ht : at' rs (k : Int) = t) (hc : (decide ((0 : Int) < (dd (rs.take k)).length) && decide (X6 (at' (dd (rs.take k)) (((dd (rs.take k)).length : Int) - 1)) t = 0)) = true) : ∃ k', k = k' + 1 ∧ at' rs (k' : Int) = at' rs ((k' + 1 : Nat) : Int) := by
 simp only [Bool.and_eq_true, decide_eq_true_eq] at hc
 match k, h, ht, hc with
 | 0, h, ht, hc => simp [dd] at hc
 | k' + 1, h, ht, hc => exact ⟨k', rfl, (Qgf (by omega)).2.symm.trans ((Uw.1 hc.2).trans ht.symm)⟩
theorem Q2m {rs : List Tp} {k : Nat} {t : Tp} (h : k < rs.length) (ht : at' rs (k : Int) = t) (hc : (decide ((0 : Int) < (dd (rs.take k)).length) && decide (X6 (at' (dd (rs.take k)) (((dd (rs.take k)).length : Int) - 1)) t = 0)) = false) : k = 0 ∨ at' rs ((k : Int) - 1) ≠ at' rs (k : Int) := by
 match k, h, ht, hc with
 | 0, _, _, _ => exact .inl rfl
 | k' + 1, h, ht, hc =>
  right
  rw [Qkj h]
  intro e
  obtain ⟨h1, h2⟩ := Qgf (xs := rs) (k := k') (by omega)
  have h3 : 0 < (dd (rs.take (k' + 1))).length := by cases hd : dd (rs.take (k' + 1)) with
   | nil => exact absurd hd h1
   | cons a l => simp
  have h4 : X6 (at' (dd (rs.take (k' + 1))) (((dd (rs.take (k' + 1))).length : Int) - 1)) t = 0 := Uw.2 (h2.trans (e.trans ht))
  have h5 : decide ((0 : Int) < (dd (rs.take (k' + 1))).length) = true := decide_eq_true (by omega)
  rw [h4, h5] at hc
  exact absurd hc (by decide)
end Go.Jn
namespace Go.Proofs.YtklhdalppmjnaaaGreatDoor
open Go Go.Gw Go.So Go.Tu Go.Jn
/-- slices.Clip[[]int,int] -/
theorem Qxg (xs : List Int) : Ct Tryz.prog 64 [Jh noK 0 kI xs] ([]) Unit (fun _ => SlT kI xs) (fun _ => []) (fun _ => True) := by
 refine Qm Tryz.func64 rfl rfl ?_
 intro H w
 refine sq (rg (ak rfl (tn (nn (sq (rg (mv rfl rfl (mv rfl rfl (Z6 4 (OT.fresh oz) (oP (pls oz Tryz.underlying50) rfl (mv rfl rfl (Z6 6 (OT.fresh oz) (oP (pls oz Tryz.underlying50) rfl (oP (Qdt oz oz oz Tryz.underlying50 ynm) rfl (av rfl rfl (tn (nn (tR ?_))))))))))))))))))
 exact Qh .ret (.inl rfl) rfl () (OT.fresh (OT.unclip oz)) trivial (by exact pn)
/-- rhizome/join.Result -/
theorem Qjt (v : Vw) (l : List Ed) (ho : v.2.2.1.length ≤ maxLen) (ha : v.2.2.2.1.length ≤ maxLen) (hm : l.length ≤ 1000000) : Ct Tryz.prog 36 [kV.T v, SlT kE l] ([]) (List Tp × List Int × Int) (fun r => J7 [SlT kT r.1, SlT kI r.2.1, I64 r.2.2]) (fun _ => []) (fun r => Qc7 v l r) := by
 refine Qm Tryz.func36 rfl rfl ?_
 intro H w
 have ho0 := ho; have ha0 := ha; unfold maxLen at ho ha
 refine sq (rg (oA (Xe (d := kV) oz) pR rfl rfl (fun g0_0 _ => ?_)))
 refine ak rfl (ak rfl (ak rfl (tn (nn (sq (rg (oP (plv oz (mA 0 rfl) y4q) rfl (mv rfl rfl (oA (aC (Q0y _ _ ho0 ha0 (by omega)) y5r (oc oz (oc oz oN)) pR) pR rfl rfl (fun r1_2 hr1_2 => ?_))))))))))
 refine mv rfl rfl (oP (Ql oz rfl) rfl (oP (Ql oz rfl) rfl (av rfl rfl (av rfl rfl (tn (nn (sq (sq (rg (mv rfl rfl (oP (Ja oz ot) rfl (tn (nn (tc oz (fun c28 => ?_) (fun c28 => ?_)))))))))))))))
 · refine sq (rg (mv rfl rfl (ak rfl (ak rfl (av rfl rfl (tn (nn (tR (tt ?_)))))))))
   exact Qe1 .ret (.inl rfl) rfl ([], [], r1_2.2) (OT.conv oz (fun H u h => J6 h)) (OT.conv oz (fun H u h => J6 h)) oz (fun _ _ h => h) (Qzb hr1_2 (by simpa using c28)) (by exact pn)
 obtain ⟨hok, hnm, hr1⟩ := Qzc hr1_2 (by simpa using c28)
 obtain ⟨rows, hrw⟩ : ∃ x, r1_2.1 = x := ⟨_, rfl⟩
 rw [hrw] at hr1
 obtain ⟨hrn, hrl, hol, hvl, hout⟩ := Qoi hok hnm hr1
 have hal8 := (Qkh (v := v) (by rw [hok]; rfl)).2.2.2
 refine sk (nn (sq ?_))
 rw [hrw]
 refine rg (oP (plv (oT rfl) (mA 0 rfl) y4q) rfl (oA (aC (Qa4 _ (by omega)) yew (oc (oT rfl) oN) pR) pR rfl rfl (fun _ _ => ?_)))
 refine av rfl rfl (tn (nn (sq (rg (ak rfl (tn (nn (sq (sq (Xf 51 kT (rg (mv rfl rfl (oP (pls oz Tryz.underlying36) rfl (oP (Qp ot) rfl (tn (nn (tb (Qr (σ := Nat × Value) (e4 2 9 32 33 rfl en) (fun s => [(34, I64 (s.1 : Int)), (10, IsV s.2)]) (fun s => [Qg 51 kT s.2 ((rows.take s.1).map (proj (Qa v.2.2.2.1) v.2.2.1)), Qb g0_0 25 kV v]) (fun s => s.1 ≤ rows.length) (fun s => rows.length - s.1) (0, Qn) (Nat.zero_le _) ?_ (op (by repeat first | exact pn | refine pc 0 rfl ?_)) ?_))))))))))))))))))
 · exact (e2 34 10 rfl en)
 rintro ⟨i, va⟩ hi
 dsimp only at hi ⊢
 refine sq (rg (oP (Q6 oz oz) rfl (tn (nn (sq (tc oz (fun c35 => ?_) (fun c35 => ?_)))))))
 · refine sk (nn (sq (tb (sq ?_))))
   have hir : i < rows.length := by simpa using c35
   obtain ⟨row, hrow⟩ : ∃ r, at' rows (i : Int) = r := ⟨_, rfl⟩
   have hrwl := hrl row (by rw [← hrow]; exact at_mem hir)
   have hst2 := U9 (proj (Qa v.2.2.2.1) v.2.2.1) hir
   rw [hrow] at hst2
   refine rg (oP (Qk oz oz Tryz.underlying36 yko (by omega) (by omega)) rfl (oP (pL oz yko) rfl (av rfl rfl (tn (nn (sq ?_))))))
   rw [hrow]
   refine rg (ak rfl (tn (nn (sq (sq (Xf 3 kI (rg (oP (pf oz yss) rfl (oP (plb oz (mA 2 rfl) lv2 ye4) rfl (oP (pls oz Tryz.underlying22) rfl (oP (Qp ot) rfl (tn (nn (tb (Qr (σ := Nat × Value) (e8 2 9 10 12 32 33 34 39 rfl (ec 40 rfl en)) (fun s => [(41, I64 (s.1 : Int)), (13, IsV s.2)]) (fun s => [Qg 3 kI s.2 ((v.2.2.1.take s.1).map (fun o => env (Qa v.2.2.2.1) row o)), Qg 51 kT va ((rows.take i).map (proj (Qa v.2.2.2.1) v.2.2.1)), Qb g0_0 25 kV v]) (fun s => s.1 ≤ v.2.2.1.length) (fun s => v.2.2.1.length - s.1) (0, Qn) (Nat.zero_le _) ?_ (op (by repeat first | exact pn | refine pc 0 rfl ?_)) ?_)))))))))))))))
   · exact (e2 41 13 rfl en)
   rintro ⟨j, vt⟩ hj
   dsimp only at hj ⊢
   refine sq (rg (oP (Q6 oz oz) rfl (tn (nn (sq (tc oz (fun c42 => ?_) (fun c42 => ?_)))))))
   · refine sk (nn (sq (tb (sq ?_))))
     have hjo : j < v.2.2.1.length := by simpa using c42
     obtain ⟨o, hoo⟩ : ∃ o, at' v.2.2.1 (j : Int) = o := ⟨_, rfl⟩
     have hoV := hout o (by rw [← hoo]; exact at_mem hjo)
     have hix := Qc8 hoV
     have hixl := Qpy hoV
     have hst := U9 (fun o => env (Qa v.2.2.2.1) row o) hjo
     rw [hoo] at hst
     refine rg (oP (Qk oz oz Tryz.underlying22 ylw (by omega) (by omega)) rfl (oP (pL oz ylw) rfl (av rfl rfl (tn (nn ?_)))))
     rw [hoo]
     refine rg (mv rfl rfl (mv rfl rfl (mv rfl rfl (mv rfl rfl (oA (aC (W1 _ _ (by omega)) yd4 (oc (oT rfl) (oc (oT rfl) oN)) pR) pR rfl rfl (fun _ _ => ?_))))))
     refine oP (Qk oz oz Tryz.underlying51 ynm (by omega) (by omega)) rfl ?_
     rw [hix]
     refine oP (pL oz ynm) rfl (oA (Q9 (d := kI) (v0 := 0) ye1 ynm zI (show 1 * 1 ≤ 16777216 from by decide) (by decide) (Qx rfl rfl (by decide) oz Qd)) pR rfl rfl (fun _ _ => ?_))
     refine oA (Q0 oz (pA 0 rfl) oz ye1 (by (simp; omega)) (by (simp; omega))) (pA 0 rfl) rfl rfl (fun v13_8 _ => ?_)
     refine av rfl rfl (tn (bn (nn (rg (oP (pad oz ot (by omega)) rfl (mv rfl rfl (tn (nn ?_))))))))
     exact tg (j + 1, v13_8) (by show j + 1 ≤ _; omega) (by show v.2.2.1.length - (j + 1) < v.2.2.1.length - j; omega) ef (op (by rw [hst]; exact (by repeat first | exact pn | refine pc 0 rfl ?_)))
   refine Qy (tx (tx (bh (nn ?_))))
   obtain rfl : j = v.2.2.1.length := by simp only [decide_eq_false_iff_not] at c42; omega
   rw [List.take_length]
   refine rg (mv rfl rfl (mv rfl rfl (Xh (pA 0 rfl) 56 oz (oA (Q9 (d := kT) (v0 := []) yiy yko zT (show 1 * 1 ≤ 16777216 from by decide) (by decide) (Qx rfl rfl (by decide) oz Qd)) pR rfl rfl (fun _ _ => ?_)))))
   refine oA (Q0 oz (pA 0 rfl) oz yiy (by (simp; omega)) (by (simp [maxLen]; omega))) (pA 0 rfl) rfl rfl (fun v15_3 _ => ?_)
   refine av rfl rfl (tn (bn (nn (rg (oP (pad oz ot (by omega)) rfl (mv rfl rfl (tn (nn ?_))))))))
   exact tg (i + 1, v15_3) (by show i + 1 ≤ rows.length; omega) (by show rows.length - (i + 1) < rows.length - i; omega) ef (op (by rw [hst2]; exact (by repeat first | exact pn | refine pc 0 rfl ?_)))
 refine Qy (tx (tx (bh (nn (sq ?_)))))
 obtain rfl : i = rows.length := by simp only [decide_eq_false_iff_not] at c35; omega
 rw [List.take_length]
 obtain ⟨all, hall⟩ : ∃ a, rows.map (proj (Qa v.2.2.2.1) v.2.2.1) = a := ⟨_, rfl⟩
 rw [hall]
 have hallen : all.length ≤ 1000000 := by rw [← hall, List.length_map]; omega
 refine rg (mv rfl rfl (oA (aC (Qxe _ _ hallen) yfb (oc oz (oc OT.func oN)) (pA 0 rfl)) (pA 0 rfl) rfl rfl (fun rs hrs => ?_)))
 refine tn (nn (sq ?_))
 have hrsl : rs.length ≤ 1000000 := by rw [hrs.1.length_eq]; exact hallen
 refine Xh (pA 0 rfl) 10 oz (rg (ak rfl (tn (nn (sq (rg (ak rfl (tn (nn (sq (sq (Xf 3 kI (Xf 51 kT ?_)))))))))))))
 refine rg (mv rfl rfl (oP (pls oz Tryz.underlying36) rfl (oP (Qp ot) rfl (tn (nn (tb (Qr (σ := Nat × Value × Value) (e2 62 63 rfl en) (fun s => [(64, I64 (s.1 : Int)), (16, IsV s.2.1), (17, IsV s.2.2)]) (fun s => [Qg 51 kT s.2.1 (dd (rs.take s.1)), Qg 3 kI s.2.2 (Qcu (rs.take s.1)), Qb g0_0 25 kV v]) (fun s => s.1 ≤ rs.length) (fun s => rs.length - s.1) (0, Qn, Qn) (Nat.zero_le _) ?_ (op (by repeat first | exact pn | refine pc 0 rfl ?_)) ?_)))))))
 · exact (e2 64 16 rfl (ec 17 rfl en))
 rintro ⟨k, vo, vc⟩ hk
 dsimp only at hk ⊢
 refine sq (rg (oP (Q6 oz oz) rfl (tn (nn (sq (tc oz (fun c65 => ?_) (fun c65 => ?_)))))))
 · refine sk (nn (sq (tb (sq ?_))))
   have hkr : k < rs.length := by simpa using c65
   obtain ⟨t, ht⟩ : ∃ t, at' rs (k : Int) = t := ⟨_, rfl⟩
   have hdl := Quf (rs.take k)
   rw [List.length_take] at hdl
   have hcl := Qux (rs.take k)
   have hcb := Qr2 (rs.take k) (((dd (rs.take k)).length : Int) - 1)
   rw [List.length_take] at hcb
   refine rg (oP (Qk oz oz Tryz.underlying36 yko (by omega) (by omega)) rfl (oP (pL oz yko) rfl (av rfl rfl (tn (nn (sq (sq ?_)))))))
   rw [ht]
   refine rg (mv rfl rfl (oP (Xt oz (mA 0 rfl) Tryz.underlying36) rfl (av rfl rfl (tn (nn (sq (rg (mv rfl rfl (oP (Y9 oz ot) rfl (mv rfl rfl (oG rfl rfl rfl (gm oz) (fun hg => by (have hg1 := hg.2; (try simp only [cq2] at hg1); exact Qp oz)) rfl ?_)))))))))))
   refine oG rfl rfl rfl (gm oz) (fun hg => by (have hg1 := hg.2; (try simp only [cq2] at hg1); exact Qp oz)) rfl ?_
   refine oG rfl rfl rfl (gm oz) (fun hg => by (have hg1 := hg.2; (try simp only [cq2] at hg1); exact J5 (gu oz hg) ot (by omega))) rfl ?_
   refine oG rfl rfl rfl (gm oz) (fun hg => by (have hg1 := hg.2; (try simp only [cq2] at hg1); exact pio (gu oz hg) (mA 0 rfl) (gu oz hg) Tryz.underlying36 yko (by omega) (by omega))) rfl ?_
   refine oG rfl rfl rfl (gm oz) (fun hg => by (have hg1 := hg.2; (try simp only [cq2] at hg1); exact plo (gu oz hg) (mA 0 rfl) (by omega) (by omega) yko)) rfl ?_
   refine oG rfl rfl rfl (gm oz) (fun hg => by (have hg1 := hg.2; (try simp only [cq2] at hg1); exact Qp oz)) rfl ?_
   refine Z0 () rfl rfl rfl (gm oz) (fun hg => by (have hg1 := hg.2; (try simp only [cq2] at hg1); exact aC (Qgq _ _) yuu (oc (gu oz hg) (oc (gu oz hg) oN)) pR)) rfl (fun _ _ => ?_)
   refine oG rfl rfl rfl (gm oz) (fun hg => by (have hg1 := hg.2; (try simp only [cq2] at hg1); exact Zu (gu oz hg) ot)) rfl ?_
   refine oP (Q3 oz oz) rfl (tn (nn (tc oz (fun c81 => ?_) (fun c81 => ?_))))
   · obtain ⟨k', rfl, hkk⟩ := Qzd hkr ht c81
     have hst := Qhs hrs.2 hkr hkk
     simp only [Bool.and_eq_true, decide_eq_true_eq] at c81
     have hn1 : (((dd (rs.take (k' + 1))).length : Int) - 1).toNat = (dd (rs.take (k' + 1))).length - 1 := by omega
     refine sq (rg (mv rfl rfl (mv rfl rfl (oP (J5 oz ot (by omega)) rfl (oP (pio oz (mA 1 rfl) oz Tryz.underlying50 ynm (by omega) (by omega)) rfl (oP (plo oz (mA 1 rfl) (by omega) (by omega) ynm) rfl (oP (pad oz ot (by omega)) rfl (oP (pio oz (mA 1 rfl) oz Tryz.underlying50 ynm (by omega) (by omega)) rfl (oA (Ku oz oz (pA 1 rfl) (by omega) (by omega) ynm) (pA 1 rfl) rfl rfl (fun _ _ => ?_))))))))))
     refine tn (nn (Qy (tx (bh (nn (rg (oP (pad oz ot (by omega)) rfl (mv rfl rfl (tn (nn ?_))))))))))
     exact tg (k' + 1 + 1, vo, vc) (by show k' + 1 + 1 ≤ rs.length; omega) (by show rs.length - (k' + 1 + 1) < rs.length - (k' + 1); omega) ef (op (by rw [hst.1, hst.2, ← hn1]; exact (by repeat first | exact pn | refine pc 0 rfl ?_ | refine pc 1 rfl ?_)))
   have hst := Qza hrs.2 hkr (Q2m hkr ht c81)
   rw [ht] at hst
   refine sk (nn (rg (mv rfl rfl (mv rfl rfl (oA (Q9 (d := kT) (v0 := []) yiy yko zT (show 1 * 1 ≤ 16777216 from by decide) (by decide) (Qx rfl rfl (by decide) oz Qd)) pR rfl rfl (fun _ _ => ?_))))))
   refine oA (Q0 oz (pA 0 rfl) oz yiy (by (simp; omega)) (by (simp [maxLen]; omega))) (pA 0 rfl) rfl rfl (fun v26_3 _ => ?_)
   refine mv rfl rfl (oA (Q9 (d := kI) (v0 := 0) y9t ynm zI (show 1 * 1 ≤ 16777216 from by decide) (by decide) (Qx rfl rfl (by decide) ot Qd)) pR rfl rfl (fun _ _ => ?_))
   refine oA (Q0 oz (pA 1 rfl) oz y9t (by (simp; omega)) (by (simp [maxLen]; omega))) (pA 1 rfl) rfl rfl (fun v26_6 _ => ?_)
   refine av rfl rfl (av rfl rfl (tn (bn (nn (rg (oP (pad oz ot (by omega)) rfl (mv rfl rfl (tn (nn ?_)))))))))
   exact tg (k + 1, v26_3, v26_6) (by show k + 1 ≤ rs.length; omega) (by show rs.length - (k + 1) < rs.length - k; omega) ef (op (by rw [hst.1, hst.2]; exact (by repeat first | exact pn | refine pc 0 rfl ?_ | refine pc 1 rfl ?_)))
 refine Qy (tx (tx (bh (nn (sq ?_)))))
 obtain rfl : k = rs.length := by simp only [decide_eq_false_iff_not] at c65; omega
 obtain ⟨hD, hC⟩ := Qu0 hrs.1 hrs.2
 rw [List.take_length, hD, hC]
 have hsma : Small all := ⟨hallen, fun x hx => by
  rw [← hall] at hx
  obtain ⟨r, _, rfl⟩ := List.mem_map.1 hx
  unfold proj; rw [List.length_map]; omega⟩
 have hsm := hsma.setR
 refine rg (mv rfl rfl (Xh (pA 0 rfl) 97 oz (oA (Zj (Qdh (K0 := noK) (n0 := 0) _ hsm) Ju y07 (oc oz oN) pR) pR rfl rfl (fun _ _ => ?_))))
 refine mv rfl rfl (Kw Ju (fun g => Wd) (pA 0 rfl) 99 oz (oA (aC (Qxg _) yhb (oc oz oN) pR) pR rfl rfl (fun _ _ => ?_)))
 refine av rfl rfl (av rfl rfl (ak rfl (tn (nn (tR ?_)))))
 exact Qe1 .ret (.inl rfl) rfl (Jd all, Qd7 all, 0) (OT.eq (OT.unfr2 oz) (congrArg (SlT kT) (Qr1 all))) oz oz (fun _ _ h => h) (.inr (.inr ⟨hok, hnm, by unfold Vf; rw [← hr1, hall]⟩)) (by exact pn)
end Go.Proofs.YtklhdalppmjnaaaGreatDoor
namespace Go.Jn
open Go Go.Gw Go.Tu
abbrev ats (v : Vw) : List Atm := v.2.2.2.1
abbrev outs (v : Vw) : List Lab := v.2.2.1
theorem Qht {α : Type} [DecidableEq α] {l m : List α} (h1 : l.Nodup) (h2 : m.Nodup) (h : ∀ x, x ∈ l ↔ x ∈ m) : l.Perm m := (List.perm_ext_iff_of_nodup h1 h2).2 h
theorem Qci {α β : Type} {f : α → β} {l : List α} (hl : l.Nodup) (hf : ∀ a ∈ l, ∀ b ∈ l, f a = f b → a = b) : (l.map f).Nodup := by
 induction l with
 | nil => exact List.nodup_nil
 | cons a l ih =>
  obtain ⟨h1, h2⟩ := List.nodup_cons.1 hl
  rw [List.map_cons]
  refine List.nodup_cons.2 ⟨fun h => ?_, ih h2 fun x hx y hy => hf x (List.mem_cons_of_mem _ hx) y (List.mem_cons_of_mem _ hy)⟩
  obtain ⟨b, hb, e⟩ := List.mem_map.1 h
  have := hf b (List.mem_cons_of_mem _ hb) a List.mem_cons_self e
  subst this; exact h1 hb
section
variable {v w : Vw} {l l' : List Ed}
end
theorem Qcj {α : Type} [DecidableEq α] {l m : List α} (h1 : l.Nodup) (h : ∀ x ∈ l, x ∈ m) (h2 : m.Nodup) : l.length ≤ m.length := by
 have hp : l.Perm (m.filter fun x => decide (x ∈ l)) := Qht h1 (h2.sublist List.filter_sublist) fun x => by
  rw [List.mem_filter]; simp only [decide_eq_true_eq]; exact ⟨fun hx => ⟨h x hx, hx⟩, fun hx => hx.2⟩
 rw [hp.length_eq]; exact List.length_filter_le _ _
section
variable {v : Vw} {l : List Ed} {m : Ed}
end
end Go.Jn
namespace Go.Jn
open Go Go.Gw Go.Tu
def Q4h (b : UInt8) : UInt8 := UInt8.ofNat (97 + (b.toNat - 97 + 13) % 26)
def Q1v : Lab → Lab
 | [] => []
 | b :: t => Q4h b :: t
def tA (a : Atm) : Atm := (Q1v a.1, a.2.1, Q1v a.2.2)
section
variable {v w : Vw} {l : List Ed}
structure Q5o (v w : Vw) : Prop where
 nm : w.1 = v.1
 kd : w.2.1 = v.2.1
 out : outs w = outs v
 lb : w.2.2.2.2 = v.2.2.2.2
 at_ : ats w = ats v ++ (ats v).map tA
 few : (ats v).length ≤ 3
 ok : okV v = true
 no : ∀ x ∈ (ats v).map tA, ∀ y ∈ ats v, x.1 ≠ y.1 ∧ x.1 ≠ y.2.2 ∧ x.2.2 ≠ y.1 ∧ x.2.2 ≠ y.2.2
theorem Qbw {α β : Type} (f : α → List β) (n : Nat) : ∀ (l : List α), (∀ x ∈ l, (f x).length = n) → (l.flatMap f).length = l.length * n
 | [], _ => by simp
 | a :: l, h => by
  rw [List.flatMap_cons, List.length_append, h a List.mem_cons_self, Qbw f n l fun x hx => h x (List.mem_cons_of_mem _ hx), List.length_cons, Nat.succ_mul, Nat.add_comm]
end
end Go.Jn
namespace Go.Jn
open Go Go.Gw Go.Tu
end Go.Jn
namespace Go.Jn
open Go Go.Gw Go.Tu
def Qp5 (v : Vw) (l : List Ed) : Bool := decide ((l.length : Int) ≤ 25) && decide ((v.2.2.2.1.length : Int) ≤ 12) && decide ((v.2.2.1.length : Int) ≤ 12)
end Go.Jn
namespace Go.Gw
open Go Go.ChangeShapes Go.WideShapes Go.RowKit
theorem Qu1 {H : Type} {enc : TypeId × Value → H} {a : Assume} {C : Checked} {os : Os} {f : FuncId} {fn : Func} {s : ChangeSpec} {conds : List PathCond} {apart fresh handsOn again : Bool} {X : World → Array Value → Prop}
 (hX : ∀ (w w' : World) (args : Array Value), w.heap = w'.heap → X w args → X w' args)
 (own : ownKnob C.prog.godebug = none) (started : os.Started) (noInit : C.prog.inits.idxOf? f = none) (hfn : C.prog.funcs[f]? = some fn)
 (witness : ∃ (w : World) (tape : Tape) (i : Input), w.os = os ∧ (w.forCall tape i).Shaped C.prog ∧ i.vars = [] ∧ Input.okWide C.prog (w.forCall tape i) .any w.heap.size f i ∧
  ((s.pre enc C.prog fn conds apart (w.forCall tape i).memory i.args ∧ X (w.forCall tape i).memory i.args) ∧ sizedMet enc C.prog fn (OpenSpec.ofChange s) apart (w.forCall tape i).memory i.args) ∧ a.holds C.prog (lone (Frame.enter C.prog f i.args .normal) [] (w.forCall tape i)))
 (contract : ∀ (W : World) (base : Nat) (args : Array Value) (ds gs : List (DataW H)) (before : List MemPlace), W.ShapedOpen C.prog →
  (∀ (j : Nat) t v, fn.params[j]? = some t → args[j]? = some v → Value.okWide C.prog W .any base t v) →
  DataW.Whole enc C.prog fn.params.toList s.vars apart W args.toList ds gs before →
  conds.all (PathCond.test C.prog ⟨fn.params.toList, ds, s.plain.varTypes C.prog, gs⟩) = true →
  (DataW.weightsEach C.prog (fn.params.toList ++ s.plain.varTypes C.prog) (ds ++ gs)).all (· ≤ reachBytes) = true → X W args →
  Calls C.prog f args W fun e W' => ∃ v, e = .returned v ∧ s.post enc C.prog fn apart fresh handsOn again W args v W') :
 ReturnsInHanded a C os f .any (fun w args => (s.pre enc C.prog fn conds apart w args ∧ X w args) ∧ sizedMet enc C.prog fn (OpenSpec.ofChange s) apart w args) (s.post enc C.prog fn apart fresh handsOn again) := by
 refine returnsInHanded_of_calls own started noInit witness ?_
 intro w tape i _ hsh _ hok hpre _
 obtain ⟨_, _, _, fn', hfn', _, _, _, _, hval⟩ := hok
 have e : fn' = fn := Option.some.inj (hfn'.symm.trans hfn)
 subst e
 obtain ⟨⟨⟨ds, gs, before, hw, hc⟩, hx⟩, hz⟩ := hpre
 have hw' := DataW.Whole.of_heap (w' := w.forCall tape i) (by rfl) hw
 refine (contract (w.forCall tape i) w.heap.size i.args ds gs before hsh hval hw' hc (hz.weights hw) (hX _ _ _ (by rfl) hx)).mono fun e W' ⟨v, he, hp⟩ => ?_
 subst he
 exact ChangeSpec.post_blind hp
theorem Q44 {P : Program} {f : FuncId} {As : List Ty} {b : Bool} (W : World) (h : CtM (Uv W) 0 P f As [] Unit (fun _ => IsV (.bool b)) (fun _ => []) (fun _ => True)) {args : List Value} (ha : J9 (Uv W) As args) :
 Calls P f args.toArray W fun e W' => e = .returned (.bool b) ∧ Below W.heap.size W W' := by
 refine (h (Uv W) W args (Sub.refl _) (Nat.zero_le _) (Qrc W) ha ⟨fun _ h => by simp at h, by simp [X9], fun g hg => by simp [X9] at hg⟩).mono fun e W' hp => ?_
 obtain ⟨r, v, H', he, _, s, hv, _⟩ := hp
 have hv' : v = .bool b := hv
 subst hv'
 exact ⟨he, s.os, s.tape, s.output, s.size, fun k hk => s.keep k hk (by simp [X9])⟩
def Qfc {α : Type} (P : Program) (t : TypeId) (d : Kd α) (good : α → Prop) : Prop :=
 ∀ (Hh : Type) (enc : TypeId × Value → Hh) (w : World) (fuel : Nat) (cs : List Value) (x : DataW Hh × List MemPlace), DataW.trod enc P w 0 (fun _ => true) true fuel t cs = some x → (∀ n ∈ x.1.weights P t, n ≤ reachBytes) → ∃ v, d.K (Uv w) v cs ∧ good v
theorem Opn.w {α : Type} {P : Program} {t : TypeId} {d : Kd α} {good : α → Prop} (h : Opn P t d good) : Qfc P t d good := fun Hh enc w fuel cs x hx _ => h Hh enc w fuel cs x hx
theorem Q45 {P : Program} {t : TypeId} (ht : P.underlying t = some .string) : Qfc P t kS (fun l => l.length ≤ reachBytes) := fun Hh enc w fuel cs x h hw => by
 obtain ⟨n, rfl, hx, hs⟩ := DataW.trod_string ht h
 refine ⟨n.data.toList, ?_, ?_⟩
 · show _ = [Value.string (bs n.data.toList)]
   rw [Q1t]
 subst hx
 exact hw _ (by simp [DataW.weights])
end Go.Gw
namespace Go.Gw
open Go
def Qkk (l : List Oper) (ps : List Nat) (i : Nat) (c : List Bool) : Bool := (ps.zip c).all fun x => cond x.2 (!((X0 l []).getD x.1 0).testBit i && !(Nat.beq i x.1) && (ps.zip c).all fun y => y.2 || !((X0 l []).getD x.1 0).testBit y.1) (!((X0 l []).getD i 0).testBit x.1)
def Qhu : Nat → List (List Bool)
 | 0 => [[]]
 | n + 1 => (Qhu n).flatMap fun c => [false :: c, true :: c]
def Qu2 (l : List Oper) (ps : List Nat) (i : Nat) : List (List Bool) := (Qhu ps.length).filter (Qkk l ps i)
def Qu3 (ps : List Nat) (i : Nat) (c : List Bool) : List Bool := List.zipWith (fun p x => x || Nat.beq i p) ps c
def Q2n (P : List Bool → Prop) : List (List Bool) → Prop
 | [] => True
 | c :: cs => P c ∧ Q2n P cs
def Q2o (P : Nat → Prop) : List Nat → Prop
 | [] => True
 | c :: cs => P c ∧ Q2o P cs
theorem Qlz {P : Nat → Prop} : ∀ {cs : List Nat}, Q2o P cs → ∀ c ∈ cs, P c
 | _ :: _, h, _, .head _ => h.1
 | _ :: _, h, c, .tail _ hc => Qlz h.2 c hc
theorem Ql0 {P : List Bool → Prop} : ∀ {cs : List (List Bool)}, Q2n P cs → ∀ c ∈ cs, P c
 | _ :: _, h, _, .head _ => h.1
 | _ :: _, h, c, .tail _ hc => Ql0 h.2 c hc
theorem Qeb : ∀ c : List Bool, c ∈ Qhu c.length
 | [] => .head _
 | x :: c => List.mem_flatMap.2 ⟨c, Qeb c, by cases x <;> simp⟩
theorem Qu4 (ps : List Nat) (b : Nat → Bool) : ps.zip (ps.map b) = ps.map fun p => (p, b p) := by
 induction ps with
 | nil => rfl
 | cons p ps ih => simp only [List.map_cons, List.zip_cons_cons, ih]
theorem Qr3 (ps : List Nat) (i : Nat) (b : Nat → Bool) : Qu3 ps i (ps.map b) = ps.map fun p => b p || Nat.beq i p := by
 unfold Qu3
 induction ps with
 | nil => rfl
 | cons p ps ih => simp only [List.map_cons, List.zipWith_cons_cons, ih]
def OpS (C : Cx) (Γ : Env) {ρ : Type} (Lf : List Bool → ρ → List It) (ps : List Nat) (all : List Oper) (ops : Array Oper) (Ts : ρ → List Ty) (ψ : List Bool → ρ → Prop) (ups : Nat → ρ → ρ → Prop) (i : Nat) (o : Oper) (n : Vo) : Prop :=
 (∃ cs, Qu2 all ps i = cs ∧ Q2n (fun c => ∀ r, ψ c r → Qt8 C (U3 Γ (Ts r) n) (Lf c r) (fun r' => Lf (Qu3 ps i c) r') (fun r' => ψ (Qu3 ps i c) r' ∧ cond (ps.elem i) (ups i r r') (r' = r)) ops o (fun r' => (Ts r').getD i Yr)) cs) ∧
 (Q2o (fun p => (((X0 all []).getD i 0).testBit p || Nat.beq i p) = false → ∀ r r', ups p r r' → (Ts r).getD i Yr = (Ts r').getD i Yr) ps)
def Qgg (C : Cx) (Γ : Env) {ρ : Type} (Lf : List Bool → ρ → List It) (ps : List Nat) (all : List Oper) (ops : Array Oper) (Ts : ρ → List Ty) (ψ : List Bool → ρ → Prop) (ups : Nat → ρ → ρ → Prop) : Nat → List Oper → List Vo → Prop
 | i, o :: l, n :: ns => OpS C Γ Lf ps all ops Ts ψ ups i o n ∧ Qgg C Γ Lf ps all ops Ts ψ ups (i + 1) l ns
 | _, _, [] => True
 | _, [], _ :: _ => False
theorem Qec {C : Cx} {Γ : Env} {ρ : Type} {Lf : List Bool → ρ → List It} {ps : List Nat} {all : List Oper} {ops : Array Oper} {Ts : ρ → List Ty} {ψ : List Bool → ρ → Prop} {ups : Nat → ρ → ρ → Prop} : ∀ {n : Nat} {l : List Oper} {ns : List Vo}, Qgg C Γ Lf ps all ops Ts ψ ups n l ns → ∀ i, i < ns.length → ∃ o, l[i]? = some o ∧ OpS C Γ Lf ps all ops Ts ψ ups (n + i) o (ns.getD i [])
 | n, o :: l, m :: ns, h, 0, _ => ⟨o, rfl, h.1⟩
 | n, o :: l, m :: ns, h, i + 1, hi => by
  obtain ⟨o', h1, h2⟩ := Qec h.2 i (by simpa using hi)
  exact ⟨o', by simpa using h1, by rw [Nat.add_right_comm, Nat.add_assoc] at h2; simpa using h2⟩
 | _, [], [], _, i, hi => by simp at hi
 | _, _ :: _, [], _, i, hi => by simp at hi
theorem Qhv {C : Cx} {Γ : Env} {ρ : Type} {Lf : List Bool → ρ → List It} {ps : List Nat} {all : List Oper} {ops : Array Oper} {Ts : ρ → List Ty} {ψ : List Bool → ρ → Prop} {ups : Nat → ρ → ρ → Prop} {l : List Oper} {ns : List Vo} (h : Qgg C Γ Lf ps all ops Ts ψ ups 0 l ns) (i : Nat) (hi : i < ns.length) : ∃ o, l[i]? = some o ∧ OpS C Γ Lf ps all ops Ts ψ ups i o (ns.getD i []) := by
 have := Qec h i hi
 simpa using this
theorem Z7 {C : Cx} {Γ : Env} {L R : List It} {ops : Array Oper} {J : List It} {o : Oper} {ρ ρ0 : Type} {T : ρ0 → Ty} {I : ρ0 → List It} {φ : ρ0 → Prop} {ψ : ρ → Prop} {T' : ρ → Ty} {L' : ρ → List It} (g : ρ0 → ρ) (hg : o.guard = none) (hp : Yk C Γ L o J ρ0 T I φ) (hL : List.Perm L (J ++ R)) (hL' : ∀ r, List.Perm (I r ++ R) (L' (g r))) (hψ : ∀ r, φ r → ψ (g r)) (hT : ∀ r, φ r → ∀ H v, (T r).p H v → (T' (g r)).p H v) : Qt8 C Γ L L' ψ ops o T' := fun a w H f s ow Q K hK =>
 Zf (L' := fun r => L' (g r)) (ψ := fun r => ψ (g r)) (T' := fun r => T' (g r)) hg hp hL hL' hψ hT a w H f s ow Q K fun r v w' H' hφ => hK (g r) v w' H' hφ
section
variable {C : Cx} {Γ : Env} {L : List It} {Q : Exit → Act → World → Prop} {l : List Oper} {ns : List Vo} {ρ : Type} {Ts : ρ → List Ty} {ψ : List Bool → ρ → Prop} {ups : Nat → ρ → ρ → Prop} {m : Nat}
structure Q4i {ρ : Type} (C : Cx) (Γ : Env) (Lf : List Bool → ρ → List It) (ps : List Nat) (l : List Oper) (Ts : ρ → List Ty) (ψ : List Bool → ρ → Prop) (m : Nat) (r : ρ) (b : Nat → Bool) (a : Act) (w : World) (H : FH) : Prop where
 defers : a.defers = []
 size : a.tmps.size = C.N
 st : St C.M C.H0 C.w0 H w
 ow : Xr C.ok w H (Lf (ps.map b) r)
 phi : ψ (ps.map b) r
 old : ∀ t T, find Γ t = some T → (∀ k, k < l.length → Zz l k = some t → b k = false) → T.p H (a.tmps.getD t undef)
 got : ∀ k t, k < m → b k = true → Zz l k = some t → ((Ts r).getD k Yr).p H (a.tmps.getD t undef)
theorem Qaw {Lf : List Bool → ρ → List It} {r : ρ} {ps : List Nat} {i : Nat} {b : Nat → Bool} {a : Act} {w : World} {H : FH} (hI : Q4i C Γ Lf ps l Ts ψ m r b a w H) (him : i < m) (hlen : m ≤ l.length) (hi : b i = false) (hm : ∀ j, ((X0 l []).getD i 0).testBit j = true → b j = true) (hcl : ∀ k, k < l.length → b k = true → ∀ j, ((X0 l []).getD k 0).testBit j = true → b j = true) (hlt : ∀ j, ((X0 l []).getD i 0).testBit j = true → j < i) :
 ∀ {n : Vo}, Jt l (X0 l []) i n = true → Fits C.N (U3 Γ (Ts r) n) H a
 | [], _ => ⟨hI.defers, hI.size, fun t T h => by cases h⟩
 | (t, none) :: nr, h => by
  simp only [Jt, Bool.and_eq_true] at h
  refine Ym ?_ (Qaw hI him hlen hi hm hcl hlt h.2)
  cases hf : find Γ t with
  | none => exact trivial
  | some T =>
   refine hI.old t T hf fun k hk hd => ?_
   have h1 := List.all_eq_true.1 h.1 k (List.mem_range.2 hk)
   simp only [hd, beq_self_eq_true, Bool.not_true, Bool.false_or, Bool.or_eq_true] at h1
   rcases h1 with h1 | h1
   · rw [Nat.eq_of_beq_eq_true h1]; exact hi
   cases hb : b k with
   | false => rfl
   | true => have := hcl k hk hb i h1; rw [hi] at this; cases this
 | (t, some j) :: nr, h => by
  simp only [Jt, Bool.and_eq_true, beq_iff_eq] at h
  refine Ym ?_ (Qaw hI him hlen hi hm hcl hlt h.2)
  exact hI.got j t (by have := hlt j h.1.2; omega) (hm j h.1.2) h.1.1
theorem Qp6 {id : Nat} {ps : List Nat} {Lf : List Bool → ρ → List It} (r0 : ρ) (hψ0 : ψ (ps.map fun _ => false) r0) (hp : ps.all (fun p => Nat.ble (p + 1) m) = true) (hm : C.P.follows .mixedOrders = true) (hok : Qfp C.N l m ns = true) (hT : ∀ r, (Ts r).length = m) (hops : Qgg C Γ Lf ps l l.toArray Ts ψ ups 0 l ns) (h : ∀ r, ψ (ps.map fun _ => true) r → Tr C (Uu (l.take m) (Ts r) Γ) (Lf (ps.map fun _ => true) r) (wpList C.P l.toArray Q (l.drop m))) : Tr C Γ (Lf (ps.map fun _ => false) r0) ((Code.region id l.toArray true).wp C.P Q) := by
 simp only [Qfp, Bool.and_eq_true, decide_eq_true_eq] at hok
 obtain ⟨⟨⟨hok1, hnd⟩, hnl⟩, hml⟩ := hok
 have hml : m ≤ l.length := Nat.le_of_ble_eq_true hml
 have hpm : ∀ p ∈ ps, p < m := fun p hp' => Nat.le_of_ble_eq_true (List.all_eq_true.1 hp p hp')
 have hrow : ∀ k o, l[k]? = some o → (∀ e ∈ Jo o, e < k) ∧ (o.dst.all fun d => decide (d < C.N)) = true ∧ (k < m → Jt l (X0 l []) k (ns.getD k []) = true) ∧ (m ≤ k → ∀ j, j < k → ((X0 l []).getD k 0).testBit j = true) := by
  intro k o ho
  have hk := (List.getElem?_eq_some_iff.1 ho).1
  have h1 := List.all_eq_true.1 hok1 k (List.mem_range.2 hk)
  rw [ho] at h1
  simp only [Bool.and_eq_true, List.all_eq_true, decide_eq_true_eq] at h1
  refine ⟨h1.1.1, h1.1.2, fun hkm => ?_, fun hkm j hj => ?_⟩
  · have h2 := h1.2; rw [if_pos hkm] at h2; exact h2
  have h2 := h1.2; rw [if_neg (by omega)] at h2; exact List.all_eq_true.1 h2 j (List.mem_range.2 hj)
 have hpos : ∀ k o, l[k]? = some o → ∀ e ∈ Jo o, e < k := fun k o ho => (hrow k o ho).1
 have hlt : ∀ i, i < l.length → ∀ j, ((X0 l []).getD i 0).testBit j = true → j < i := by
  intro i
  induction i using Nat.strongRecOn with
  | _ i ih =>
   intro hi j hj
   have ho : l[i]? = some l[i] := List.getElem?_eq_getElem hi
   have hm' := U1 l [] i _ ho
   simp only [List.length_nil, Nat.zero_add] at hm'
   rw [List.getD_eq_getElem?_getD, hm', Option.getD_some] at hj
   obtain ⟨e, he, h⟩ := U2 hj
   have hei := hpos i _ ho e he
   rcases h with rfl | h
   · exact hei
   rw [List.getD_eq_getElem?_getD, List.getElem?_take, if_pos hei, ← List.getD_eq_getElem?_getD] at h
   have := ih e hei (by omega) j h
   omega
 intro a w H f s ow
 refine wp_region_any hm ?_
 have main : ∀ (fuel : Nat) (listed : Array Bool) (a : Act) (w : World) (H : FH) (r : ρ), listed.size = l.length → ((List.range l.length).filter fun i => !listed.getD i true).length ≤ fuel →
  (∀ i, m ≤ i → i < l.length → listed.getD i true = false) → Qak l (fun j => listed.getD j false) → Q4i C Γ Lf ps l Ts ψ m r (fun j => listed.getD j false) a w H → wpAny C.P .any l.toArray Q fuel listed a w := by
  intro fuel
  induction fuel with
  | zero =>
   intro listed a w H r hs hf hsuf hc hI
   have hall : ∀ i, i < l.length → listed.getD i true = true := by
    intro i hi
    cases hb : listed.getD i true with
    | true => rfl
    | false =>
     have : i ∈ (List.range l.length).filter fun i => !listed.getD i true := List.mem_filter.2 ⟨List.mem_range.2 hi, by rw [hb]; rfl⟩
     have h0 : (List.range l.length).filter (fun i => !listed.getD i true) = [] := List.eq_nil_of_length_eq_zero (by omega)
     rw [h0] at this; cases this
   have hmn : m = l.length := by
    rcases Nat.lt_or_ge m l.length with h1 | h1
    · have h2 := hsuf m (Nat.le_refl _) h1; rw [hall m h1] at h2; cases h2
    omega
   have hpd : (ps.map fun j => listed.getD j false) = ps.map fun _ => true := List.map_congr_left fun p hp' => by
    have := hall p (by have := hpm p hp'; omega); have h8 : p < listed.size := by have := hpm p hp'; omega
    simp [Array.getD_eq_getD_getElem?, Array.getElem?_eq_getElem h8] at this ⊢; exact this
   refine Va (m := m) (b := listed) hpos (fun k h1 h2 => (hrow k _ (List.getElem?_eq_getElem h2)).2.2.2 h1) 0 l.length listed a w (by omega) (Nat.le_refl _) hs (by omega) hall (fun i h1 h2 => by omega) ?_
   refine (by have h5 := h r (hpd ▸ hI.phi); rw [hmn] at h5; exact h5 : Tr C (Uu (l.take l.length) (Ts r) Γ) (Lf (ps.map fun _ => true) r) (wpList C.P l.toArray Q (l.drop l.length))) a w H ⟨hI.defers, hI.size, fun t T e => ?_⟩ hI.st (by have := hI.ow; rw [hpd] at this; exact this)
   rw [List.take_length] at e
   rcases Y5 l (Ts r) Γ t T (by rw [hT, hmn]) e with ⟨k, hk, hd, rfl⟩ | ⟨h1, h2⟩
   · exact hI.got k t (by omega) (by have := hall k hk; have h8 : k < listed.size := by omega
                                     simp [Array.getD_eq_getD_getElem?, Array.getElem?_eq_getElem h8] at this ⊢; exact this) hd
   exact hI.old t T h1 fun k hk hd => absurd hd (h2 k hk)
  | succ fuel ih =>
   intro listed a w H r hs hf hsuf hc hI
   by_cases hpre : ∀ i, i < m → listed.getD i true = true
   · -- the open part is done
     have hpd : (ps.map fun j => listed.getD j false) = ps.map fun _ => true := List.map_congr_left fun p hp' => by
      have := hpre p (hpm p hp'); have h8 : p < listed.size := by have := hpm p hp'; omega
      simp [Array.getD_eq_getD_getElem?, Array.getElem?_eq_getElem h8] at this ⊢; exact this
     refine Va (m := m) (b := listed) hpos (fun k h1 h2 => (hrow k _ (List.getElem?_eq_getElem h2)).2.2.2 h1) (fuel + 1) m listed a w (Nat.le_refl _) hml hs ?_ hpre hsuf ?_
     · have : (List.range' m (l.length - m)).length ≤ ((List.range l.length).filter fun i => !listed.getD i true).length := by
        refine List.Sublist.length_le (l₁ := List.range' m (l.length - m)) ?_
        have e1 : (List.range l.length).filter (fun i => !listed.getD i true) = List.range' m (l.length - m) := by
         have e2 : List.range l.length = List.range' 0 m ++ List.range' m (l.length - m) := by
          rw [List.range_eq_range', show l.length = m + (l.length - m) from by omega, ← List.range'_append]
          simp
         rw [e2, List.filter_append]
         have e3 : (List.range' 0 m).filter (fun i => !listed.getD i true) = [] := by
          rw [List.filter_eq_nil_iff]
          intro i hi
          have := (List.mem_range'_1.1 hi).2
          rw [hpre i (by omega)]; simp
         have e4 : (List.range' m (l.length - m)).filter (fun i => !listed.getD i true) = List.range' m (l.length - m) := by
          rw [List.filter_eq_self]
          intro i hi
          have := List.mem_range'_1.1 hi
          rw [hsuf i (by omega) (by omega)]; rfl
         rw [e3, e4, List.nil_append]
        rw [e1]
        exact List.Sublist.refl _
       rw [List.length_range'] at this
       omega
     refine h r (hpd ▸ hI.phi) a w H ⟨hI.defers, hI.size, fun t T e => ?_⟩ hI.st (by have := hI.ow; rw [hpd] at this; exact this)
     rcases Y5 (l.take m) (Ts r) Γ t T (by rw [hT, List.length_take]; omega) e with ⟨k, hk, hd, rfl⟩ | ⟨h1, h2⟩
     · rw [List.length_take] at hk
       refine hI.got k t (by omega) ?_ (by unfold Zz at hd ⊢; rw [List.getElem?_take, if_pos (by omega)] at hd; exact hd)
       have := hpre k (by omega)
       have h8 : k < listed.size := by omega
       simp [Array.getD_eq_getD_getElem?, Array.getElem?_eq_getElem h8] at this ⊢; exact this
     refine hI.old t T h1 fun k hk hd => ?_
     rcases Nat.lt_or_ge k m with h3 | h3
     · exact absurd (by unfold Zz at hd ⊢; rw [List.getElem?_take, if_pos h3]; exact hd) (h2 k (by rw [List.length_take]; omega))
     have := hsuf k h3 hk
     have h8 : k < listed.size := by omega
     simp [Array.getD_eq_getD_getElem?, Array.getElem?_eq_getElem h8] at this ⊢; exact this
   refine ⟨fun hr => ?_, fun i hi => ?_⟩
   · -- something is always ready
     exfalso
     have hex : ∃ i, i < l.length ∧ listed.getD i true = false := by
      apply Classical.byContradiction
      intro hno
      refine hpre fun i hi => ?_
      cases hb : listed.getD i true with
      | true => rfl
      | false => exact absurd ⟨i, by omega, hb⟩ hno
     have hmin : ∀ n i, i < n → i < l.length → listed.getD i true = false → ∃ j, j < l.length ∧ listed.getD j true = false ∧ ∀ k, k < j → listed.getD k true = true := by
      intro n
      induction n with
      | zero => intro i h; omega
      | succ n ihn =>
       intro i hi hl hb
       by_cases hk : ∀ k, k < i → listed.getD k true = true
       · exact ⟨i, hl, hb, hk⟩
       have : ∃ k, k < i ∧ listed.getD k true = false := by
        apply Classical.byContradiction
        intro hno
        refine hk fun k hki => ?_
        cases hbk : listed.getD k true with
        | true => rfl
        | false => exact absurd ⟨k, hki, hbk⟩ hno
       obtain ⟨k, hk1, hk2⟩ := this
       exact ihn k (by omega) (by omega) hk2
     obtain ⟨i, hi, hb⟩ := hex
     obtain ⟨j, hj1, hj2, hj3⟩ := hmin (i + 1) i (by omega) hi hb
     have : j ∈ Region.ready .any l.toArray listed := by
      unfold Region.ready
      rw [List.mem_filter]
      refine ⟨by simpa using hj1, ?_⟩
      rw [hj2]
      have ho : l[j]? = some l[j] := List.getElem?_eq_getElem hj1
      simp only [List.getElem?_toArray, ho, Option.map_some, Option.getD_some, Bool.not_false, Bool.true_and]
      rw [← Array.all_toList, List.all_eq_true]
      intro e he
      by_cases hbe : Region.binds .any e = true
      · have hmem : e.on ∈ Jo l[j] := List.mem_map.2 ⟨e, List.mem_filter.2 ⟨he, hbe⟩, rfl⟩
        have h3 := hj3 e.on (hpos j _ ho _ hmem)
        have h4 : e.on < listed.size := by have := hpos j _ ho _ hmem; omega
        simp [Array.getD_eq_getD_getElem?, Array.getElem?_eq_getElem h4] at h3 ⊢
        simp [h3]
      simp [hbe]
     rw [hr] at this; cases this
   unfold Region.ready at hi
   rw [List.mem_filter] at hi
   obtain ⟨hi1, hi2⟩ := hi
   have hil : i < l.length := by simpa using hi1
   simp only [Bool.and_eq_true, Bool.not_eq_true'] at hi2
   have ho : l[i]? = some l[i] := List.getElem?_eq_getElem hil
   have hr : ∀ e ∈ Jo l[i], (fun j => listed.getD j false) e = true := by
    intro e he
    obtain ⟨ed, hed, rfl⟩ := List.mem_map.1 he
    rw [List.mem_filter] at hed
    have h4 := hi2.2
    simp only [List.getElem?_toArray, ho, Option.map_some, Option.getD_some, ← Array.all_toList, List.all_eq_true] at h4
    have h5 := h4 ed hed.1
    simpa [hed.2] using h5
   have hbi : (fun j => listed.getD j false) i = false := by
    have h8 : i < listed.size := by omega
    have := hi2.1
    simp [Array.getD_eq_getD_getElem?, Array.getElem?_eq_getElem h8] at this ⊢; exact this
   have hmk := V6 hc ho hr
   have him : i < m := by
    rcases Nat.lt_or_ge i m with h1 | h1
    · exact h1
    exfalso
    refine hpre fun j hj => ?_
    have := hmk j ((hrow i _ ho).2.2.2 h1 j (by omega))
    have h8 : j < listed.size := by omega
    simp [Array.getD_eq_getD_getElem?, Array.getElem?_eq_getElem h8] at this ⊢; exact this
   obtain ⟨o, ho2, hop⟩ := Qhv hops i (by omega)
   have hoo : o = l[i] := by rw [ho] at ho2; exact (Option.some.inj ho2).symm
   subst hoo
   have hcl : ∀ k, k < l.length → listed.getD k false = true → ∀ j, ((X0 l []).getD k 0).testBit j = true → listed.getD j false = true := fun k hk hb j hj => W9 hc (k + 1) k (by omega) hk hb j hj
   have hfit := Qaw hI him hml hbi hmk hcl (hlt i hil) ((hrow i _ ho).2.2.1 him)
   have hfl : Qkk l ps i (ps.map fun j => listed.getD j false) = true := by
    unfold Qkk
    rw [Qu4, List.all_map, List.all_eq_true]
    intro p hp'
    show cond (listed.getD p false) _ _ = true
    cases hbp : listed.getD p false with
    | false =>
     simp only [cond_false, Bool.not_eq_true']
     cases hq : ((X0 l []).getD i 0).testBit p with
     | false => rfl
     | true => have h8 := hmk p hq; exact absurd (h8.symm.trans hbp) (by simp)
    | true =>
     simp only [cond_true, Bool.and_eq_true, Bool.not_eq_true']
     refine ⟨⟨?_, ?_⟩, ?_⟩
     · cases hq : ((X0 l []).getD p 0).testBit i with
       | false => rfl
       | true => have h8 := hcl p (by have := hpm p hp'; omega) hbp i hq; exact absurd (h8.symm.trans hbi) (by simp)
     · cases hq : Nat.beq i p with
       | false => rfl
       | true => have h8 := Nat.eq_of_beq_eq_true hq; subst h8; exact absurd (hbp.symm.trans hbi) (by simp)
     rw [List.all_map, List.all_eq_true]
     intro q hq'
     show (listed.getD q false || !((X0 l []).getD p 0).testBit q) = true
     cases hq : ((X0 l []).getD p 0).testBit q with
     | false => simp
     | true => rw [show listed.getD q false = true from hcl p (by have := hpm p hp'; omega) hbp q hq]; rfl
   obtain ⟨⟨cs, hcs, hall⟩, hcoh⟩ := hop
   have hcm : (ps.map fun j => listed.getD j false) ∈ cs := by
    rw [← hcs]
    refine List.mem_filter.2 ⟨?_, hfl⟩
    have := Qeb (ps.map fun j => listed.getD j false)
    rwa [List.length_map] at this
   have hnew : (ps.map fun p => (listed.setIfInBounds i true).getD p false) = Qu3 ps i (ps.map fun j => listed.getD j false) := by
    rw [Qr3]
    refine List.map_congr_left fun p _ => ?_
    simp only [Array.getD_eq_getD_getElem?, Array.getElem?_setIfInBounds]
    by_cases hip : i = p
    · subst hip; simp [show i < listed.size from by omega]
    have : Nat.beq i p = false := by
     cases hb : Nat.beq i p with
     | false => rfl
     | true => exact absurd (Nat.eq_of_beq_eq_true hb) hip
    simp [hip, this]
   have hop2 := (Ql0 hall _ hcm r hI.phi) a w H hfit hI.st hI.ow Q (wpAny C.P .any l.toArray Q fuel (listed.setIfInBounds i true)) ?_
   · unfold wpOp
     have : l.toArray[i]? = some l[i] := by simp
     rw [this]
     simp only
     split
     · rename_i hw; rw [if_pos hw] at hop2; exact .inl hop2
     rename_i hw; rw [if_neg hw] at hop2; exact hop2
   intro r' v w' H' hφ' hsub hst' how' hv
   refine ih _ _ w' H' r' (by simpa using hs) ?_ ?_ ?_ ?_
   · have : ((List.range l.length).filter fun j => !(listed.setIfInBounds i true).getD j true).length < ((List.range l.length).filter fun j => !listed.getD j true).length := by
      have hsub : (List.range l.length).filter (fun j => !(listed.setIfInBounds i true).getD j true) = ((List.range l.length).filter fun j => !listed.getD j true).filter (fun j => !(Nat.beq i j)) := by
       rw [List.filter_filter]
       apply List.filter_congr
       intro j hj
       simp only [Array.getD_eq_getD_getElem?, Array.getElem?_setIfInBounds]
       by_cases hij : i = j
       · subst hij; simp [show i < listed.size from by omega]
       have : Nat.beq i j = false := by
        cases hb : Nat.beq i j with
        | false => rfl
        | true => exact absurd (Nat.eq_of_beq_eq_true hb) hij
       simp [hij, this]
      rw [hsub]
      have hmem : i ∈ (List.range l.length).filter fun j => !listed.getD j true := List.mem_filter.2 ⟨List.mem_range.2 hil, by rw [hi2.1]; rfl⟩
      exact List.length_filter_lt_length_iff_exists.2 ⟨i, hmem, by simp⟩
     omega
   · intro j hj hjl
     have := hsuf j hj hjl
     simp only [Array.getD_eq_getD_getElem?] at this
     simp only [Array.getD_eq_getD_getElem?, Array.getElem?_setIfInBounds]
     simp [show ¬ i = j from by omega, this]
   · intro k o' ho' hb' e he
     simp only [Array.getD_eq_getD_getElem?, Array.getElem?_setIfInBounds] at hb' ⊢
     by_cases hie : i = e
     · subst hie; simp [show i < listed.size from by omega]
     simp only [if_neg hie]
     have h8 : ∀ e, (listed[e]?).getD false = listed.getD e false := fun e => by simp [Array.getD_eq_getD_getElem?]
     rw [h8]
     by_cases hik : i = k
     · subst hik
       have : l[i] = o' := by rw [ho] at ho'; exact Option.some.inj ho'
       subst this
       exact hr e he
     simp only [if_neg hik] at hb'
     rw [h8] at hb'
     exact hc k o' ho' hb' e he
   have hdd : ∀ t, (a.put l[i].dst v).tmps.getD t undef = if l[i].dst = some t then v else a.tmps.getD t undef := by
    intro t
    cases hd : l[i].dst with
    | none => simp [Act.put]
    | some d =>
     rw [Qbg]
     have hdN : d < C.N := by
      have := (hrow i _ ho).2.1
      rw [hd] at this; simpa using this
     by_cases hdt : d = t
     · subst hdt; simp [hI.size, hdN]
     simp [hdt]
   refine ⟨?_, ?_, hst', ?_, ?_, ?_, ?_⟩
   · cases hd : l[i].dst <;> simp [Act.put, hI.defers]
   · cases hd : l[i].dst <;> simp [Act.put, hI.size]
   · rw [hnew]; exact how'
   · rw [hnew]; exact hφ'.1
   · intro t T hf hall
     have hbt : ∀ k, k < l.length → Zz l k = some t → listed.getD k false = false ∧ k ≠ i := by
      intro k hk hd
      have := hall k hk hd
      simp only [Array.getD_eq_getD_getElem?, Array.getElem?_setIfInBounds] at this ⊢
      by_cases hik : i = k
      · subst hik; simp [show i < listed.size from by omega] at this
      simp [hik] at this; exact ⟨this, fun e => hik e.symm⟩
     have hne : ¬ l[i].dst = some t := fun e => (hbt i hil (by simp [Zz, ho, e])).2 rfl
     rw [hdd, if_neg hne]
     exact T.mono hsub (hI.old t T hf fun k hk hd => (hbt k hk hd).1)
   intro k t hkm hb hd
   rw [hdd]
   simp only [Array.getD_eq_getD_getElem?, Array.getElem?_setIfInBounds] at hb
   by_cases hik : i = k
   · subst hik
     have : l[i].dst = some t := by simpa [Zz, ho] using hd
     rw [if_pos this]
     exact hv
   simp only [if_neg hik] at hb
   have hb' : listed.getD k false = true := by simpa [Array.getD_eq_getD_getElem?] using hb
   have hne : ¬ l[i].dst = some t := by
    intro e
    have h1 : (l.take m)[i]? = some l[i] := by rw [List.getElem?_take, if_pos him]; exact ho
    have hkl : k < l.length := by omega
    have h2 : (l.take m)[k]? = some l[k] := by rw [List.getElem?_take, if_pos hkm]; exact List.getElem?_eq_getElem hkl
    have h3 : l[k].dst = some t := by simpa [Zz, List.getElem?_eq_getElem hkl] using hd
    exact hik (Ye.nodup_filterMap hnd h1 h2 e h3)
   rw [if_neg hne]
   have hgot := hI.got k t hkm hb' hd
   have hcohk : (Ts r).getD k Yr = (Ts r').getD k Yr := by
    have hφ2 := hφ'.2
    cases hip : ps.elem i with
    | false => rw [hip] at hφ2; rw [show r' = r from hφ2]
    | true =>
     rw [hip] at hφ2
     obtain ⟨o3, _, hop3⟩ := Qhv hops k (by omega)
     refine Qlz hop3.2 i (List.elem_iff.1 hip) ?_ r r' hφ2
     rw [Bool.or_eq_false_iff]
     refine ⟨?_, ?_⟩
     · cases hq : ((X0 l []).getD k 0).testBit i with
       | false => rfl
       | true => have h8 := hcl k (by omega) hb' i hq; exact absurd (h8.symm.trans hbi) (by simp)
     cases hq : Nat.beq k i with
     | false => rfl
     | true => exact absurd (Nat.eq_of_beq_eq_true hq).symm hik
   rw [← hcohk]
   exact ((Ts r).getD k Yr).mono hsub hgot
 refine main l.length (Array.replicate l.length false) a { w with drawn := w.drawn + 1 } H r0 (by simp) (by
  refine Nat.le_trans (List.length_filter_le _ _) (by simp)) (fun i _ hi => by simp [Array.getD_eq_getD_getElem?, hi]) ?_ ?_ |> fun h => by simpa using h
 · intro k o ho hb e he
   simp [Array.getD_eq_getD_getElem?, Array.getElem?_replicate] at hb
   split at hb <;> simp at hb
 have e0 : (ps.map fun j => (Array.replicate l.length false).getD j false) = ps.map fun _ => false := List.map_congr_left fun p _ => by simp only [Array.getD_eq_getD_getElem?, Array.getElem?_replicate]; split <;> rfl
 refine ⟨f.defers, f.size, ⟨s.sub, fun k o e => s.on k o e, s.os, s.tape, s.output, s.size, s.keep, s.new⟩, ?_, by rw [e0]; exact hψ0, fun t T hf _ => f.get t T hf, fun k t _ hb => ?_⟩
 · rw [e0]
   exact ⟨fun i hi => i.st (w := w) (w' := { w with drawn := w.drawn + 1 }) (fun _ _ => rfl) (Sub.refl _) (ow.all i hi), ow.nodup, ow.own⟩
 simp [Array.getD_eq_getD_getElem?, Array.getElem?_replicate] at hb
 split at hb <;> simp at hb
end
end Go.Gw
namespace Go.Gw
open Go
section
variable {C : Cx} {Γ : Env} {L R : List It}
variable {dst : Option Tmp} {ty : TypeId} {pos : String} {after : Array Edge} {guard : Option (Nat × Bool)} {x y z : Operand}
def Qp7 (v : Value) : Value := match v with
 | .slice (some a) _ _ => .pointer (some a)
 | .slice none _ _ => .pointer none
 | _ => undef
theorem Qu5 {t el : TypeId} {v : Value} {xs : List Int} (hx : OT C.N Γ x (IsV v)) (hm : Qg el (Jm .u8) v xs ∈ L) (h0 : xs = [] → v = Qn) : Pure C Γ L ⟨dst, .call ⟨.builtin .unsafeSliceData, #[x], #[t]⟩, ty, pos, after, guard⟩ (IsV (Qp7 v)) := fun a w H f s ow => by
 have hv : a.eval x = v := hx a H f
 obtain ⟨inner, ⟨h2, h3⟩, hR⟩ := ow.all _ hm
 rcases h3 with ⟨rfl, h4⟩ | ⟨g, cap, cur, rfl, _, _, hc, _⟩
 · exact ⟨.pointer none, by simp [execOp, resolve, invoke, builtin, hv, Lib.run_unsafeSliceData_nil], rfl⟩
 have hne : xs ≠ [] := fun e => by cases h0 e
 have hl : 0 < xs.length := List.length_pos_iff.2 hne
 exact ⟨.pointer (some ⟨g, 0, none⟩), by simp [execOp, resolve, invoke, builtin, hv, Lib.run_unsafeSliceData_row (P := C.P) (w := w) #[t] ty ⟨g, 0, none⟩ xs.length cap (by omega)], rfl⟩
theorem Qkl {w : World} {g n k : Nat} (hk : k ≠ g) : (w.freeze ⟨g, 0, none⟩ n).heap[k]? = w.heap[k]? := by
 unfold World.freeze
 split
 · rfl
 simp only [Array.getElem?_modify]; rw [if_neg (Ne.symm hk)]
theorem Ql1 {w : World} {g n : Nat} : (w.freeze ⟨g, 0, none⟩ n).heap.size = w.heap.size := by
 unfold World.freeze
 split
 · rfl
 simp
theorem Qed {pt it el : TypeId} {v : Value} {l : List UInt8} (hx : OT C.N Γ x (IsV (Qp7 v))) (hy : OT C.N Γ y (I64 (l.length : Int))) (hp : List.Perm L (Qg el (Jm .u8) v (Yh l) :: R)) (ht : C.P.underlying pt = some (.pointer el)) (hc : C.P.cellsOf el = 1) :
 Yk C Γ L ⟨dst, .call ⟨.builtin .unsafeString, #[x, y], #[pt, it]⟩, ty, pos, after, guard⟩ [Qg el (Jm .u8) v (Yh l)] Unit (fun _ => BsT l) (fun _ => []) (fun _ => True) := by
 intro a w H f s ow Q K hK
 have o' := ow.perm hp
 obtain ⟨inner, hown, hR⟩ := o'.all _ List.mem_cons_self
 have hxv : a.eval x = Qp7 v := hx a H f
 have hyv : a.eval y = .int .i64 l.length := hy a H f
 by_cases hl : l = []
 · subst hl
   obtain ⟨q, hq⟩ : ∃ q, Qp7 v = .pointer q := by
    rcases hown.2 with ⟨rfl, _⟩ | ⟨g, cap, cur, rfl, _⟩
    · exact ⟨_, rfl⟩
    exact ⟨_, rfl⟩
   have hrun : (execOp a.eval ⟨dst, .call ⟨.builtin .unsafeString, #[x, y], #[pt, it]⟩, ty, pos, after, guard⟩).run C.P w = .ok (.value (.string (bs []))) w := by
    have h1 := Lib.run_unsafeString_none (P := C.P) w pt it ty q
    have e1 : a.eval x = .pointer q := hxv.trans hq
    have e2 : a.eval y = .int .i64 0 := hyv
    simp [execOp, resolve, invoke, builtin, e1, e2, h1]
    rfl
   simp only [Oper.wp, hrun, Oper.upon_value]
   exact hK () _ _ H trivial (Yw (row := none) s.on ⟨rfl, rfl, rfl, Nat.le_refl _, fun k hk hne => rfl⟩ fun k hk => by cases hk) rfl Xr.nil
 have hlp : 0 < l.length := List.length_pos_iff.2 hl
 have hlen : (Yh l).length = l.length := by simp
 rcases hown.2 with ⟨rfl, h0⟩ | ⟨g, cap, cur, rfl, _, hg, hnc, hcm, hcs, htake⟩
 · omega
 have hblk := o'.own g (Xk (i := Qg el (Jm .u8) (.slice (some ⟨g, 0, none⟩) (Yh l).length cap) (Yh l)) List.mem_cons_self rfl)
 have hcell := hown.cells (g := g) rfl
 have hrun : (execOp a.eval ⟨dst, .call ⟨.builtin .unsafeString, #[x, y], #[pt, it]⟩, ty, pos, after, guard⟩).run C.P w = .ok (.value (.string (bs l))) (w.freeze ⟨g, 0, none⟩ l.length) := by
  have h1 := Lib.run_unsafeString_row (P := C.P) w pt it ty el ht hc g cur.size (by simp [World.shape?, hg]) l hl (by have : (Jm IntKind.u8).sz = 1 := rfl; rw [this] at hcs; omega) (by unfold maxLen at hcm; omega) (fun j b hb => by
   refine hcell j _ ?_
   have h9 : (Jm IntKind.u8).K H ((b.toNat : Nat) : Int) ((inner.drop (j * 1)).take 1) := hR.2 j _ (by simp [hb])
   have h10 : (inner.drop (j * 1)).take 1 = [Value.int .u8 b.toNat] := h9
   rw [Nat.mul_one] at h10
   have h11 := congrArg List.head? h10
   simpa [List.head?_take, List.head?_drop] using h11)
  have e1 : a.eval x = .pointer (some ⟨g, 0, none⟩) := hxv
  simp [execOp, resolve, invoke, builtin, e1, hyv, h1]
 simp only [Oper.wp, hrun, Oper.upon_value]
 refine hK () _ _ H trivial (Yw (row := some g) s.on ⟨?_, ?_, ?_, by rw [Ql1]; exact Nat.le_refl _, fun k hk hne => Qkl fun e => hne (by rw [e])⟩ fun k hk => by cases hk; exact ⟨hblk.2.1, Xk (i := Qg el (Jm .u8) (.slice (some ⟨g, 0, none⟩) (Yh l).length cap) (Yh l)) List.mem_cons_self rfl⟩) rfl Xr.nil
 all_goals (unfold World.freeze; split <;> rfl)
end
abbrev Qfd : Kd (Value × Value) := Xm Q2 Q2
theorem lb0 {t : Value × Value} : Qe Qfd Q2 0 t t.1 (fun y => (y, t.2)) := Qe.fst
theorem lb1 {t : Value × Value} : Qe Qfd Q2 1 t t.2 (fun y => (t.1, y)) := Qe.snd (a := Q2)
end Go.Gw
namespace Go.Gw
open Go
section
variable {C : Cx} {Γ : Env} {L R : List It} {α : Type} {d : Kd α}
variable {dst : Option Tmp} {ty : TypeId} {pos : String} {after : Array Edge} {guard : Option (Nat × Bool)} {x y z : Operand}
theorem Qi9 {w : World} {H : FH} {g : Nat} {t : TypeId} {v : α} (h : (Qb g t d v).p w H) : w.shape? g = some (t, d.sz) := by
 obtain ⟨cs, h1, h2⟩ := h
 simp [World.shape?, h2, d.len h1]
theorem Qkm {s u t : TypeId} {g : Nat} {v : α} (hx : OT C.N Γ x (IsV (pt g 0))) (hm : Qb g t d v ∈ L) (hs : C.P.underlying s = some (.pointer t)) (hd : C.P.underlying u = some .unsafePointer) (hz : (C.P.info? t).map (fun j => Nat.beq j.size 0) = some false) (h0 : 0 < d.sz) : Pure C Γ L ⟨dst, .convert s u x, ty, pos, after, guard⟩ (IsV (pt g 0)) := fun a w H f s' ow => by
 have hv : a.eval x = pt g 0 := hx a H f
 obtain ⟨j, hj, hjs⟩ := Option.map_eq_some_iff.1 hz
 have h1 := Lib.run_to_unsafe (P := C.P) w ⟨g, 0, none⟩ hs hd hj (fun e => by rw [e] at hjs; cases hjs) (Qi9 (ow.all _ hm)) h0
 exact ⟨pt g 0, by simp only [execOp, hv, Sem.run_bind, h1, Result.andThen_ok]; rfl, rfl⟩
theorem Qhw {s u t : TypeId} {g : Nat} {v : α} (hx : OT C.N Γ x (IsV (pt g 0))) (hm : Qb g t d v ∈ L) (hs : C.P.underlying s = some .unsafePointer) (hd : C.P.underlying u = some (.pointer t)) (hz : (C.P.info? t).isSome = true) (hl : liesAt C.P C.P.depth t (d.sz / C.P.cellsOf t) 0 t 1 = true) : Pure C Γ L ⟨dst, .convert s u x, ty, pos, after, guard⟩ (IsV (pt g 0)) := fun a w H f s' ow => by
 have hv : a.eval x = pt g 0 := hx a H f
 obtain ⟨j, hj⟩ := Option.isSome_iff_exists.1 hz
 have h1 := Lib.run_from_unsafe (P := C.P) w ⟨g, 0, none⟩ hs hd hj (Qi9 (ow.all _ hm)) hl
 exact ⟨pt g 0, by simp only [execOp, hv, Sem.run_bind, h1, Result.andThen_ok]; rfl, rfl⟩
theorem Qr4 {f : FuncId} {fn : Func} {e : Array Value → Sem Value} {v u : Value} {ats : Array TypeId} (hx : OT C.N Γ x (IsV v)) (hf : C.P.funcs[f]? = some fn) (hname : (fn.name == "runtime.NumGoroutine") = false) (hb : fn.body.isNone = true) (hn : Extern.findNext fn = none) (he : Extern.find fn = some e) (hu : ∀ w, (e #[v]).run C.P w = .ok u w) : Pure C Γ L ⟨dst, .call ⟨.value (.func f), #[x], ats⟩, ty, pos, after, guard⟩ (IsV u) := fun a w H fi s ow => by
 have hv : a.eval x = v := hx a H fi
 refine ⟨u, ?_, rfl⟩
 rw [execOp_call_go]
 simp only [List.map_toArray, List.map_cons, List.map_nil, hv]
 rw [run_callFunc_extern hf hname hb hn he]
 show ((e #[v]).run C.P w).andThen _ = _
 rw [hu]; rfl
theorem Qf2 {t t2 el : TypeId} {g : Nat} (hx : OT C.N Γ x (IsV (pt g 0))) (hy : OT C.N Γ y (IsV (pt g 0))) (ht : C.P.underlying t = some (.pointer el)) (hz : (C.P.info? el).isSome = true) (hc : ∀ v, y ≠ .const v) : Pure C Γ L ⟨dst, .binOp .neq t x y t2, ty, pos, after, guard⟩ (Xd false) := fun a w H f s ow => by
 have h1 : a.eval x = pt g 0 := hx a H f
 have h2 : a.eval y = pt g 0 := hy a H f
 obtain ⟨j, hj⟩ := Option.isSome_iff_exists.1 hz
 have h3 := Lib.run_neq_ptr_same (P := C.P) w (tp := t) ⟨g, 0, none⟩ ht hj
 have hg : (eqGuard .neq t x y (pt g 0) (pt g 0)).run C.P w = .ok () w := by simp [eqGuard]
 refine ⟨.bool false, ?_, rfl⟩
 simp only [execOp, h1, h2, Sem.run_bind, hg, Result.andThen_ok]
 show ((binOp .neq t (.pointer (some ⟨g, 0, none⟩)) (.pointer (some ⟨g, 0, none⟩))).run C.P w).andThen _ = _
 rw [h3]; rfl
end
end Go.Gw
namespace Go.Gw
open Go
theorem Qee {C : Cx} {Γ : Env} {L : List It} {dst : Option Tmp} {ty : TypeId} {pos : String} {after : Array Edge} {guard : Option (Nat × Bool)} {x : Operand} {t : TypeId} {v : Value} {D : TypeDesc} (hx : OT C.N Γ x (IsV v)) (ht : C.P.underlying t = some D) (hn : (match D with | .interface _ => false | _ => true) = true) : Pure C Γ L ⟨dst, .makeInterface t x, ty, pos, after, guard⟩ (IsV (.iface t v)) := fun a w H f s ow => by
 have hv : a.eval x = v := hx a H f
 refine ⟨.iface t v, ?_, rfl⟩
 cases D <;> first | (exact Bool.noConfusion hn) | simp [execOp, Instr.makeInterface, run_underlying ht, hv]
section
variable {Γ : Env} {L J : List It} {α : Type} {d : Kd α}
theorem Qit {fn : Func} {ρ : Type} {T : ρ → Ty} {I : ρ → List It} {φ : ρ → Prop} {P : Program} {N : Nat} {H0 : FH} {w0 : World} (e : Exit) (he : e = .ret ∨ e = .normal) {t u u2 : Nat} {tt t' : TypeId} {b : Nat} {v : α} {B B2 : Ty} (hres : fn.results = #[.cell t tt, .tmp u, .tmp u2]) (r : ρ) (hx : OT N Γ (.tmp t) (IsV (pt b 0))) (hm : Qb b t' d v ∈ L) (ht : Xy P tt d.agg d.sz = true) (hB : OT N Γ (.tmp u) B) (hB2 : OT N Γ (.tmp u2) B2) (hT : ∀ H v', (J7 [d.T v, B, B2]).p H v' → (T r).p H v') (hφ : φ r) (hI : ∃ R, List.Perm L (I r ++ R)) :
 Tr ⟨P, N, fun g => g ∈ X9 J, H0, w0⟩ Γ L (bodyPost P fn (post J H0 w0 ρ T I φ) e) :=
 V3 e he r hφ hI fun a w H f s ow => by
  have hv : a.eval (.tmp t) = pt b 0 := hx a H f
  obtain ⟨cs, hK, hb⟩ := ow.all _ hm
  have hl := d.len hK
  have hload := K5 (P := P) (w := w) (t := tt) (agg := d.agg) (cs := cs) (g := b) (off := 0) (by rw [hl]; exact ht) (fun h => by rw [hl]; exact d.szone h) hb (fun i u h => by simpa using h)
  refine ⟨.tuple [mkV d.agg cs, a.eval (.tmp u), a.eval (.tmp u2)].toArray, ?_, hT _ _ ⟨_, rfl, d.toT hK, hB a H f, hB2 a H f, trivial⟩⟩
  simp only [Act.eval] at hv
  simp only [Array.getD_eq_getD_getElem?] at hv
  simp [results, hres, hv, asAddr, hload, pt, Act.eval]
end
end Go.Gw
namespace Go.Gw
open Go Go.MapKept
open Go.ChangeMaps (setBlock)
structure MS where
 es : Array MapEntry
 clock : Nat
structure IS where
 since : Nat
 seen : Array Nat
 c0 : Nat
theorem Ql2 {β : Type} {l : List β} (hn : l.Nodup) {i j : Nat} (hi : i < l.length) (hj : j < l.length) (h : l[i] = l[j]) : i = j := by
 rcases Nat.lt_trichotomy i j with h1 | h1 | h1
 · exact absurd h (List.pairwise_iff_getElem.1 hn i j hi hj h1)
 · exact h1
 exact absurd h.symm (List.pairwise_iff_getElem.1 hn j i hj hi h1)
section
variable {κ α : Type}
def Jj (g : Nat) (enc : κ → Value) (V : α → Ty) (m : List (κ × α)) (s : MS) : It where
 blk := some g
 p := fun w H => w.heap[g]? = some (.map s.es s.clock) ∧ Jv enc V H m s.es s.clock
 st := fun hb hs ⟨h1, h2⟩ => ⟨(hb g rfl).trans h1, h2.mono hs⟩
def K3 (r g : Nat) (i : IS) : It where
 blk := some r
 p := fun w H => w.heap[r]? = some (.mapIter (some g) i.since i.seen i.c0)
 st := fun hb hs h => (hb r rfl).trans h
structure Y8 (m : List (κ × α)) (s : MS) (i : IS) (todo : List κ) (cur : Option κ) : Prop where
 old : ∀ e ∈ s.es.toList, e.born < i.since
 le : i.since ≤ i.c0
 lc : i.since ≤ s.clock
 nd : todo.Nodup
 sub : ∀ k ∈ todo, k ∈ keys m
 left : ∀ (j : Nat) (e : MapEntry) (k : κ), s.es.toList[j]? = some e → (keys m)[j]? = some k → (i.seen.contains e.born = false ↔ k ∈ todo)
 at_ : ∀ k, cur = some k → i.c0 = s.clock ∧ ∃ (j : Nat) (e : MapEntry) (seen : Array Nat), s.es.toList[j]? = some e ∧ (keys m)[j]? = some k ∧ i.seen = seen.push e.born
def Qu6 (b : Bool) : Ty := ⟨fun _ v => ∃ l, v = .tuple (Array.mk (.bool b :: l)), fun _ h => h⟩
end
section
variable {C : Cx} {Γ : Env} {L R : List It} {dst : Option Tmp} {ty : TypeId} {pos : String} {after : Array Edge} {guard : Option (Nat × Bool)} {x y z : Operand} {Q : Act → World → Prop}
variable {κ α : Type} [DecidableEq κ] {t kt et : TypeId} {K : Kd κ} {enc : κ → Value} {V : α → Ty} {m : List (κ × α)} {g r : Nat} {k : κ} {s : MS} {i : IS} {todo : List κ} {cur : Option κ}
theorem W6 (hp : List.Perm L (Qf g enc V m :: R)) (h : ∀ s, Tr C Γ (Jj g enc V m s :: R) Q) : Tr C Γ L Q := by
 intro a w H f st ow
 have o' := ow.perm hp
 obtain ⟨es, clock, hb, hR⟩ := o'.all _ List.mem_cons_self
 exact h ⟨es, clock⟩ a w H f st (o'.swap1 (J := Jj g enc V m ⟨es, clock⟩) rfl ⟨hb, hR⟩)
theorem Un (hp : List.Perm L (Jj g enc V m s :: R)) (h : Tr C Γ (Qf g enc V m :: R) Q) : Tr C Γ L Q := by
 intro a w H f st ow
 have o' := ow.perm hp
 obtain ⟨hb, hR⟩ := o'.all _ List.mem_cons_self
 exact h a w H f st (o'.swap1 (J := Qf g enc V m) rfl ⟨s.es, s.clock, hb, hR⟩)
theorem Zw (ht : C.P.underlying t = some (.map kt et)) (hx : OT C.N Γ x (IsV (mp g))) (hm : Jj g enc V m s ∈ L) :
 Yk C Γ L ⟨dst, .range t x, ty, pos, after, guard⟩ [] (Nat × IS) (fun r => IsV (pt r.1 0)) (fun r => [K3 r.1 g r.2]) (fun r => Y8 m s r.2 (keys m) none) := by
 intro a w H f st ow Q K hK
 obtain ⟨hb, hR⟩ := ow.all _ hm
 have hv : a.eval x = .map (some g) := hx a H f
 have hrun : (execOp a.eval ⟨dst, .range t x, ty, pos, after, guard⟩).run C.P w = .ok (.value (pt w.heap.size 0)) (w.alloc (.mapIter (some g) s.clock #[] s.clock)) := by
  have := run_range_map (P := C.P) w t kt et g s.es s.clock ht hb
  simp only [execOp, hv, Sem.run_bind, this, Result.andThen]
  rfl
 simp only [Oper.wp, hrun, Oper.upon_value]
 refine hK (w.heap.size, ⟨s.clock, #[], s.clock⟩) _ _ H ?_ (Wc st.on _) rfl (Km (J := K3 w.heap.size g ⟨s.clock, #[], s.clock⟩) (heap_alloc_new w _) (.inr rfl) (by simp) st.on)
 exact ⟨fun e he => hR.lt e he, Nat.le_refl _, Nat.le_refl _, hR.nd, fun k h => h, fun j e k h1 h2 => ⟨fun _ => List.mem_of_getElem? h2, fun _ => by simp⟩, fun k h => by cases h⟩
theorem Zx (hx : OT C.N Γ x (IsV (pt r 0))) (hm : Jj g enc V m s ∈ L) (hp : List.Perm L (K3 r g i :: R)) (ho : Y8 m s i todo cur) :
 Yk C Γ L ⟨dst, .next x false, ty, pos, after, guard⟩ [K3 r g i] (IS × Option κ) (fun q => Qu6 q.2.isSome) (fun q => [K3 r g q.1]) (fun q => match q.2 with
  | none => todo = [] ∧ Y8 m s q.1 todo none
  | some k => k ∈ todo ∧ Y8 m s q.1 (todo.erase k) (some k)) := by
 intro a w H f st ow Q K hK
 obtain ⟨hb, hR⟩ := ow.all _ hm
 have o' := ow.perm hp
 have hr : w.heap[r]? = some (.mapIter (some g) i.since i.seen i.c0) := o'.all _ List.mem_cons_self
 have hown := o'.own r (Xk (i := K3 r g i) List.mem_cons_self rfl)
 have hxv : a.eval x = pt r 0 := hx a H f
 have hlt : r < w.heap.size := (Array.getElem?_eq_some_iff.1 hr).1
 rcases run_next_at (P := C.P) w ty r g i.since i.c0 i.seen s.es s.clock hr hb ho.old ho.le with ⟨h0, hrun⟩ | ⟨e, he, w1, hw1, hrun⟩
 · have htodo : todo = [] := by
    refine List.eq_nil_iff_forall_not_mem.2 fun k hk => ?_
    obtain ⟨j, hj, hkj⟩ := List.getElem_of_mem (ho.sub k hk)
    have hjl : j < s.es.toList.length := by have h9 := hR.len; simp [keys] at hj; simp; omega
    have hl := (ho.left j s.es.toList[j] k (List.getElem?_eq_getElem hjl) (by rw [List.getElem?_eq_getElem hj, hkj])).2 hk
    have : s.es.toList[j] ∈ (leftOf s.es i.seen).toList := by
     unfold leftOf
     rw [Array.toList_filter, List.mem_filter]
     exact ⟨List.getElem_mem hjl, by rw [hl]; rfl⟩
    have h1 := List.length_pos_of_mem this
    rw [Array.length_toList] at h1
    omega
   have hrun2 : (execOp a.eval ⟨dst, .next x false, ty, pos, after, guard⟩).run C.P w = .ok (.value (.tuple #[.bool false])) w := by
    simp only [execOp, hxv, Sem.run_bind, show (pt r 0) = Value.pointer (some ⟨r, 0, none⟩) from rfl, hrun, Result.andThen]
    rfl
   simp only [Oper.wp, hrun2, Oper.upon_value]
   refine hK (i, none) _ _ H ⟨htodo, ho.old, ho.le, ho.lc, ho.nd, ho.sub, ho.left, fun k h => by cases h⟩ (Yw (row := none) st.on ⟨rfl, rfl, rfl, by simp, fun k hk hne => rfl⟩ fun k hk => by cases hk) ⟨[], rfl⟩ ?_
   exact Ji (I := K3 r g i) (J := K3 r g i) rfl rfl hr o' (by simp)
 unfold leftOf at he
 rw [Array.toList_filter, List.mem_filter] at he
 obtain ⟨he1, he2⟩ := he
 obtain ⟨j, hj, hej⟩ := List.getElem_of_mem he1
 have hje : s.es.toList[j]? = some e := by rw [List.getElem?_eq_getElem hj, hej]
 have hjk : j < (keys m).length := by have h9 := hR.len; simp [keys]; simp at hj; omega
 obtain ⟨k, hk⟩ : ∃ k, (keys m)[j]? = some k := ⟨_, List.getElem?_eq_getElem hjk⟩
 have hkt : k ∈ todo := (ho.left j e k hje hk).1 (by simpa using he2)
 have hheap1 : w1.heap = w.heap := by rcases hw1 with rfl | rfl <;> rfl
 have hrun2 : (execOp a.eval ⟨dst, .next x false, ty, pos, after, guard⟩).run C.P w = .ok (.value (.tuple #[.bool true, e.key, e.val])) (setBlock w1 r (.mapIter (some g) i.since (i.seen.push e.born) s.clock)) := by
  simp only [execOp, hxv, Sem.run_bind, show (pt r 0) = Value.pointer (some ⟨r, 0, none⟩) from rfl, hrun, Result.andThen]
  rfl
 simp only [Oper.wp, hrun2, Oper.upon_value]
 have hset : (setBlock w1 r (.mapIter (some g) i.since (i.seen.push e.born) s.clock)).heap = w.heap.setIfInBounds r (.mapIter (some g) i.since (i.seen.push e.born) s.clock) := by show w1.heap.setIfInBounds _ _ = _; rw [hheap1]
 refine hK (⟨i.since, i.seen.push e.born, s.clock⟩, some k) _ _ H ⟨hkt, ho.old, ho.lc, ho.lc, ho.nd.erase k, fun k' h => ho.sub k' (List.mem_of_mem_erase h), fun j' e' k' h1 h2 => ?_, fun k' h => ?_⟩ (Yw (row := some r) st.on ⟨?_, ?_, ?_, ?_, fun k' hk' hne => ?_⟩ fun k' hk' => by cases hk'; exact ⟨hown.2.1, Xk (i := K3 r g i) List.mem_cons_self rfl⟩) ⟨[e.key, e.val], rfl⟩ ?_
 · have hl := ho.left j' e' k' h1 h2
   rw [ho.nd.mem_erase_iff]
   by_cases hjj : j' = j
   · subst hjj
     rw [hje] at h1; cases h1
     rw [hk] at h2; cases h2
     simp
   have hbn : e'.born ≠ e.born := fun hbe => by
    refine hjj ?_
    have a1 : j' < (s.es.toList.map (·.born)).length := by rw [List.length_map]; exact (List.getElem?_eq_some_iff.1 h1).1
    have a2 : j < (s.es.toList.map (·.born)).length := by rw [List.length_map]; exact hj
    refine Ql2 hR.bn a1 a2 ?_
    rw [List.getElem_map, List.getElem_map, (List.getElem?_eq_some_iff.1 h1).2, hej]; exact hbe
   have hkk : k' ≠ k := fun hke => by
    refine hjj ?_
    have a1 : j' < (keys m).length := (List.getElem?_eq_some_iff.1 h2).1
    refine Ql2 hR.nd a1 hjk ?_
    rw [(List.getElem?_eq_some_iff.1 h2).2, (List.getElem?_eq_some_iff.1 hk).2]; exact hke
   have hc : (i.seen.push e.born).contains e'.born = i.seen.contains e'.born := by
    rw [Bool.eq_iff_iff]
    simp [Array.contains_iff_mem, Array.mem_push, hbn]
   rw [hc, hl]
   exact ⟨fun h => ⟨hkk, h⟩, fun h => h.2⟩
 · cases h
   exact ⟨rfl, j, e, i.seen, hje, hk, rfl⟩
 · rcases hw1 with rfl | rfl <;> rfl
 · rcases hw1 with rfl | rfl <;> rfl
 · rcases hw1 with rfl | rfl <;> rfl
 · rw [hset]; simp
 · have : k' ≠ r := fun e => hne (by rw [e])
   rw [hset]; simp [Array.getElem?_setIfInBounds, Ne.symm this]
 exact Ji (I := K3 r g i) (J := K3 r g ⟨i.since, i.seen.push e.born, s.clock⟩) rfl rfl (by show (setBlock _ _ _).heap[r]? = _; rw [hset]; simp [hlt]) o' (by rw [hset]; simp)
theorem Jz {b : Bool} (hx : OT C.N Γ x (Qu6 b)) : Pure C Γ L ⟨dst, .extract x 0, ty, pos, after, guard⟩ (Xd b) := fun a w H f s ow => by
 obtain ⟨l, hv⟩ := hx a H f
 exact ⟨.bool b, by simp [execOp, Instr.extract, hv], rfl⟩
theorem Ya {D : Ty} {v : α} (hx : OT C.N Γ x (IsV (pt r 0))) (hr : K3 r g i ∈ L) (hm : Jj g enc V m s ∈ L) (ho : Y8 m s i todo (some k)) (hl : lkp k m = some v) (hD : ∀ H, D.p H (enc k)) :
 Pure C Γ L ⟨dst, .entry x, ty, pos, after, guard⟩ (J7 [D, V v]) := fun a w H f st ow => by
 obtain ⟨hb, hR⟩ := ow.all _ hm
 have hr1 : w.heap[r]? = some (.mapIter (some g) i.since i.seen i.c0) := ow.all _ hr
 have hxv : a.eval x = pt r 0 := hx a H f
 obtain ⟨hc, j, e, seen, h1, h2, h3⟩ := ho.at_ k rfl
 obtain ⟨v', h4, h5, h6⟩ := hR.at_ h1 h2
 have hvv : v' = v := by have := Qg4 hR.nd h4; rw [hl] at this; exact (Option.some.inj this).symm
 subst hvv
 rw [h3, hc] at hr1
 have hrun := run_entry_at (P := C.P) w r g i.since seen s.es s.clock e hr1 hb (List.mem_of_getElem? h1) hR.bn
 refine ⟨.tuple #[e.key, e.val], ?_, [e.key, e.val], rfl, ?_⟩
 · simp only [execOp, hxv, Sem.run_bind, show (pt r 0) = Value.pointer (some ⟨r, 0, none⟩) from rfl, hrun, Result.andThen]
   rfl
 exact ⟨by rw [h5]; exact hD H, h6, trivial⟩
theorem Qf3 {ts : Array TypeId} (mk : Kx C.P kt K enc) (ht : C.P.underlying t = some (.map kt et)) (hts : ts[0]? = some t) (hx : OT C.N Γ x (IsV (mp g))) (hp : List.Perm L (Jj g enc V m s :: R)) (hy : OT C.N Γ y (K.T k)) :
 Yk C Γ L ⟨dst, .call ⟨.builtin .delete, #[x, y], ts⟩, ty, pos, after, guard⟩ [Jj g enc V m s] MS (fun _ => Yr) (fun s' => [Jj g enc V (dlk k m) s']) (fun s' => ∀ i todo cur, Y8 m s i todo cur → k ∉ todo → Y8 (dlk k m) s' i todo none) := by
 intro a w H f st ow Q K' hK
 have o' := ow.perm hp
 obtain ⟨hb, hR⟩ := o'.all _ List.mem_cons_self
 have hown := o'.own g (Xk (i := Jj g enc V m s) List.mem_cons_self rfl)
 have hxv : a.eval x = .map (some g) := hx a H f
 have hyv : a.eval y = enc k := mk.val (hy a H f)
 have hfin : ∀ s' : MS, (execOp a.eval ⟨dst, .call ⟨.builtin .delete, #[x, y], ts⟩, ty, pos, after, guard⟩).run C.P w = .ok (.value (.tuple #[])) (Kz w g s'.es s'.clock) → Jv enc V H (dlk k m) s'.es s'.clock → (∀ i todo cur, Y8 m s i todo cur → k ∉ todo → Y8 (dlk k m) s' i todo none) → (Oper.mk dst (.call ⟨.builtin .delete, #[x, y], ts⟩) ty pos after guard).wp C.P a w K' Q := fun s' hrun hR' hφ => by
  simp only [Oper.wp, hrun, Oper.upon_value]
  refine hK s' _ _ H hφ (Qc2 st.on hown.2.1 (Xk (i := Jj g enc V m s) List.mem_cons_self rfl) _ _) trivial ?_
  exact Ji (I := Jj g enc V m s) (J := Jj g enc V (dlk k m) s') rfl rfl ⟨V9 hb, hR'⟩ o' (by simp)
 rcases U6 (k := k) mk hR w with ⟨h1, h2⟩ | ⟨j, e, v, h1, h2, h3, h4, h5⟩
 · refine hfin s ?_ (by rw [Jy h2]; exact hR) fun i todo cur ho hk => by rw [Jy h2]; exact ⟨ho.old, ho.le, ho.lc, ho.nd, ho.sub, ho.left, fun k h => by cases h⟩
   have hr : (Builtin.delete_ ts ty #[.map (some g), enc k]).run C.P w = .ok (.tuple #[]) (Kz w g s.es s.clock) := by simp [Builtin.delete_, hts, run_underlying ht, MapKept.run_getObj_map hb, mk.chk, h1, MapKept.run_setObj_map _ hb, Result.andThen]
   simp [execOp, resolve, invoke, builtin, hxv, hyv, hr, Result.andThen]
 have hj : j < m.length := (List.getElem?_eq_some_iff.1 h3).1
 have hl : (s.es.eraseIdxIfInBounds j).toList = s.es.toList.eraseIdx j := by
  unfold Array.eraseIdxIfInBounds
  rw [dif_pos (by rw [hR.len]; exact hj)]; simp
 have hkd : keys (dlk k m) = (keys m).eraseIdx j := by rw [Qcc hR.nd h3]; unfold keys; rw [W5]
 refine hfin ⟨s.es.eraseIdxIfInBounds j, s.clock⟩ ?_ (hR.erase_ h3) fun i todo cur ho hk => ⟨fun e he => ho.old e ?_, ho.le, ho.lc, ho.nd, fun k' h => ?_, fun j' e' k' h6 h7 => ?_, fun k h => by cases h⟩
 · have hr : (Builtin.delete_ ts ty #[.map (some g), enc k]).run C.P w = .ok (.tuple #[]) (Kz w g (s.es.eraseIdxIfInBounds j) s.clock) := by simp [Builtin.delete_, hts, run_underlying ht, MapKept.run_getObj_map hb, mk.chk, h1, MapKept.run_setObj_map _ hb, Result.andThen]
   simp [execOp, resolve, invoke, builtin, hxv, hyv, hr, Result.andThen]
 · have he : e ∈ (s.es.eraseIdxIfInBounds j).toList := he
   rw [hl] at he; exact (List.eraseIdx_sublist _ _).subset he
 · have h8 := ho.sub k' h
   have hne : k' ≠ k := fun e => hk (e ▸ h)
   obtain ⟨j2, hj2, hjk⟩ := List.getElem_of_mem h8
   obtain ⟨v2, hv2⟩ : ∃ v2, (k', v2) ∈ m := by
    obtain ⟨p, hp1, hp2⟩ := List.mem_map.1 h8
    exact ⟨p.2, by rw [← hp2]; exact hp1⟩
   have h9 : lkp k' (dlk k m) = lkp k' m := by rw [Ul hR.nd, if_neg (fun e => hne e.symm)]
   refine Classical.byContradiction fun hc => ?_
   have := Xx.2 hc
   rw [h9] at this
   exact Xx.1 this h8
 have h6 : (s.es.eraseIdxIfInBounds j).toList[j']? = some e' := h6
 rw [hl, List.getElem?_eraseIdx] at h6
 rw [hkd, List.getElem?_eraseIdx] at h7
 by_cases hjj : j' < j
 · rw [if_pos hjj] at h6 h7; exact ho.left j' e' k' h6 h7
 rw [if_neg hjj] at h6 h7; exact ho.left (j' + 1) e' k' h6 h7
end
end Go.Gw
namespace Go.Gw
open Go
section
variable {C : Cx} {Γ : Env} {L R J : List It} {Q : Exit → Act → World → Prop} {ops : Array Oper} {rest : List Oper}
theorem Qax {o : Oper} {T : Ty} {φ : Unit → Prop} {j d : Nat} {want b : Bool} {p : Prop} (hg : o.guard = some (j, want)) (hj : (ops[j]?).bind (·.dst) = some d) (hdN : decide (d < C.N) = true) (hb : OT C.N Γ (.tmp d) (GuT p (Xd b)))
 (hL : List.Perm L (J ++ R)) (hp : p ∧ b = want → Yk C Γ L o J Unit (fun _ => T) (fun _ => J) φ) (hd : Wb C.N o.dst = true) (h : Tr C (upd o.dst (GuT (p ∧ b = want) T) Γ) L (wpList C.P ops Q rest)) : Tr C Γ L (wpList C.P ops Q (o :: rest)) := by
 intro a w H f s ow
 have hw := Wq f hg hj hdN hb
 refine wpList_step fun K hK => ?_
 by_cases hc : p ∧ b = want
 · rw [if_pos (hw.2 hc)]
   refine hp hc a w H f s ow Q K fun r v w' H' hφ s' hv ho => hK _ _ ?_
   have ow' := ow.perm hL
   have hM : ∀ k, k ∈ X9 J → C.M k ∨ C.w0.heap.size ≤ k := fun k hk => (ow'.left.own k hk).2.2
   refine h _ w' H' ((f.mono s'.sub).put o.dst hd ⟨fun _ => hv, fun hn => absurd hc hn⟩) (s.trans s' hM) (Xr.perm ?_ hL.symm)
   refine Xr.append (ho.mono fun g _ hg => ?_) (ow'.right.st s' fun g hg hj => ow'.apart g hj hg) fun g hg hr => ?_
   · rcases hg with hg | hg
     · exact hM g hg
     exact .inr (Nat.le_trans s.size hg)
   rcases (ho.own g hg).2.2 with h1 | h1
   · exact ow'.apart g h1 hr
   have := (ow'.right.own g hr).1; omega
 rw [if_neg (fun e => hc (hw.1 e))]
 exact hK _ _ (h _ w H (f.put o.dst hd ⟨fun e => absurd e hc, fun _ => rfl⟩) s ow)
theorem Qkn {o : Oper} {T : Ty} {j d : Nat} {want b : Bool} {p : Prop} (hg : o.guard = some (j, want)) (hj : (ops[j]?).bind (·.dst) = some d) (hdN : decide (d < C.N) = true) (hb : OT C.N Γ (.tmp d) (GuT p (Xd b)))
 (h : p ∧ b = want → Qn2 C Γ L L ops { o with guard := none } T) : Qn2 C Γ L L ops o (GuT (p ∧ b = want) T) := fun a w H f s ow Q K hK => by
 have hw := Wq f hg hj hdN hb
 by_cases hc : p ∧ b = want
 · rw [if_pos (hw.2 hc)]
   have := h hc a w H f s ow Q K fun v w' H' hs s' o' hv => hK v w' H' hs s' o' ⟨fun _ => hv, fun hn => absurd hc hn⟩
   rw [if_pos (by simp [Region.wanted])] at this
   exact this
 rw [if_neg (fun e => hc (hw.1 e))]
 exact hK undef w H (Sub.refl _) s ow ⟨fun e => absurd e hc, fun _ => rfl⟩
end
end Go.Gw
namespace Go.Vl
open Go Go.Gw
theorem Q4j (r : Int) : IntKind.u8.wrap r = r % 256 := by
 simp [IntKind.wrap, IntKind.bits, IntKind.signed]
abbrev enc (r : Int) : List UInt8 := Lib.encodeRune r
end Go.Vl
namespace Go.Vl
open Go Go.Gw
theorem wrap64 {x : Int} (h0 : 0 ≤ x) (h1 : x < 18446744073709551616) : IntKind.u64.wrap x = x := by
 simp [IntKind.wrap, IntKind.bits, IntKind.signed]; omega
theorem Q1w {x y : Nat} (hx : x < 18446744073709551616) (hy : y < 18446744073709551616) : Qgu .xor .u64 (x : Int) (y : Int) = ((x ^^^ y : Nat) : Int) := by
 have h : x ^^^ y < 2 ^ 64 := Nat.xor_lt_two_pow hx hy
 show IntKind.u64.wrap (((BitVec.ofInt 64 (x : Int)) ^^^ (BitVec.ofInt 64 (y : Int))).toNat : Int) = _
 rw [BitVec.toNat_xor, ofInt_u64 x hx, ofInt_u64 y hy]
 exact wrap64 (by omega) (by omega)
theorem Q5d {x y : Nat} (hx : x < 18446744073709551616) (hy : y < 18446744073709551616) : Qgu .or .u64 (x : Int) (y : Int) = ((x ||| y : Nat) : Int) := by
 have h : x ||| y < 2 ^ 64 := Nat.or_lt_two_pow hx hy
 show IntKind.u64.wrap (((BitVec.ofInt 64 (x : Int)) ||| (BitVec.ofInt 64 (y : Int))).toNat : Int) = _
 rw [BitVec.toNat_or, ofInt_u64 x hx, ofInt_u64 y hy]
 exact wrap64 (by omega) (by omega)
end Go.Vl
namespace Go.Proofs.YtklhdalppmjnaaaGreatDoor
open Go Go.Gw Go.So Go.Tu
variable {K0 : FH} {n0 : Nat}
abbrev kFF (K0 : FH) (n0 : Nat) : Kd (List Tp) := kfr K0 n0 (kF K0 n0)
abbrev kDF (K0 : FH) (n0 : Nat) : Kd Dl := Xm (kFF K0 n0) (kFF K0 n0)
theorem Qxh : Xv Tryz.prog 38 (kDF K0 n0) ([], []) := ⟨.agg #[Qn, Qn], by kernel_rfl, fun H => ⟨[Qn, Qn], ⟨[Qn], [Qn], ⟨Qn, rfl, ⟨none, 0, rfl, by simp, by simp, fun h => by simp at h⟩, trivial, trivial⟩, ⟨Qn, rfl, ⟨none, 0, rfl, by simp, by simp, fun h => by simp at h⟩, trivial, trivial⟩, rfl⟩, rfl⟩⟩
theorem Qgs (a b : List Tp) (ha : Small a) (hb : Small b) (ra : Xn a = true) (rb : Xn b = true) : Ct Tryz.prog 43 [SlT kT a, SlT kT b] [] Unit (fun _ => J7 [SlT kT (Qt a b), SlT kT (Yx a b), SlT kT (Qt b a)]) (fun _ => []) (fun _ => True) := by
 have h := Qxf a b ha.1 hb.1
 rw [Qcf (K7.1 ra) (K7.1 rb)] at h; exact h
theorem Q15 (a b : List Tp) : (!([a, b].any fun l => !Xn l)) = (Xn a && Xn b) := by cases h1 : Xn a <;> cases h2 : Xn b <;> simp [h1, h2]
theorem Q16 (a b c d : List Tp) : (!([a, b, c, d].any fun l => !Xn l)) = (Xn a && Xn b && Xn c && Xn d) := by cases h1 : Xn a <;> cases h2 : Xn b <;> cases h3 : Xn c <;> cases h4 : Xn d <;> simp [h1, h2, h3, h4]

/-- rhizome/tuple.sets$1 -/
theorem Qxi (x : List Tp) : Ct Tryz.prog 73 [SlT kT x] ([]) Unit (fun _ => Xd (!Xn x)) (fun _ => []) (fun _ => True) := by
 refine Qm Tryz.func73 rfl rfl ?_
 intro H w
 refine sq (rg (ak rfl (tn (nn (sq (rg (mv rfl rfl (oA (aC (Qs2 _) ygf (oc oz oN) pR) pR rfl rfl (fun _ _ => ?_)))))))))
 refine oP (Zn oz) rfl (av rfl rfl (tn (nn (tR ?_))))
 exact Qh .ret (.inl rfl) rfl () oz trivial (by exact pn)
/-- slices.IndexFunc[[][]rhizome/api.Tuple,[]rhizome/api.Tuple] -/
theorem Q0z (xs : List (List Tp)) (fv : Value) (p : List Tp → Bool) (hm : xs.length ≤ 1000000) (hfv : ∀ x, CtV Tryz.prog fv [kL.T x] [] Unit (fun _ => Xd (p x)) (fun _ => []) (fun _ => True)) : Ct Tryz.prog 109 [SlT kL xs, IsV fv] ([]) Int (fun r => I64 r) (fun _ => []) (fun r => (decide (0 ≤ r)) = xs.any p) := by
 refine Qm Tryz.func109 rfl rfl ?_
 intro H w
 refine sq (rg (ak rfl (tn (nn (sq (sq (rg (mv rfl rfl (oP (pls oz Tryz.underlying146) rfl (oP (Qp ot) rfl (tn (nn (tb (Qr (σ := Nat) (e2 0 1 rfl (ec 7 rfl en)) (fun k => [(8, I64 (k : Int))]) (fun k => []) (fun k => k ≤ xs.length ∧ (xs.drop k).any p = xs.any p) (fun k => xs.length - k) 0 ⟨Nat.zero_le _, rfl⟩ ?_ (op (by exact pn)) ?_))))))))))))))
 · exact (ec 8 rfl en)
 · rintro k ⟨hk, hk2⟩
   refine sq (rg (oP (Q6 oz oz) rfl (tn (nn (sq (tc oz (fun c9 => ?_) (fun c9 => ?_)))))))
   · try simp only [cq] at c9
     refine sk (nn (sq (tb (sq (rg (mv rfl rfl (av rfl rfl (tn (nn (sq ?_))))))))))
     have hst := Qlp (l := xs) (p := p) (k := k) (by omega)
     refine rg (mv rfl rfl (mv rfl rfl (mv rfl rfl (oP (Qk oz oz Tryz.underlying146 y1z (by omega) (by omega)) rfl (oP (pL oz y1z) rfl (oA (Z2 oz (hfv _) (oc oz oN) pR) pR rfl rfl (fun _ _ => ?_)))))))
     refine tn (nn (tc oz (fun c16 => ?_) (fun c16 => ?_)))
     · try simp only [cq] at c16
       refine sq (rg (mv rfl rfl (av rfl rfl (tn (nn (tR (Qw (tt (tt (Qw (tt ?_)))))))))))
       exact Qh .ret (.inl rfl) rfl (k : Int) oz (by rw [← hk2, hst, c16, Bool.true_or]; simp) (by exact pn)
     try simp only [cq] at c16
     refine sk (bn (nn (rg (oP (pad oz ot (by omega)) rfl (mv rfl rfl (tn (nn ?_)))))))
     exact tg (k + 1) ⟨by omega, by rw [← hk2, hst, c16, Bool.false_or]⟩ (by omega) ef (op (by exact pn))
   try simp only [cq] at c9
   refine Qy (tx (tx (bh (nn (sq (rg (ak rfl (tn (nn (tR ?_))))))))))
   exact Qh .ret (.inl rfl) rfl (-1) oz (by rw [← hk2, List.drop_of_length_le (by omega)]; rfl) (by exact pn)
/-- slices.ContainsFunc[[][]rhizome/api.Tuple,[]rhizome/api.Tuple] -/
theorem Q00 (xs : List (List Tp)) (fv : Value) (p : List Tp → Bool) (hm : xs.length ≤ 1000000) (hfv : ∀ x, CtV Tryz.prog fv [kL.T x] [] Unit (fun _ => Xd (p x)) (fun _ => []) (fun _ => True)) : Ct Tryz.prog 72 [SlT kL xs, IsV fv] ([]) Unit (fun _ => Xd (xs.any p)) (fun _ => []) (fun _ => True) := by
 refine Qm Tryz.func72 rfl rfl ?_
 intro H w
 refine sq (rg (ak rfl (tn (nn (sq (rg (mv rfl rfl (mv rfl rfl (oA (aC (Q0z _ _ p (by assumption) (by assumption)) yzo (oc oz (oc oz oN)) pR) pR rfl rfl (fun r1_2 hr1_2 => ?_))))))))))
 refine oP (Vh oz ot) rfl (av rfl rfl (tn (nn (tR ?_))))
 exact Qh .ret (.inl rfl) rfl () (OT.val oz (congrArg Value.bool hr1_2)) trivial (by exact pn)
/-- rhizome/tuple.sets -/
theorem Qqy (xs : List (List Tp)) (hm : xs.length ≤ 1000000) : Ct Tryz.prog 42 [SlT kL xs] ([]) Unit (fun _ => Xd (!(xs.any fun l => !Xn l))) (fun _ => []) (fun _ => True) := by
 refine Qm Tryz.func42 rfl rfl ?_
 intro H w
 refine sq (rg (ak rfl (tn (nn (sq (rg (mv rfl rfl (oA (aC (Q00 _ _ (fun l => !Xn l) (by assumption) (fun x => CtV.of0 (Qxi x) (by kernel_rfl))) y0k (oc oz (oc OT.func oN)) pR) pR rfl rfl (fun _ _ => ?_)))))))))
 refine oP (Zn oz) rfl (av rfl rfl (tn (nn (tR ?_))))
 exact Qh .ret (.inl rfl) rfl () oz trivial (by exact pn)
/-- rhizome/tuple.Diff -/
theorem Q01 (a b : List Tp) (hs : Small a) (hb : Small b) : CtM K0 n0 Tryz.prog 214 [SlT kT a, SlT kT b] ([]) Unit (fun _ => J7 [(kDF K0 n0).T (Qa8 a b).1, I64 (Qa8 a b).2]) (fun _ => []) (fun _ => True) := by
 refine Vu Tryz.func214 rfl rfl ?_
 intro H w hK hn
 refine sq (rg (oA (Q1 ((Qxh (K0 := K0) (n0 := n0)))) pR rfl rfl (fun g0_0 _ => ?_)))
 refine ak rfl (tn (nn (sq (sq (rg (mv rfl rfl (mv rfl rfl (oA (Q9 (d := kL) (v0 := []) yx4 y1z z40 (show 2 * 1 ≤ 16777216 from by decide) (by decide) (Qx rfl rfl (by decide) oz (Qx rfl rfl (by decide) oz Qd))) pR rfl rfl (fun _ _ => ?_)))))))))
 refine oA (aC (Qqy [a, b] (by simp)) y9u (oc oz oN) pR) pR rfl rfl (fun _ _ => ?_)
 refine oP (Zn oz) rfl (tn (nn (tc oz (fun c13 => ?_) (fun c13 => ?_))))
 · rw [Q15] at c13
   have hd : Qa8 a b = (([], []), 1) := by rw [Qa8, if_neg (by rw [Bool.not_eq_true'] at c13; rw [c13]; simp)]
   refine sq (rg (oP (Zc (d := kDF K0 n0) (v0 := ([], [])) (ps := [(0, 1), (1, 1)]) (Qxh (K0 := K0) (n0 := n0)) (by kernel_rfl) rfl Qd) rfl (oA (asv oz oz (pA 0 rfl) yh2) (pA 0 rfl) rfl rfl (fun _ _ => ?_))))
   refine ak rfl (tn (nn (tR (tt ?_))))
   exact Zk .ret (.inl rfl) rfl () oz (mA 0 rfl) yh2 oz (fun _ _ h => (by rw [hd]; exact h)) trivial (by exact pn)
 rw [Q15] at c13
 have hc : (Xn a && Xn b) = true := by simpa using c13
 have hd : Qa8 a b = ((Qt b a, Qt a b), 0) := by rw [Qa8, if_pos hc]
 obtain ⟨hra, hrb⟩ := Bool.and_eq_true_iff.1 hc
 refine sk (nn (sq (rg (mv rfl rfl (mv rfl rfl (oA (aC (Qgs a b hs hb hra hrb) yb7 (oc oz (oc oz oN)) pR) pR rfl rfl (fun _ _ => ?_)))))))
 refine mv rfl rfl (oP (Ql oz rfl) rfl (oP (Ql oz rfl) rfl (oP (Ql oz rfl) rfl (av rfl rfl (av rfl rfl (av rfl rfl (tn (nn (sq (rg (mv rfl rfl (oA (Zj (Qk4 (Qt b a) (hb.without a)) (Qbn hK hn) ykz (oc oz oN) pR) pR rfl rfl (fun v4_1 _ => ?_)))))))))))))
 refine mv rfl rfl (oA (Zj (Qk4 (Qt a b) (hs.without b)) (Qbn hK hn) ykz (oc oz oN) pR) pR rfl rfl (fun v4_3 _ => ?_))
 refine Kw (Qbn hK hn) (fun g => Wd) (pA 1 rfl) 23 oz (Kw (Qbn hK hn) (fun g => Wd) (pA 0 rfl) 25 oz (oP (Zc (d := kDF K0 n0) (v0 := ([], [])) (ps := [(0, 1), (1, 1)]) (Qxh (K0 := K0) (n0 := n0)) (by kernel_rfl) rfl (Qi rfl (Qe.fst (a := kFF K0 n0) (b := kFF K0 n0)) oz (Qi rfl (Qe.snd (a := kFF K0 n0) (b := kFF K0 n0)) oz Qd))) rfl (oA (asv oz oz (pA 0 rfl) yh2) (pA 0 rfl) rfl rfl (fun _ _ => ?_))))
 refine ak rfl (tn (nn (tR ?_)))
 exact Zk .ret (.inl rfl) rfl () oz (mA 0 rfl) yh2 oz (fun _ _ h => (by rw [hd]; exact h)) trivial (by exact pn)
end Go.Proofs.YtklhdalppmjnaaaGreatDoor
namespace Go.Proofs.YtklhdalppmjnaaaGreatDoor
open Go Go.Gw Go.So Go.Tu
variable {K0 : FH} {n0 : Nat}
theorem Qxj (l : List Tp) (hs : Small l) : CtM K0 n0 Tryz.prog 37 [SlT kT l] [] Unit (fun _ => Jh K0 n0 (kF K0 n0) l) (fun _ => []) (fun _ => True) := (Qk4 l hs).freeze

/-- slices.Grow[[]rhizome/api.Tuple,rhizome/api.Tuple] -/
theorem Q02 (n : Nat) (hm : n ≤ 1000000) : Ct Tryz.prog 110 [IsV Qn, I64 (n : Int)] ([]) Value (fun r => IsV r) (fun r => [Qg 51 kT r []]) (fun _ => True) := by
 refine Qm Tryz.func110 rfl rfl ?_
 intro H w
 refine sq (rg (ak rfl (tn (nn (sq (sq (rg (mv rfl rfl (oP (Q6 oz ot) rfl (tn (nn (tc oz (fun c6 => ?_) (fun c6 => ?_)))))))))))))
 · try simp only [cq] at c6
   exact absurd c6 (by omega) --done
 · try simp only [cq] at c6
   refine sk (nn (sq (sq (rg (mv rfl rfl (mv rfl rfl (oP (Qg3 oz Tryz.underlying36) rfl (mv rfl rfl (oP (Qg2 oz Tryz.underlying36) rfl (oP (J5 oz oz (by omega)) rfl (oP (J5 oz oz (by omega)) rfl (av rfl rfl (tn (nn (sq (rg (mv rfl rfl (oP (Y9 oz ot) rfl (tn (nn (tc oz (fun c16 => ?_) (fun c16 => ?_))))))))))))))))))))))
   · try simp only [cq] at c16
     refine rg (mv rfl rfl (mv rfl rfl (oP (Qg3 oz Tryz.underlying36) rfl (oP (Qj9 oz oz Tryz.underlying36 yko) rfl (mv rfl rfl (oA (Qe6 (d := kT) (v0 := []) oz oz yiy Tryz.underlying3 yko z38 (by omega) (by omega) (by (simp [maxLen]; omega))) pR rfl rfl (fun v5_5 _ => ?_)))))))
     refine mv rfl rfl (oP (Qg2 oz Tryz.underlying36) rfl (oA (Y6 oz (pA 0 rfl) oz Tryz.underlying36 yko (by omega) (by omega)) (pA 0 rfl) rfl rfl (fun v5_8 _ => ?_)))
     refine av rfl rfl (tn (nn (sq (rg (mv rfl rfl (av rfl rfl (tn (nn (tR ?_)))))))))
     exact Qh .ret (.inl rfl) rfl v5_8 oz trivial (by repeat first | exact pn | refine pc 0 rfl ?_)
   try simp only [cq] at c16
   refine Xf 51 kT (sk (nn (sq (rg (mv rfl rfl (av rfl rfl (tn (nn (tR ?_)))))))))
   exact Qh .ret (.inl rfl) rfl Qn oz trivial (by repeat first | exact pn | refine pc 0 rfl ?_)
/-- slices.Concat[[]rhizome/api.Tuple,rhizome/api.Tuple] -/
theorem Qs4 (ls : List (List Tp)) (hm : ls.length ≤ 1000000) (hf : ls.flatten.length ≤ 1000000) : Ct Tryz.prog 75 [SlT kL ls] ([]) Unit (fun _ => SlT kT ls.flatten) (fun _ => []) (fun _ => True) := by
 refine Qm Tryz.func75 rfl rfl ?_
 intro H w
 refine sq (rg (ak rfl (tn (nn (sq (rg (ak rfl (tn (nn (sq (sq (rg (mv rfl rfl (oP (pls oz Tryz.underlying146) rfl (oP (Qp ot) rfl (tn (nn (tb (Qr (σ := Nat) (e2 0 9 rfl (ec 10 rfl en)) (fun k => [(11, I64 (k : Int)), (3, I64 ((ls.take k).flatten.length : Int))]) (fun k => []) (fun k => k ≤ ls.length) (fun k => ls.length - k) 0 (Nat.zero_le _) ?_ (op (by exact pn)) ?_)))))))))))))))))))
 · exact (e2 11 3 rfl en)
 · rintro k hk
   refine sq (rg (oP (Q6 oz oz) rfl (tn (nn (sq (tc oz (fun c12 => ?_) (fun c12 => ?_)))))))
   · try simp only [cq] at c12
     refine sk (nn (sq (tb (sq ?_))))
     have hfl := Qps ls (k + 1)
     have htf := Qi3 (ls := ls) (k := k) (by omega)
     rw [htf, List.length_append] at hfl
     refine rg (oP (Qk oz oz Tryz.underlying146 y1z (by omega) (by omega)) rfl (oP (pL oz y1z) rfl (av rfl rfl (tn (nn (sq (rg (mv rfl rfl (mv rfl rfl (oP (pls oz Tryz.underlying36) rfl (oP (pad oz oz (by omega)) rfl (av rfl rfl (tn (nn (sq (rg (mv rfl rfl (oP (Q6 oz ot) rfl (tn (nn (tc oz (fun c20 => ?_) (fun c20 => ?_))))))))))))))))))))))
     · try simp only [cq] at c20
       exact absurd c20 (by omega) --done
     try simp only [cq] at c20
     refine sk (bn (nn (rg (oP (pad oz ot (by omega)) rfl (mv rfl rfl (tn (nn ?_)))))))
     exact tg (k + 1) (by omega) (by omega) (ea (ec 11 rfl (Qv (t := 3) (OT.val oz (congrArg (Value.int _) (by rw [htf, List.length_append]; omega))) en)) ef) (op (by exact pn))
   try simp only [cq] at c12
   refine Qy (tx (tx (bh (nn (sq ?_)))))
   obtain rfl : k = ls.length := by omega
   rw [List.take_length]
   refine rg (mv rfl rfl (oA (aC (Q02 ls.flatten.length hf) yxc (oc ot (oc oz oN)) pR) pR rfl rfl (fun v9_1 _ => ?_)))
   refine av rfl rfl (tn (nn (sq (sq (rg (mv rfl rfl (oP (pls oz Tryz.underlying146) rfl (oP (Qp ot) rfl (tn (nn (tb (Qr (σ := Nat × Value) (e2 25 26 rfl en) (fun s => [(27, I64 (s.1 : Int)), (6, IsV s.2)]) (fun s => [Qg 51 kT s.2 (ls.take s.1).flatten]) (fun s => s.1 ≤ ls.length) (fun s => ls.length - s.1) (0, v9_1) (Nat.zero_le _) ?_ (op (by repeat first | exact pn | refine pc 0 rfl ?_)) ?_))))))))))))
   · exact (e2 27 6 rfl en)
   rintro ⟨k2, v⟩ hk2
   dsimp only at hk2 ⊢
   refine sq (rg (oP (Q6 oz oz) rfl (tn (nn (sq (tc oz (fun c28 => ?_) (fun c28 => ?_)))))))
   · try simp only [cq] at c28
     refine sk (nn (sq (tb (sq ?_))))
     have hfl2 := Qps ls (k2 + 1)
     have htf2 := Qi3 (ls := ls) (k := k2) (by omega)
     rw [htf2, List.length_append] at hfl2
     refine rg (oP (Qk oz oz Tryz.underlying146 y1z (by omega) (by omega)) rfl (oP (pL oz y1z) rfl (av rfl rfl (tn (nn (rg (mv rfl rfl (mv rfl rfl (oA (Q0 oz (pA 0 rfl) oz yiy (by omega) (by (simp [maxLen] at *; omega))) (pA 0 rfl) rfl rfl (fun v13_2 _ => ?_))))))))))
     refine av rfl rfl (tn (bn (nn (rg (oP (pad oz ot (by omega)) rfl (mv rfl rfl (tn (nn ?_))))))))
     exact tg (k2 + 1, v13_2) (by show k2 + 1 ≤ ls.length; omega) (by omega) ef (op (by rw [htf2]; exact (by repeat first | exact pn | refine pc 0 rfl ?_)))
   try simp only [cq] at c28
   refine Qy (tx (tx (bh (nn (sq ?_)))))
   obtain rfl : k2 = ls.length := by omega
   rw [List.take_length]
   refine Xh (pA 0 rfl) 6 oz (rg (mv rfl rfl (av rfl rfl (tn (nn (tR ?_))))))
   exact Qh .ret (.inl rfl) rfl () oz trivial (by exact pn)
/-- rhizome/tuple.union -/
theorem Qnk (a b : List Tp) (hab : Small (a ++ b)) : CtM K0 n0 Tryz.prog 44 [SlT kT a, SlT kT b] ([]) Unit (fun _ => Jh K0 n0 (kF K0 n0) (Qfs a b)) (fun _ => []) (fun _ => True) := by
 refine Vu Tryz.func44 rfl rfl ?_
 intro H w hK hn
 have hflat : [a, b].flatten = a ++ b := by simp
 have hfl : [a, b].flatten.length ≤ 1000000 := by rw [hflat]; exact hab.1
 refine sq (rg (ak rfl (tn (nn (sq (rg (mv rfl rfl (mv rfl rfl (oA (Q9 (d := kL) (v0 := []) yx4 y1z z40 (show 2 * 1 ≤ 16777216 from by decide) (by decide) (Qx rfl rfl (by decide) oz (Qx rfl rfl (by decide) oz Qd))) pR rfl rfl (fun _ _ => ?_))))))))))
 refine oA (aC (Qs4 [a, b] (by simp) hfl) y43 (oc oz oN) pR) pR rfl rfl (fun _ _ => ?_)
 rw [hflat]
 refine oA (Zj (Qdh (a ++ b) hab) (Qbn hK hn) y07 (oc oz oN) pR) pR rfl rfl (fun _ _ => ?_)
 refine av rfl rfl (tn (nn (tR ?_)))
 exact Qh .ret (.inl rfl) rfl () oz trivial (by exact pn)
end Go.Proofs.YtklhdalppmjnaaaGreatDoor
namespace Go.Tu
open Go Go.Gw Go.So
theorem Qgh {a b : List Tp} (h : ∀ z, z ∈ a → z ∉ b) : Jp a b = false := by
 rw [Bool.eq_false_iff]
 intro h1
 have h2 := (Ub b a).2 h1
 have h3 : 0 < (Yx b a).length := by omega
 obtain ⟨z, hz⟩ := List.length_pos_iff_exists_mem.1 h3
 unfold Yx at hz
 simp only [List.mem_filter, List.contains_iff_mem] at hz
 exact h z hz.2 hz.1
theorem Qp8 {a b s : List Tp} (hs : Yu s) (h : ∀ z, z ∈ s ↔ z ∈ a ∨ z ∈ b) : Qfs a b = s := (Qbp hs fun z => by rw [h z, List.mem_append]).symm
theorem Qoj {x y z : List Tp} (hx : Yu x) (hy : Yu y) (hz : Yu z) : Qa9 (Qt y x, Qt x y) (Qt z y, Qt y z) = ((Qt z x, Qt x z), 0) := by
 have h1 : ¬ (!Xn (Qt y x) || !Xn (Qt x y) || !Xn (Qt z y) || !Xn (Qt y z)) = true := by
  rw [K7.2 (Jc hy), K7.2 (Jc hx), K7.2 (Jc hz), K7.2 (Jc hy)]; simp
 have h2 : ¬ (Jp (Qt y x) (Qt z y) || Jp (Qt x y) (Qt y z) || Jp (Qt y x) (Qt x y) || Jp (Qt z y) (Qt y z)) = true := by
  rw [Qgh (fun u hu hv => (Xw.1 hv).2 (Xw.1 hu).1), Qgh (fun u hu hv => (Xw.1 hu).2 (Xw.1 hv).1), Qgh (fun u hu hv => (Xw.1 hv).2 (Xw.1 hu).1), Qgh (fun u hu hv => (Xw.1 hu).2 (Xw.1 hv).1)]; simp
 rw [Qa9, if_neg h1, if_neg h2]
 have e1 : Qfs (Qt (Qt y x) (Qt y z)) (Qt (Qt z y) (Qt x y)) = Qt z x := by
  refine Qp8 (Jc hz) fun u => ?_
  simp only [Xw]
  by_cases c1 : u ∈ x <;> by_cases c2 : u ∈ y <;> by_cases c3 : u ∈ z <;> simp [c1, c2, c3]
 have e2 : Qfs (Qt (Qt x y) (Qt z y)) (Qt (Qt y z) (Qt y x)) = Qt x z := by
  refine Qp8 (Jc hx) fun u => ?_
  simp only [Xw]
  by_cases c1 : u ∈ x <;> by_cases c2 : u ∈ y <;> by_cases c3 : u ∈ z <;> simp [c1, c2, c3]
 rw [e1, e2]
abbrev psL (x y : Dl) : List Dl := [(x.1, y.1), (x.2, y.2), (x.1, x.2), (y.1, y.2)]
theorem Qu8 (x y : Dl) : (psL x y).any (fun p => Jp p.1 p.2) = (Jp x.1 y.1 || Jp x.2 y.2 || Jp x.1 x.2 || Jp y.1 y.2) := by
 simp [psL, List.any, Bool.or_assoc]
theorem Q2p {x y : Dl} {q : Dl → Prop} (h1 : q (x.1, y.1)) (h2 : q (x.2, y.2)) (h3 : q (x.1, x.2)) (h4 : q (y.1, y.2)) {k : Nat} (hk : k < 4) : q (at' (psL x y) (k : Int)) := by
 match k, hk with
 | 0, _ => exact h1
 | 1, _ => exact h2
 | 2, _ => exact h3
 | 3, _ => exact h4
end Go.Tu
namespace Go.Tu
open Go Go.Gw Go.So
end Go.Tu
namespace Go.Proofs.YtklhdalppmjnaaaGreatDoor
open Go Go.Gw Go.So Go.Tu
variable {K0 : FH} {n0 : Nat}
theorem Q17 {H : FH} : kL.K H [] [Qn] := ⟨Qn, rfl, none, 0, rfl, by simp, by simp, fun h => by simp at h⟩
theorem Qxk {H : FH} : (kP2 kL).K H ([], []) [Qn, Qn] := ⟨rfl, rfl, fun j x h => by
 match j, h with
 | 0, h => simp at h; subst h; exact Q17
 | 1, h => simp at h; subst h; exact Q17⟩
theorem z78 : Xv Tryz.prog 127 (kP2 kL) ([], []) := ⟨.agg #[Qn, Qn], by kernel_rfl, fun H => ⟨[Qn, Qn], Qxk, rfl⟩⟩
theorem z79 : Xv Tryz.prog 128 (Qdl 4 (kP2 kL)) (List.replicate 4 ([], [])) := ⟨.agg #[Qn, Qn, Qn, Qn, Qn, Qn, Qn, Qn], by kernel_rfl, fun H => ⟨[Qn, Qn, Qn, Qn, Qn, Qn, Qn, Qn], ⟨rfl, rfl, fun j x h => by
 match j, h with
 | 0, h => simp at h; subst h; exact Qxk
 | 1, h => simp at h; subst h; exact Qxk
 | 2, h => simp at h; subst h; exact Qxk
 | 3, h => simp at h; subst h; exact Qxk⟩, rfl⟩⟩

/-- rhizome/tuple.Then -/
theorem Q03 (x y : Dl) (h1 : Few x.1) (h2 : Few x.2) (h3 : Few y.1) (h4 : Few y.2) : Ct Tryz.prog 32 [kD.T x, kD.T y] ([]) Unit (fun _ => J7 [kD.T (Qa9 x y).1, I64 (Qa9 x y).2]) (fun _ => []) (fun _ => True) := by
 refine Qm Tryz.func32 rfl rfl ?_
 intro H w
 refine sq (rg (oA (Xe (d := kD) oz) pR rfl rfl (fun g0_0 _ => ?_)))
 refine oA (Xe (d := kD) oz) pR rfl rfl (fun g0_1 _ => ?_)
 refine oA (Q1 (z44)) pR rfl rfl (fun g0_2 _ => ?_)
 refine ak rfl (tn (nn (sq (sq (rg (oP (pf oz ygo) rfl (oP (plb oz (mA 2 rfl) (Qe.fst (a := kL) (b := kL)) y1z) rfl (oP (pf oz yan) rfl (oP (plb oz (mA 2 rfl) (Qe.snd (a := kL) (b := kL)) y1z) rfl (oP (pf oz ygo) rfl (oP (plb oz (mA 1 rfl) (Qe.fst (a := kL) (b := kL)) y1z) rfl (oP (pf oz yan) rfl (oP (plb oz (mA 1 rfl) (Qe.snd (a := kL) (b := kL)) y1z) rfl (oA (Q9 (d := kL) (v0 := []) yx4 y1z z40 (show 4 * 1 ≤ 16777216 from by decide) (by decide) (Qx rfl rfl (by decide) oz (Qx rfl rfl (by decide) oz (Qx rfl rfl (by decide) oz (Qx rfl rfl (by decide) oz Qd))))) pR rfl rfl (fun _ _ => ?_)))))))))))))))
 refine oA (aC (Qqy [x.1, x.2, y.1, y.2] (by simp)) y9u (oc oz oN) pR) pR rfl rfl (fun _ _ => ?_)
 refine oP (Zn oz) rfl (tn (nn (tc oz (fun c27 => ?_) (fun c27 => ?_))))
 · rw [Q16] at c27
   have hd : Qa9 x y = (([], []), 1) := by rw [Qa9, if_pos (by rw [← c27]; cases Xn x.1 <;> cases Xn x.2 <;> cases Xn y.1 <;> cases Xn y.2 <;> rfl)]
   refine sq (rg (oP (Zc (d := kD) (v0 := ([], [])) (ps := [(0, 1), (1, 1)]) z44 (by kernel_rfl) rfl Qd) rfl (oA (asv oz oz (pA 0 rfl) yh2) (pA 0 rfl) rfl rfl (fun _ _ => ?_))))
   refine ak rfl (tn (nn (tR (tt ?_))))
   exact Zk .ret (.inl rfl) rfl () oz (mA 0 rfl) yh2 oz (fun _ _ h => (by rw [hd]; exact h)) trivial (by exact pn)
 rw [Q16] at c27
 obtain ⟨⟨⟨ra, rb⟩, rc⟩, rd⟩ : ((Xn x.1 = true ∧ Xn x.2 = true) ∧ Xn y.1 = true) ∧ Xn y.2 = true := by simpa using c27
 have hd0 : ¬ (!Xn x.1 || !Xn x.2 || !Xn y.1 || !Xn y.2) = true := by rw [ra, rb, rc, rd]; simp
 refine sk (nn (sq (sq (rg (oP (pf oz ygo) rfl (oP (plb oz (mA 2 rfl) (Qe.fst (a := kL) (b := kL)) y1z) rfl (oP (pf oz ygo) rfl (oP (plb oz (mA 1 rfl) (Qe.fst (a := kL) (b := kL)) y1z) rfl (oP (Xq (d := kP2 kL) (v0 := ([], [])) (agg := false) Tryz.underlying127 y1z z78 rfl (Qi rfl Qe.p0 oz (Qi rfl Qe.p1 oz Qd))) rfl (oP (pf oz yan) rfl (oP (plb oz (mA 2 rfl) (Qe.snd (a := kL) (b := kL)) y1z) rfl (oP (pf oz yan) rfl (oP (plb oz (mA 1 rfl) (Qe.snd (a := kL) (b := kL)) y1z) rfl (oP (Xq (d := kP2 kL) (v0 := ([], [])) (agg := false) Tryz.underlying127 y1z z78 rfl (Qi rfl Qe.p0 oz (Qi rfl Qe.p1 oz Qd))) rfl (oP (pf oz ygo) rfl (oP (plb oz (mA 2 rfl) (Qe.fst (a := kL) (b := kL)) y1z) rfl (oP (pf oz yan) rfl (oP (plb oz (mA 2 rfl) (Qe.snd (a := kL) (b := kL)) y1z) rfl (oP (Xq (d := kP2 kL) (v0 := ([], [])) (agg := false) Tryz.underlying127 y1z z78 rfl (Qi rfl Qe.p0 oz (Qi rfl Qe.p1 oz Qd))) rfl (oP (pf oz ygo) rfl (oP (plb oz (mA 1 rfl) (Qe.fst (a := kL) (b := kL)) y1z) rfl (oP (pf oz yan) rfl (oP (plb oz (mA 1 rfl) (Qe.snd (a := kL) (b := kL)) y1z) rfl ?_)))))))))))))))))))))))
 refine oP (Xq (d := kP2 kL) (v0 := ([], [])) (agg := false) Tryz.underlying127 y1z z78 rfl (Qi rfl Qe.p0 oz (Qi rfl Qe.p1 oz Qd))) rfl (oP (Xq (d := Qdl 4 (kP2 kL)) (v0 := List.replicate 4 ([], [])) (agg := true) Tryz.underlying128 yqh z79 rfl (Qx rfl rfl (by decide) oz (Qx rfl rfl (by decide) oz (Qx rfl rfl (by decide) oz (Qx rfl rfl (by decide) oz Qd))))) rfl (oP (Qp ot) rfl (tn (nn (tb (Z6 (T := (Qdl 4 (kP2 kL)).T (psL x y)) 49 oz (Qr (σ := Nat) (e4 2 3 4 49 rfl en) (fun k => [(50, I64 (k : Int))]) (fun k => [Qb g0_0 38 kD x, Qb g0_1 38 kD y, Qb g0_2 38 kD ([], [])]) (fun k => k ≤ 4 ∧ ((psL x y).drop k).any (fun p => Jp p.1 p.2) = (psL x y).any (fun p => Jp p.1 p.2)) (fun k => 4 - k) 0 ⟨by omega, rfl⟩ ?_ (op (by repeat first | exact pn | refine pc 0 rfl ?_ | refine pc 1 rfl ?_ | refine pc 2 rfl ?_)) ?_)))))))
 · exact (ec 50 rfl en)
 rintro k ⟨hk, hk2⟩
 refine sq (rg (oP (Q6 oz ot) rfl (tn (nn (sq (tc oz (fun c51 => ?_) (fun c51 => ?_)))))))
 · have hk4 : k < 4 := by have := of_decide_eq_true c51; omega
   have hp : Few (at' (psL x y) (k : Int)).1 ∧ Few (at' (psL x y) (k : Int)).2 ∧ Xn (at' (psL x y) (k : Int)).1 = true ∧ Xn (at' (psL x y) (k : Int)).2 = true := Q2p (q := fun p => Few p.1 ∧ Few p.2 ∧ Xn p.1 = true ∧ Xn p.2 = true) ⟨h1, h3, ra, rc⟩ ⟨h2, h4, rb, rd⟩ ⟨h1, h2, ra, rb⟩ ⟨h3, h4, rc, rd⟩ hk4
   have hst := Qlp (l := psL x y) (p := fun p => Jp p.1 p.2) (k := k) (by simp; omega)
   refine sk (nn (sq (tb (sq (rg (oP (Qdo oz oz Tryz.underlying128 yqh (by omega) (by omega)) rfl (oA (Q1 (z78)) pR rfl rfl (fun g5_1 _ => ?_))))))))
   refine oA (asv oz oz (pA 0 rfl) yqh) (pA 0 rfl) rfl rfl (fun _ _ => ?_)
   refine tn (nn (sq (rg (oP (Zh oz (mA 0 rfl) Tryz.underlying127 y1z) rfl (oP (Z3 oz (mA 0 rfl) y1z) rfl (oP (Zi oz (mA 0 rfl) Tryz.underlying127 y1z) rfl (oP (Z4 oz (mA 0 rfl) y1z) rfl (oA (aC (Qgs (at' (psL x y) (k : Int)).1 (at' (psL x y) (k : Int)).2 hp.1.small hp.2.1.small hp.2.2.1 hp.2.2.2) yb7 (oc oz (oc oz oN)) pR) pR rfl rfl (fun _ _ => ?_)))))))))
   refine mv rfl rfl (oP (Ql oz rfl) rfl (oP (Ql oz rfl) rfl (oP (Ql oz rfl) rfl (av rfl rfl (av rfl rfl (av rfl rfl (tn (nn (sq (rg (mv rfl rfl (oP (pls oz Tryz.underlying36) rfl (oP (Y9 oz ot) rfl (tn (nn (tc oz (fun c64 => ?_) (fun c64 => ?_)))))))))))))))))
   · have hm := (Ub _ _).1 (of_decide_eq_true c64)
     rw [meet_comm] at hm
     have hd : Qa9 x y = (([], []), 2) := by rw [Qa9, if_neg hd0, if_pos (by rw [← Qu8, ← hk2, hst, hm, Bool.true_or])]
     refine sq (rg (oP (Zc (d := kD) (v0 := ([], [])) (ps := [(0, 1), (1, 1)]) z44 (by kernel_rfl) rfl Qd) rfl (oA (asv oz oz (pA 3 rfl) yh2) (pA 3 rfl) rfl rfl (fun _ _ => ?_))))
     refine ak rfl (tn (nn (tR (Qw (tt (tt (Qw (tt ?_))))))))
     exact Zk .ret (.inl rfl) rfl () oz (mA 0 rfl) yh2 oz (fun _ _ h => (by rw [hd]; exact h)) trivial (by exact pn)
   have hm : Jp (at' (psL x y) (k : Int)).1 (at' (psL x y) (k : Int)).2 = false := by
    rw [meet_comm, Bool.eq_false_iff]; exact fun e => of_decide_eq_false c64 ((Ub _ _).2 e)
   refine sk (bn (nn (rg (oP (pad oz ot (by omega)) rfl (mv rfl rfl (tn (nn ?_)))))))
   exact tg (k + 1) ⟨by omega, by rw [← hk2, hst, hm, Bool.false_or]⟩ (by omega) ef (op (by repeat first | exact pn | refine pc 1 rfl ?_))
 have hk4 : k = 4 := by have := of_decide_eq_false c51; omega
 have hd : Qa9 x y = ((Qfs (Qt x.1 y.2) (Qt y.1 x.2), Qfs (Qt x.2 y.1) (Qt y.2 x.1)), 0) := by rw [Qa9, if_neg hd0, if_neg (by rw [← Qu8, ← hk2, hk4]; simp)]
 refine Qy (tx (tx (bh (nn (sq (rg (oP (pf oz ygo) rfl (oP (plb oz (mA 0 rfl) (Qe.fst (a := kL) (b := kL)) y1z) rfl (oP (pf oz yan) rfl (oP (plb oz (mA 1 rfl) (Qe.snd (a := kL) (b := kL)) y1z) rfl (oA (aC (Qgs x.1 y.2 h1.small h4.small ra rd) yb7 (oc oz (oc oz oN)) pR) pR rfl rfl (fun _ _ => ?_))))))))))))
 refine mv rfl rfl (oP (Ql oz rfl) rfl (oP (Ql oz rfl) rfl (oP (Ql oz rfl) rfl (av rfl rfl (av rfl rfl (av rfl rfl (tn (nn (sq (rg (oP (pf oz yan) rfl (oP (plb oz (mA 0 rfl) (Qe.snd (a := kL) (b := kL)) y1z) rfl (oP (pf oz ygo) rfl (oP (plb oz (mA 1 rfl) (Qe.fst (a := kL) (b := kL)) y1z) rfl (oA (aC (Qgs x.2 y.1 h2.small h3.small rb rc) yb7 (oc oz (oc oz oN)) pR) pR rfl rfl (fun _ _ => ?_))))))))))))))))
 refine mv rfl rfl (oP (Ql oz rfl) rfl (oP (Ql oz rfl) rfl (oP (Ql oz rfl) rfl (av rfl rfl (av rfl rfl (av rfl rfl (tn (nn (sq (rg (mv rfl rfl (mv rfl rfl (oA (Zj (Qnk (K0 := noK) (n0 := 0) (Qt x.1 y.2) (Qt y.1 x.2) ((h1.without _).both (h3.without _))) Ju y4c (oc oz (oc oz oN)) pR) pR rfl rfl (fun _ _ => ?_))))))))))))))
 refine mv rfl rfl (mv rfl rfl (oA (Zj (Qnk (K0 := noK) (n0 := 0) (Qt x.2 y.1) (Qt y.2 x.1) ((h2.without _).both (h4.without _))) Ju y4c (oc oz (oc oz oN)) pR) pR rfl rfl (fun _ _ => ?_)))
 refine Z6 87 (OT.unfr2 oz) (Z6 90 (OT.unfr2 oz) (oP (Zc (d := kD) (v0 := ([], [])) (ps := [(0, 1), (1, 1)]) z44 (by kernel_rfl) rfl (Qi rfl (Qe.fst (a := kL) (b := kL)) oz (Qi rfl (Qe.snd (a := kL) (b := kL)) oz Qd))) rfl (oA (asv oz oz (pA 2 rfl) yh2) (pA 2 rfl) rfl rfl (fun _ _ => ?_))))
 refine ak rfl (tn (nn (tR ?_)))
 exact Zk .ret (.inl rfl) rfl () oz (mA 0 rfl) yh2 oz (fun _ _ h => (by rw [hd]; exact h)) trivial (by exact pn)
end Go.Proofs.YtklhdalppmjnaaaGreatDoor
namespace Go.Nt
open Go Go.Gw Go.Tu Go.Jn
def inI (n : Int) : Prop := -9223372036854775808 ≤ n ∧ n ≤ 9223372036854775807
def InT (t : Tp) : Prop := ∀ n ∈ t, inI n
def biN (n : Int) : Nat := ((n + 9223372036854775808) % 18446744073709551616).toNat
def be (m : Nat) : Nat → List UInt8
 | 0 => []
 | j + 1 => UInt8.ofNat (m / 256 ^ j % 256) :: be m j
def Kl (n : Int) : List UInt8 := 1 :: be (biN n) 8
def idB (t : Tp) : Lab := t.flatMap Kl
theorem Qu9 (m : Nat) : ∀ j, (be m j).length = j
 | 0 => rfl
 | j + 1 => by rw [be, List.length_cons, Qu9 m j]
theorem Wi (n : Int) : (Kl n).length = 9 := by rw [Kl, List.length_cons, Qu9]
theorem Qva {m m' : Nat} : ∀ {j : Nat}, be m j = be m' j → m % 256 ^ j = m' % 256 ^ j
 | 0, _ => by simp [Nat.mod_one]
 | j + 1, h => by
  rw [be, be] at h
  obtain ⟨h1, h2⟩ := List.cons.inj h
  have h3 := Qva h2
  have h4 := congrArg UInt8.toNat h1
  rw [UInt8.toNat_ofNat', UInt8.toNat_ofNat'] at h4
  have e : ∀ x : Nat, x % 256 ^ (j + 1) = 256 ^ j * (x / 256 ^ j % 256) + x % 256 ^ j := fun x => by
   rw [Nat.pow_succ, Nat.mod_mul]; omega
  have h5 : m / 256 ^ j % 256 = m' / 256 ^ j % 256 := by simpa using h4
  rw [e, e, h3, h5]
theorem Qhx (n : Int) : biN n < 256 ^ 8 := by unfold biN; omega
theorem Qvb {a b : Int} (ha : inI a) (hb : inI b) (h : Kl a = Kl b) : a = b := by
 have h1 := Qva (List.cons.inj h).2
 rw [Nat.mod_eq_of_lt (Qhx a), Nat.mod_eq_of_lt (Qhx b)] at h1
 unfold biN at h1; unfold inI at ha hb; omega
theorem Qef (a : Int) (t : Tp) : idB (a :: t) = Kl a ++ idB t := by simp [idB]
theorem Qze (s t : Tp) : idB (s ++ t) = idB s ++ idB t := by simp [idB]
theorem W7 (t : Tp) : (idB t).length = 9 * t.length := by
 induction t with
 | nil => rfl
 | cons a t ih => rw [Qef, List.length_append, Wi, ih, List.length_cons]; omega
theorem Uo : ∀ {s t : Tp}, InT s → InT t → idB s = idB t → s = t
 | [], [], _, _, _ => rfl
 | [], b :: t, _, _, h => by have := congrArg List.length h; rw [W7, W7] at this; simp at this
 | a :: s, [], _, _, h => by have := congrArg List.length h; rw [W7, W7] at this; simp at this
 | a :: s, b :: t, hs, ht, h => by
  rw [Qef, Qef] at h
  obtain ⟨h1, h2⟩ := List.append_inj h (by rw [Wi, Wi])
  rw [Qvb (hs a List.mem_cons_self) (ht b List.mem_cons_self) h1, Uo (fun n hn => hs n (List.mem_cons_of_mem _ hn)) (fun n hn => ht n (List.mem_cons_of_mem _ hn)) h2]
def nv (al : List Atm) (k : Nat) : Nat := (Qa (al.take k)).length
def RwK (al : List Atm) (E : List Ed) (k : Nat) (t : Tp) : Prop := t.length = nv al k ∧ Sat E (Qa al) (al.take k) t
section
variable {al : List Atm} {E E' : List Ed} {k : Nat} {s t : Tp} {a : Atm} {e : Ed}
theorem Kh : t ∈ Zp (Zb E) (Qa al) (al.take k) ↔ RwK al E k t := (Qfb E (al.take k) (K2 al k)).2 t
theorem Ww : (Zp (Zb E) (Qa al) (al.take k)).Nodup := (Qfb E (al.take k) (K2 al k)).1
theorem Vz : RwK al E 0 t ↔ t = [] := by
 unfold RwK nv Sat
 simp [Qa]
theorem Qaa (h : ∀ x ∈ E, x ∈ E') (hr : RwK al E k t) : RwK al E' k t := ⟨hr.1, fun b hb => h _ (hr.2 b hb)⟩
theorem Qda (h : ∀ x, x ∈ E ↔ x ∈ E') : RwK al E k t ↔ RwK al E' k t := ⟨Qaa fun x => (h x).1, Qaa fun x => (h x).2⟩
theorem Qhy (h : k < al.length) (ha : al[k] = a) : al.take (k + 1) = al.take k ++ [a] := by rw [List.take_succ_eq_append_getElem h, ha]
theorem Qdb (h : k < al.length) (ha : al[k] = a) : Qct (nv al k) (nv al (k + 1)) (ix (Qa al) a.1) (ix (Qa al) a.2.2) := by
 unfold nv
 exact Qt9 (Qbr _) (by rw [Qhy h ha, Qc5]) (K2 al (k + 1))
theorem Jk (h : k < al.length) (ha : al[k] = a) : RwK al E (k + 1) s ↔ s.length = nv al (k + 1) ∧ RwK al E k (s.take (nv al k)) ∧ (s.getD (ix (Qa al) a.1) 0, a.2.1, s.getD (ix (Qa al) a.2.2) 0) ∈ E := by
 have hV := K2 al k
 have hle : nv al k ≤ nv al (k + 1) := by
  unfold nv; rw [Qhy h ha]; exact (Qfa _ _).length_le
 have key : ∀ b ∈ al.take k, ix (Qa al) b.1 < nv al k ∧ ix (Qa al) b.2.2 < nv al k := fun b hb => by
  have hm1 : b.1 ∈ Qa (al.take k) := Y3.2 ⟨b, hb, .inl rfl⟩
  have hm2 : b.2.2 ∈ Qa (al.take k) := Y3.2 ⟨b, hb, .inr rfl⟩
  exact ⟨by unfold ix; rw [Kf hV hm1]; exact List.idxOf_lt_length_of_mem hm1, by unfold ix; rw [Kf hV hm2]; exact List.idxOf_lt_length_of_mem hm2⟩
 unfold RwK Sat
 rw [Qhy h ha]
 constructor
 · rintro ⟨h1, h2⟩
   refine ⟨h1, ⟨by rw [List.length_take]; omega, fun b hb => ?_⟩, h2 a (by simp)⟩
   have := h2 b (by simp [hb])
   obtain ⟨i1, i2⟩ := key b hb
   unfold env at this ⊢
   rw [getD_take i1, getD_take i2]; exact this
 rintro ⟨h1, ⟨h2, h3⟩, h4⟩
 refine ⟨h1, fun b hb => ?_⟩
 rcases List.mem_append.1 hb with hb | hb
 · have := h3 b hb
   obtain ⟨i1, i2⟩ := key b hb
   unfold env at this ⊢
   rw [getD_take i1, getD_take i2] at this; exact this
 have : b = a := by simpa using hb
 subst this; exact h4
def Qab (o : Tp) (i : Nat) (x : Int) : Option Tp := if (if i = o.length then o ++ [x] else o).getD i 0 = x then some (if i = o.length then o ++ [x] else o) else none
def Ko (f t : Nat) (r : Tp) (p : Pr) : Option Tp := (Qab r f p.1).bind fun o => Qab o t p.2
theorem Qfe {o : Tp} {x : Int} : Qab o o.length x = some (o ++ [x]) := by
 unfold Qab; rw [if_pos rfl, if_pos Kg]
theorem Qff {o : Tp} {i : Nat} {x : Int} (h : i < o.length) : Qab o i x = if o.getD i 0 = x then some o else none := by
 unfold Qab; rw [if_neg (show ¬ i = o.length by omega)]
theorem Vg {r : Tp} {m f t : Nat} {p : Pr} (hl : Qct r.length m f t) : Ko f t r p = some s ↔ s.length = m ∧ s.take r.length = r ∧ s.getD f 0 = p.1 ∧ s.getD t 0 = p.2 := by
 unfold Ko
 have tk : ∀ {f : Nat}, f < r.length → s.take r.length = r → s.getD f 0 = r.getD f 0 := fun h h2 => by
  have := getD_take (r := s) h
  rw [h2] at this; exact this.symm
 by_cases c1 : f < r.length
 · rw [Qff c1]
   by_cases e1 : r.getD f 0 = p.1
   · rw [if_pos e1, Option.bind_some]
     by_cases c2 : t < r.length
     · rw [Qff c2]
       have hm := hl.m1 c1 c2
       constructor
       · intro h
         split at h
         · rename_i e2
           cases h; exact ⟨hm.symm, by simp, e1, e2⟩
         cases h
       rintro ⟨h1, h2, h3, h4⟩
       have : s = r := by rw [List.take_of_length_le (by omega)] at h2; exact h2
       subst this
       rw [if_pos h4]
     have ht : t = r.length := by have := hl.t2 c1; omega
     subst ht
     have hm := hl.m2 c1 rfl
     rw [Qfe]
     constructor
     · intro h
       cases h
       exact ⟨by simp [hm], U8, by rw [Qd6 c1]; exact e1, Kg⟩
     rintro ⟨h1, h2, h3, h4⟩
     have := Qpw h2 (by omega)
     rw [h4] at this; rw [this]
   rw [if_neg e1, Option.bind_none]
   constructor
   · intro h; cases h
   rintro ⟨h1, h2, h3, h4⟩
   exact absurd ((tk c1 h2).symm.trans h3) e1
 have hf : f = r.length := by have := hl.f1; omega
 subst hf
 rw [Qfe, Option.bind_some]
 by_cases c3 : t = r.length + 1
 · have hm := hl.m4 rfl c3
   have e : Qab (r ++ [p.1]) t p.2 = some (r ++ [p.1] ++ [p.2]) := by
    have := Qfe (o := r ++ [p.1]) (x := p.2)
    rwa [List.length_append, List.length_singleton, ← c3] at this
   rw [e]
   have e2 : (r ++ [p.1] ++ [p.2]).getD t 0 = p.2 := by
    have := Kg (r := r ++ [p.1]) (b := p.2)
    rwa [List.length_append, List.length_singleton, ← c3] at this
   constructor
   · intro h
     cases h
     exact ⟨by simp [hm], by rw [List.append_assoc]; exact U8, by rw [Qd6 (by simp), Kg], e2⟩
   rintro ⟨h1, h2, h3, h4⟩
   have := Q1u h2 (by omega)
   rw [h3, ← c3, h4] at this; rw [this]
 have ht : t ≤ r.length := by have := hl.t1; omega
 have hm := hl.m3 rfl ht
 rw [Qff (by rw [List.length_append, List.length_singleton]; omega)]
 constructor
 · intro h
   split at h
   · rename_i e2
     cases h
     exact ⟨by simp [hm], U8, Kg, e2⟩
   cases h
 rintro ⟨h1, h2, h3, h4⟩
 have hs := Qpw h2 (by omega)
 rw [h3] at hs
 rw [← hs, if_pos h4]
def Qko (f t : Nat) (r : Tp) (p : Pr) : Prop := if f < r.length then p.1 = r.getD f 0 else if t < r.length then p.2 = r.getD t 0 else True
theorem Qok {r : Tp} {m f t : Nat} {p : Pr} (hl : Qct r.length m f t) (h : Ko f t r p = some s) : Qko f t r p := by
 obtain ⟨h1, h2, h3, h4⟩ := (Vg hl).1 h
 have tk : ∀ {f : Nat}, f < r.length → s.getD f 0 = r.getD f 0 := fun h => by
  have := getD_take (r := s) h
  rw [h2] at this; exact this.symm
 unfold Qko
 split
 · rename_i c; rw [← h3, tk c]
 split
 · rename_i c; rw [← h4, tk c]
 trivial
def Qbf (al : List Atm) (E E' : List Ed) (k : Nat) (t : Tp) : Prop := RwK al E' k t ∧ ¬ RwK al E k t
theorem Qvc : ¬ Qbf al E E' 0 t := fun h => h.2 (Vz.2 (Vz.1 h.1))
theorem Ql3 (h : k < al.length) (ha : al[k] = a) (hE : ∀ x, x ∈ E' ↔ x ∈ E ∨ x = e) (hn : e ∉ E) : Qbf al E E' (k + 1) s ↔
 (∃ t p, Qbf al E E' k t ∧ (p.1, a.2.1, p.2) ∈ E' ∧ Ko (ix (Qa al) a.1) (ix (Qa al) a.2.2) t p = some s) ∨ (a.2.1 = e.2.1 ∧ ∃ t, RwK al E k t ∧ Ko (ix (Qa al) a.1) (ix (Qa al) a.2.2) t (e.1, e.2.2) = some s) := by
 have hl := Qdb h ha
 have hsub : ∀ x ∈ E, x ∈ E' := fun x hx => (hE x).2 (.inl hx)
 have hlen : ∀ {F : List Ed} {t : Tp}, RwK al F k t → Qct t.length (nv al (k + 1)) (ix (Qa al) a.1) (ix (Qa al) a.2.2) := fun hr => by rw [hr.1]; exact hl
 constructor
 · rintro ⟨h1, h2⟩
   obtain ⟨g1, g2, g3⟩ := (Jk h ha).1 h1
   have hl2 := hlen g2
   have hg : Ko (ix (Qa al) a.1) (ix (Qa al) a.2.2) (s.take (nv al k)) (s.getD (ix (Qa al) a.1) 0, s.getD (ix (Qa al) a.2.2) 0) = some s := (Vg hl2).2 ⟨g1, by rw [g2.1], rfl, rfl⟩
   by_cases hr : RwK al E k (s.take (nv al k))
   · rcases (hE _).1 g3 with g4 | g4
     · exact absurd ((Jk h ha).2 ⟨g1, hr, g4⟩) h2
     refine .inr ⟨congrArg (fun x : Ed => x.2.1) g4, _, hr, ?_⟩
     rw [← show _ = e from g4]; exact hg
   exact .inl ⟨_, _, ⟨g2, hr⟩, g3, hg⟩
 rintro (⟨t, p, ⟨h1, h2⟩, h3, h4⟩ | ⟨h1, t, h2, h3⟩)
 · obtain ⟨g1, g2, g3, g4⟩ := (Vg (hlen h1)).1 h4
   rw [h1.1] at g2
   refine ⟨(Jk h ha).2 ⟨g1, by rw [g2]; exact h1, by rw [g3, g4]; exact h3⟩, fun hx => h2 ?_⟩
   have := ((Jk h ha).1 hx).2.1
   rwa [g2] at this
 obtain ⟨g1, g2, g3, g4⟩ := (Vg (hlen h2)).1 h3
 rw [h2.1] at g2
 have hee : (s.getD (ix (Qa al) a.1) 0, a.2.1, s.getD (ix (Qa al) a.2.2) 0) = e := by rw [g3, g4, h1]
 refine ⟨(Jk h ha).2 ⟨g1, by rw [g2]; exact Qaa hsub h2, (hE _).2 (.inr hee)⟩, fun hx => hn ?_⟩
 have := ((Jk h ha).1 hx).2.2
 rwa [hee] at this
def Wo (al : List Atm) (k : Nat) (t : Tp) (e : Ed) : Bool := (al.take k).any fun a => decide ((env (Qa al) t a.1, a.2.1, env (Qa al) t a.2.2) = e)
theorem Qr5 (hE : ∀ x, x ∈ E' ↔ x ∈ E ∧ x ≠ e) : RwK al E' k t ↔ RwK al E k t ∧ Wo al k t e = false := by
 unfold RwK Sat Wo
 rw [List.any_eq_false]
 constructor
 · rintro ⟨h1, h2⟩
   exact ⟨⟨h1, fun a ha => ((hE _).1 (h2 a ha)).1⟩, fun a ha => by simpa using ((hE _).1 (h2 a ha)).2⟩
 rintro ⟨⟨h1, h2⟩, h3⟩
 exact ⟨h1, fun a ha => (hE _).2 ⟨h2 a ha, by simpa using h3 a ha⟩⟩
theorem Yt (hE : ∀ e ∈ E, inI e.1 ∧ inI e.2.2) : RwK al E k t → InT t := by
 have : ∀ (k : Nat) (t : Tp), k ≤ al.length → RwK al E k t → InT t := by
  intro k
  induction k with
  | zero => intro t _ h; rw [Vz.1 h]; intro n hn; cases hn
  | succ k ih =>
   intro t hk h
   have hk' : k < al.length := by omega
   obtain ⟨h1, h2, h3⟩ := (Jk hk' rfl).1 h
   have hl := Qdb (al := al) hk' rfl
   have h4 := ih _ (by omega) h2
   have h5 : (t.take (nv al k)).length = nv al k := h2.1
   obtain ⟨e1, e2⟩ := hE _ h3
   intro n hn
   obtain ⟨i, hi, hin⟩ := List.getElem_of_mem hn
   by_cases c : i < nv al k
   · refine h4 n ?_
     rw [List.mem_take_iff_getElem]
     exact ⟨i, by omega, hin⟩
   have gi : t.getD i 0 = n := by rw [List.getD_eq_getElem?_getD, List.getElem?_eq_getElem hi, hin]; rfl
   have : i = ix (Qa al) al[k].1 ∨ i = ix (Qa al) al[k].2.2 := by
    have q1 := hl.f1; have q2 := hl.t1; have q3 := hl.t2; have q4 := hl.m1; have q5 := hl.m2; have q6 := hl.m3; have q7 := hl.m4
    by_cases c1 : ix (Qa al) al[k].1 < nv al k
    · have q3 := q3 c1
      by_cases c2 : ix (Qa al) al[k].2.2 < nv al k
      · have := q4 c1 c2; omega
      have := q5 c1 (by omega); omega
    have c1' : ix (Qa al) al[k].1 = nv al k := by omega
    by_cases c2 : ix (Qa al) al[k].2.2 ≤ nv al k
    · have := q6 c1' c2; omega
    have := q7 c1' (by omega); omega
   rcases this with c2 | c2
   · rw [← gi, c2]; exact e1
   rw [← gi, c2]; exact e2
 intro h
 by_cases hk : k ≤ al.length
 · exact this k t hk h
 have e1 : al.take k = al.take al.length := by rw [List.take_length, List.take_of_length_le (by omega)]
 refine this al.length t (Nat.le_refl _) ?_
 unfold RwK nv at h ⊢
 rw [e1] at h; exact h
end
def Xj (m : List (Lab × Tp)) (S : Tp → Prop) : Prop := (keys m).Nodup ∧ ∀ s t, (s, t) ∈ m ↔ s = idB t ∧ S t
section
variable {m : List (Lab × Tp)} {S S' : Tp → Prop} {s : Lab} {t : Tp}
theorem Xj.nil : Xj [] (fun _ => False) := ⟨List.nodup_nil, by simp⟩
theorem Xj.congr (h : Xj m S) (hS : ∀ t, S t ↔ S' t) : Xj m S' := ⟨h.1, fun s t => by rw [h.2, hS]⟩
theorem Xj.one : Xj [([], [])] (fun t => t = []) := ⟨by simp [keys], fun s t => by
 simp only [List.mem_singleton, Prod.mk.injEq]
 constructor
 · rintro ⟨rfl, rfl⟩; exact ⟨rfl, rfl⟩
 rintro ⟨rfl, rfl⟩; exact ⟨rfl, rfl⟩⟩
theorem Xj.lkp (h : Xj m S) (hl : Gw.lkp s m = some t) : s = idB t ∧ S t := (h.2 s t).1 (Qdv hl)
theorem Xj.key (h : Xj m S) : s ∈ keys m ↔ ∃ t, s = idB t ∧ S t := by
 constructor
 · intro hs
   obtain ⟨p, hp, rfl⟩ := List.mem_map.1 hs
   exact ⟨p.2, (h.2 p.1 p.2).1 hp⟩
 rintro ⟨t, h1, h2⟩
 exact List.mem_map.2 ⟨(s, t), (h.2 s t).2 ⟨h1, h2⟩, rfl⟩
theorem Qzf {κ α : Type} [DecidableEq κ] {k : κ} {x : α} {m : List (κ × α)} {p : κ × α} (hn : (keys m).Nodup) : p ∈ ptk k x m ↔ p = (k, x) ∨ (p ∈ m ∧ p.1 ≠ k) := by
 rw [(Vc (k := k) (x := x) (m := m)).mem_iff, List.mem_cons]
 have hd : p ∈ dlk k m ↔ p ∈ m ∧ p.1 ≠ k := by
  induction m with
  | nil => simp [dlk]
  | cons q m ih =>
   have hn2 : q.1 ∉ keys m ∧ (keys m).Nodup := List.nodup_cons.1 hn
   unfold dlk
   by_cases e : q.1 = k
   · rw [if_pos e]
     constructor
     · intro hp
       refine ⟨List.mem_cons_of_mem _ hp, fun e2 => hn2.1 ?_⟩
       rw [e, ← e2]; exact List.mem_map.2 ⟨p, hp, rfl⟩
     rintro ⟨hp, hne⟩
     rcases List.mem_cons.1 hp with rfl | hp
     · exact absurd e hne
     exact hp
   rw [if_neg e, List.mem_cons, ih hn2.2, List.mem_cons]
   constructor
   · rintro (rfl | ⟨h1, h2⟩)
     · exact ⟨.inl rfl, e⟩
     exact ⟨.inr h1, h2⟩
   rintro ⟨rfl | h1, h2⟩
   · exact .inl rfl
   exact .inr ⟨h1, h2⟩
 rw [hd]
theorem Qzg {κ α : Type} [DecidableEq κ] {k : κ} {m : List (κ × α)} {p : κ × α} (hn : (keys m).Nodup) : p ∈ dlk k m ↔ p ∈ m ∧ p.1 ≠ k := by
 induction m with
 | nil => simp [dlk]
 | cons q m ih =>
  have hn2 : q.1 ∉ keys m ∧ (keys m).Nodup := List.nodup_cons.1 hn
  unfold dlk
  by_cases e : q.1 = k
  · rw [if_pos e]
    constructor
    · intro hp
      refine ⟨List.mem_cons_of_mem _ hp, fun e2 => hn2.1 ?_⟩
      rw [e, ← e2]; exact List.mem_map.2 ⟨p, hp, rfl⟩
    rintro ⟨hp, hne⟩
    rcases List.mem_cons.1 hp with rfl | hp
    · exact absurd e hne
    exact hp
  rw [if_neg e, List.mem_cons, ih hn2.2, List.mem_cons]
  constructor
  · rintro (rfl | ⟨h1, h2⟩)
    · exact ⟨.inl rfl, e⟩
    exact ⟨.inr h1, h2⟩
  rintro ⟨rfl | h1, h2⟩
  · exact .inl rfl
  exact .inr ⟨h1, h2⟩
theorem Xj.put (h : Xj m S) (hi : InT t) (hS : ∀ u, S u → InT u) : Xj (ptk (idB t) t m) (fun u => S u ∨ u = t) := by
 refine ⟨Yn h.1, fun s u => ?_⟩
 rw [Qzf h.1, h.2]
 constructor
 · rintro (h1 | ⟨⟨h1, h2⟩, h3⟩)
   · cases h1; exact ⟨rfl, .inr rfl⟩
   exact ⟨h1, .inl h2⟩
 rintro ⟨rfl, h1 | rfl⟩
 · by_cases e : idB u = idB t
   · have := Uo (hS u h1) hi e
     subst this; exact .inl rfl
   exact .inr ⟨⟨rfl, h1⟩, e⟩
 exact .inl rfl
theorem Xj.del (h : Xj m S) (hi : InT t) (hS : ∀ u, S u → InT u) : Xj (dlk (idB t) m) (fun u => S u ∧ u ≠ t) := by
 refine ⟨U5 h.1, fun s u => ?_⟩
 rw [Qzg h.1, h.2]
 constructor
 · rintro ⟨⟨h1, h2⟩, h3⟩
   exact ⟨h1, h2, fun e => h3 (by rw [h1, e])⟩
 rintro ⟨rfl, h1, h2⟩
 exact ⟨⟨rfl, h1⟩, fun e => h2 (Uo (hS u h1) hi e)⟩
theorem Xj.rows (h : Xj m S) : (m.map Prod.snd).Nodup ∧ ∀ t, t ∈ m.map Prod.snd ↔ S t := by
 constructor
 · have h1 : (keys m) = (m.map Prod.snd).map idB := by
    unfold keys
    rw [List.map_map]
    exact List.map_congr_left fun p hp => ((h.2 p.1 p.2).1 hp).1
   have h2 := h.1
   rw [h1] at h2
   exact (List.pairwise_map.1 h2).imp fun hne e => hne (by rw [e])
 intro t
 rw [List.mem_map]
 constructor
 · rintro ⟨p, hp, rfl⟩; exact ((h.2 p.1 p.2).1 hp).2
 intro ht; exact ⟨(idB t, t), (h.2 _ _).2 ⟨rfl, ht⟩, rfl⟩
theorem Xj.len (h : Xj m S) {L : List Tp} (hn : L.Nodup) (hL : ∀ t, t ∈ L ↔ S t) : m.length = L.length := by
 obtain ⟨h1, h2⟩ := h.rows
 have := (Qht h1 hn fun x => by rw [h2, hL]).length_eq
 rwa [List.length_map] at this
end
def cnt (f : Tp → Lab) (rows : List Tp) (s : Lab) : Nat := rows.countP fun r => decide (f r = s)
def Yy (c : List (Lab × Int)) (f : Tp → Lab) (rows : List Tp) : Prop := (keys c).Nodup ∧ ∀ s, lkp s c = if cnt f rows s = 0 then none else some (cnt f rows s : Int)
section
variable {c : List (Lab × Int)} {f : Tp → Lab} {rows rows' : List Tp} {s : Lab} {t : Tp}
theorem Yy.nil : Yy [] f [] := ⟨List.nodup_nil, fun s => rfl⟩
theorem Yy.perm (h : Yy c f rows) (hp : rows.Perm rows') : Yy c f rows' := ⟨h.1, fun s => by rw [h.2, cnt, cnt, hp.countP_eq]⟩
theorem Yy.get (h : Yy c f rows) (s : Lab) : (lkp s c).getD 0 = (cnt f rows s : Int) := by
 rw [h.2]; split
 · rename_i e; rw [e]; rfl
 rfl
theorem Qeg {r : Tp} : cnt f (r :: rows) s = cnt f rows s + if f r = s then 1 else 0 := by
 unfold cnt; rw [List.countP_cons]; simp
theorem Yy.put (h : Yy c f rows) (r : Tp) : Yy (ptk (f r) ((lkp (f r) c).getD 0 + 1) c) f (r :: rows) := by
 refine ⟨Yn h.1, fun s => ?_⟩
 rw [Xl, Qeg]
 by_cases e : f r = s
 · subst e
   rw [if_pos rfl, if_pos rfl, if_neg (by omega), h.get]; rfl
 rw [if_neg e, if_neg e, h.2]; rfl
theorem Yy.del (h : Yy c f (t :: rows)) : let n := (lkp (f t) c).getD 0 - 1
 Yy (if n = 0 then dlk (f t) (ptk (f t) n c) else ptk (f t) n c) f rows := by
 have hg := h.get (f t)
 rw [Qeg, if_pos rfl] at hg
 have hn : (lkp (f t) c).getD 0 - 1 = (cnt f rows (f t) : Int) := by omega
 simp only [hn]
 have h2 := h.2
 by_cases e0 : (cnt f rows (f t) : Int) = 0
 · rw [if_pos e0]
   refine ⟨U5 (Yn h.1), fun s => ?_⟩
   rw [Ul (Yn h.1), Xl]
   by_cases e : f t = s
   · subst e; rw [if_pos rfl, if_pos (by omega)]
   rw [if_neg e, if_neg e, h2, Qeg, if_neg e]; rfl
 rw [if_neg e0]
 refine ⟨Yn h.1, fun s => ?_⟩
 rw [Xl]
 by_cases e : f t = s
 · subst e; rw [if_pos rfl, if_neg (by omega)]
 rw [if_neg e, h2, Qeg, if_neg e]; rfl
theorem Yy.key (h : Yy c f rows) : s ∈ keys c ↔ ∃ r ∈ rows, f r = s := by
 have h1 : s ∈ keys c ↔ ¬ cnt f rows s = 0 := by
  rw [← Classical.not_not (a := s ∈ keys c), ← Xx, h.2]
  split <;> simp_all
 rw [h1]
 unfold cnt
 rw [List.countP_eq_zero]
 simp
end
end Go.Nt
namespace Go.Nt
open Go Go.Gw Go.Tu Go.Jn Go.Vl
theorem Q1x {u : Nat} (h : u < 18446744073709551616) : u ^^^ 9223372036854775808 = (u + 9223372036854775808) % 18446744073709551616 := by
 have e63 : (9223372036854775808 : Nat) = 2 ^ 63 := by decide
 have e64 : (18446744073709551616 : Nat) = 2 ^ 64 := by decide
 rw [e63, e64] at *
 apply Nat.eq_of_testBit_eq
 intro i
 rw [Nat.testBit_xor, Nat.testBit_two_pow, Nat.testBit_mod_two_pow, Nat.add_comm u]
 rcases Nat.lt_trichotomy i 63 with hi | rfl | hi
 · rw [Nat.testBit_two_pow_add_gt hi]
   simp [show ¬ 63 = i by omega, show i < 64 by omega]
 · rw [Nat.testBit_two_pow_add_eq]; simp
 have : u.testBit i = false := Nat.testBit_lt_two_pow (Nat.lt_of_lt_of_le h (Nat.pow_le_pow_right (n := 2) (by decide) (show 64 ≤ i from hi)))
 simp [this, show ¬ 63 = i by omega, show ¬ i < 64 by omega]
theorem Q2q (n : Int) : Qgu .xor .u64 (IntKind.u64.wrap n) 9223372036854775808 = (biN n : Int) := by
 have w : IntKind.u64.wrap n = ((n % 18446744073709551616).toNat : Int) := by simp [IntKind.wrap, IntKind.bits, IntKind.signed]; omega
 rw [w, show (9223372036854775808 : Int) = ((9223372036854775808 : Nat) : Int) from rfl, Q1w (by omega) (by decide), Q1x (by omega)]
 unfold biN; omega
theorem Qzh {n : Int} (h : inI n) : IntKind.i64.wrap (Qgu .xor .u64 (biN n : Int) 9223372036854775808) = n := by
 have hl := Qhx n
 have e : (256 : Nat) ^ 8 = 18446744073709551616 := by decide
 rw [e] at hl
 rw [show (9223372036854775808 : Int) = ((9223372036854775808 : Nat) : Int) from rfl, Q1w hl (by decide), Q1x hl]
 have w : ∀ x : Int, IntKind.i64.wrap x = (x + 9223372036854775808) % 18446744073709551616 - 9223372036854775808 := fun x => by simp [IntKind.wrap, IntKind.bits, IntKind.signed]; split <;> omega
 rw [w]
 unfold biN; unfold inI at h; omega
theorem Qzi (m : Nat) {j : Nat} (h : j ≤ 7) : IntKind.u8.wrap ((m : Int).fdiv (2 ^ min ((56 : Int) - 8 * (j : Int)).toNat IntKind.u64.bits)) = ((m / 256 ^ (7 - j) % 256 : Nat) : Int) := by
 have e : (2 : Int) ^ min ((56 : Int) - 8 * (j : Int)).toNat IntKind.u64.bits = ((256 ^ (7 - j) : Nat) : Int) := by
  match j, h with
  | 0, _ => rfl
  | 1, _ => rfl
  | 2, _ => rfl
  | 3, _ => rfl
  | 4, _ => rfl
  | 5, _ => rfl
  | 6, _ => rfl
  | 7, _ => rfl
  | j + 8, h => omega
 rw [e, Int.fdiv_eq_ediv_of_nonneg _ (Int.natCast_nonneg _), Q4j, ← Int.natCast_ediv]
 omega
theorem Qp9 (m : Nat) : ∀ {j i : Nat}, i < j → (be m j).take (i + 1) = (be m j).take i ++ [UInt8.ofNat (m / 256 ^ (j - 1 - i) % 256)]
 | 0, _, h => by omega
 | j + 1, 0, _ => by simp [be]
 | j + 1, i + 1, h => by
  have := Qp9 m (j := j) (i := i) (by omega)
  rw [be, List.take_succ_cons, this, List.take_succ_cons, List.cons_append, show j + 1 - 1 - (i + 1) = j - 1 - i by omega]
theorem Qvd (x : Nat) : (UInt8.ofNat (x % 256)).toNat = x % 256 := by rw [UInt8.toNat_ofNat']; omega
theorem Ql4 (n : Int) {j : Nat} (h : j ≤ 7) : Yh ((Kl n).take (1 + (j + 1))) = Yh ((Kl n).take (1 + j)) ++ [((biN n / 256 ^ (7 - j) % 256 : Nat) : Int)] := by
 have := Qp9 (biN n) (j := 8) (i := j) (by omega)
 rw [show 1 + (j + 1) = (j + 1) + 1 by omega, show 1 + j = j + 1 by omega, Kl, List.take_succ_cons, List.take_succ_cons, this]
 unfold Yh
 rw [← List.cons_append, List.map_append]
 congr 1
 show [(((UInt8.ofNat (biN n / 256 ^ (7 - j) % 256)).toNat : Nat) : Int)] = _
 rw [Qvd]
theorem Qr6 (n : Int) : Yh ((Kl n).take (1 + 0)) = [1] := by simp [Kl, Yh]
theorem Qzj (n : Int) : Yh ((Kl n).take (1 + 8)) = Yh (Kl n) := by rw [List.take_of_length_le (by rw [Wi]; decide)]
def top (n : Int) (i : Nat) : Nat := biN n / 256 ^ (8 - i)
theorem Qve (n : Int) : top n 0 = 0 := by unfold top; exact Nat.div_eq_of_lt (Qhx n)
theorem Qzk (n : Int) : top n 8 = biN n := by unfold top; simp
theorem Qvf (n : Int) {i : Nat} (h : i < 8) : top n (i + 1) = top n i * 256 + biN n / 256 ^ (7 - i) % 256 := by
 unfold top
 have e : 8 - i = (7 - i) + 1 := by omega
 rw [show 8 - (i + 1) = 7 - i by omega, e, Nat.pow_succ, ← Nat.div_div_eq_div_mul]
 omega
theorem Q2r (n : Int) {i : Nat} (h : i < 8) : top n i < 72057594037927936 := by
 unfold top
 have h1 := Qhx n
 have e : (256 : Nat) ^ 8 = 256 ^ (8 - i) * 256 ^ i := by rw [← Nat.pow_add]; congr 1; omega
 have h2 : (256 : Nat) ^ i ≤ 256 ^ 7 := Nat.pow_le_pow_right (by omega) (by omega)
 have h3 : biN n / 256 ^ (8 - i) < 256 ^ i := Nat.div_lt_of_lt_mul (by rw [← e]; exact h1)
 have e7 : (256 : Nat) ^ 7 = 72057594037927936 := by decide
 omega
theorem Qzl {a x : Nat} (ha : a < 72057594037927936) (hx : x < 256) : Qgu .or .u64 (IntKind.u64.wrap ((a : Int) * 2 ^ min (Int.toNat 8) IntKind.u64.bits)) ((x : Nat) : Int) = ((a * 256 + x : Nat) : Int) := by
 rw [show (2 : Int) ^ min (Int.toNat 8) IntKind.u64.bits = 256 from rfl]
 have e1 : IntKind.u64.wrap ((a : Int) * 256) = ((a * 256 : Nat) : Int) := by rw [wrap64 (by omega) (by omega)]; omega
 rw [e1, Q5d (by omega) (by omega)]
 have := Nat.shiftLeft_add_eq_or_of_lt (b := x) (i := 8) (by omega) a
 rw [Nat.shiftLeft_eq] at this
 rw [show a * 256 = a * 2 ^ 8 from rfl, ← this]
theorem Q2s (n : Int) (r : List Int) {i : Nat} (h : i < 8) : at' (Yh (Kl n) ++ r) ((i : Int) + 1) = ((biN n / 256 ^ (7 - i) % 256 : Nat) : Int) := by
 have h1 := Ql4 n (j := i) (by omega)
 have hl : (Yh (Kl n)).length = 9 := by unfold Yh; rw [List.length_map, Wi]
 rw [show ((i : Int) + 1) = ((i + 1 : Nat) : Int) by omega, Qz (by rw [List.length_append]; omega), List.getElem_append_left (by omega)]
 have h2 : ∀ k, Yh ((Kl n).take k) = (Yh (Kl n)).take k := fun k => by unfold Yh; rw [List.map_take]
 rw [h2, h2, show 1 + (i + 1) = (i + 1) + 1 by omega, show 1 + i = i + 1 by omega, List.take_succ_eq_append_getElem (by omega)] at h1
 have := List.append_cancel_left h1
 simpa using this
end Go.Nt
namespace Go.Proofs.YtklhdalppmjnaaaGreatDoor
open Go Go.Gw Go.So Go.Tu Go.Jn Go.Nt
abbrev kB : Kd Int := Jm .u8
abbrev Prt := Bool × Lab × Int
abbrev kPa : Kd Prt := Xm Xc (Xm kS kI)
theorem zB : Xv Tryz.prog 5 kB 0 := ⟨.int .u8 0, by kernel_rfl, fun H => rfl⟩
theorem Q5l : Xv Tryz.prog 187 Qfd (.pointer none, Qn) := ⟨.agg #[.pointer none, Qn], by kernel_rfl, fun H => ⟨[.pointer none, Qn], ⟨[_], [_], ⟨rfl, rfl⟩, ⟨rfl, rfl⟩, rfl⟩, rfl⟩⟩
theorem zPa : Xv Tryz.prog 191 kPa (false, [], 0) := ⟨.agg #[.bool false, .string (bs []), .int .i64 0], by kernel_rfl, fun H => ⟨[.bool false, .string (bs []), .int .i64 0], ⟨[_], [_, _], rfl, ⟨[_], [_], rfl, rfl, rfl⟩, rfl⟩, rfl⟩⟩
theorem lq0 {t : Prt} : Qe kPa Xc 0 t t.1 (fun y => (y, t.2)) := Qe.fst
theorem lq1 {t : Prt} : Qe kPa kS 1 t t.2.1 (fun y => (t.1, y, t.2.2)) := Qe.comp (Qe.snd (a := Xc) (b := Xm kS kI)) (Qe.fst (a := kS) (b := kI))
theorem lq2 {t : Prt} : Qe kPa kI 2 t t.2.2 (fun y => (t.1, t.2.1, y)) := Qe.comp (Qe.snd (a := Xc) (b := Xm kS kI)) (Qe.snd (a := kS) (b := kI))
abbrev adr (b : Nat) (p : Value) : Prop := p = .pointer none ∨ p = pt b 0
theorem Qnl (a b : List UInt8) : Yh (a ++ b) = Yh a ++ Yh b := List.map_append
theorem Wm (l : List UInt8) : (Yh l).length = l.length := List.length_map _

/-- (*strings.Builder).copyCheck -/
theorem Qo6 (b : Nat) (v : Value) : Ct Tryz.prog 132 [IsV (pt b 0)] ([Qb b 187 Qfd (.pointer none, v)]) Unit (fun _ => Yr) (fun _ => [Qb b 187 Qfd (pt b 0, v)]) (fun _ => True) := by
 refine Qm Tryz.func132 rfl rfl ?_
 intro H w
 refine sq (rg (mv rfl rfl (oP (Qc oz) rfl (oP (pf oz ymg) rfl (oP (Qj oz (mA 0 rfl) lb0 yi8) rfl (oP (K1 Qe9 oz Tryz.underlying184) rfl (tn (nn (tc oz (fun c6 => ?_) (fun c6 => ?_))))))))))
 · refine rg (mv rfl rfl (mv rfl rfl (oP (Qkm oz (mA 0 rfl) Tryz.underlying184 Tryz.underlying236 (by kernel_rfl) (by decide)) rfl (oP (Qr4 (e := Extern.AbiNoEscape.same) oz Tryz.func150 (by kernel_rfl) (by kernel_rfl) (by kernel_rfl) (by kernel_rfl) (fun w => rfl)) rfl (oP (Qhw oz (mA 0 rfl) Tryz.underlying236 Tryz.underlying184 (by kernel_rfl) (by kernel_rfl)) rfl (oP (Qc oz) rfl (oP (pf oz ymg) rfl (oA (Zo oz oz (by rfl) (pA 0 rfl) lb0 yi8) (pA 0 rfl) rfl rfl (fun _ _ => ?_)))))))))
   refine tn ?_
   exact Uz .normal (.inr rfl) rfl () (fun _ => trivial) trivial (by repeat first | exact pn | refine pc 0 rfl ?_)
 · exact absurd c6 (by simp) --done
/-- (*strings.Builder).copyCheck -/
theorem Qo7 (b : Nat) (v : Value) : Ct Tryz.prog 132 [IsV (pt b 0)] ([Qb b 187 Qfd (pt b 0, v)]) Unit (fun _ => Yr) (fun _ => [Qb b 187 Qfd (pt b 0, v)]) (fun _ => True) := by
 refine Qm Tryz.func132 rfl rfl ?_
 intro H w
 refine sq (rg (mv rfl rfl (oP (Qc oz) rfl (oP (pf oz ymg) rfl (oP (Qj oz (mA 0 rfl) lb0 yi8) rfl (oP (K1 Qe9 oz Tryz.underlying184) rfl (tn (nn (tc oz (fun c6 => ?_) (fun c6 => ?_))))))))))
 · exact absurd c6 (by simp) --done
 refine sq (rg (mv rfl rfl (oP (Qc oz) rfl (oP (pf oz ymg) rfl (oP (Qj oz (mA 0 rfl) lb0 yi8) rfl (mv rfl rfl (oP (Qf2 oz oz Tryz.underlying184 (by kernel_rfl) (fun v h => by cases h)) rfl ?_)))))))
 refine tn (nn (tc oz (fun c19 => ?_) (fun c19 => ?_)))
 · exact absurd c19 (by simp) --done
 refine sk ?_
 exact Uz .normal (.inr rfl) rfl () (fun _ => trivial) trivial (by repeat first | exact pn | refine pc 0 rfl ?_)
theorem Q04 (b : Nat) (p v : Value) (h : adr b p) : Ct Tryz.prog 132 [IsV (pt b 0)] [Qb b 187 Qfd (p, v)] Unit (fun _ => Yr) (fun _ => [Qb b 187 Qfd (pt b 0, v)]) (fun _ => True) := by
 rcases h with rfl | rfl
 · exact Qo6 b v
 · exact Qo7 b v
/-- (*strings.Builder).Write -/
theorem Qs5 (b : Nat) (p v : Value) (l : List UInt8) (s : List UInt8) (hp : adr b p) (hl : l.length ≤ 900000) (hs : s.length ≤ 90000) : Ct Tryz.prog 113 [IsV (pt b 0), SlT kB (Yh s)] ([Qb b 187 Qfd (p, v), Qg 5 kB v (Yh l)]) Value (fun u => J7 [I64 (s.length : Int), IsV .nilIface]) (fun u => [Qb b 187 Qfd (pt b 0, u), Qg 5 kB u (Yh (l ++ s))]) (fun _ => True) := by
 refine Qm Tryz.func113 rfl rfl ?_
 intro H w
 have hnl := Wm l
 have hns := Wm s
 refine sq (rg (ak rfl (ak rfl (tn (nn (sq (rg (mv rfl rfl (oA (aC (Q04 _ _ _ (by assumption)) ywi (oc oz oN) (pA 0 rfl)) (pA 0 rfl) rfl rfl (fun _ _ => ?_))))))))))
 refine tn (nn (sq (rg (mv rfl rfl (mv rfl rfl (oP (Qc oz) rfl (oP (pf oz yt7) rfl (oP (Qj oz (mA 0 rfl) lb1 ymv) rfl (mv rfl rfl (oA (Q0 oz (pA 1 rfl) oz ydu (by omega) (by (simp [maxLen]; omega))) (pA 1 rfl) rfl rfl (fun v2_6 _ => ?_)))))))))))
 refine oP (Qc oz) rfl (oP (pf oz yt7) rfl (Vq (Zv 0 rfl) Ve fun hone => (oA (Zo oz oz (by assumption) (pA 1 rfl) lb1 ymv) (pA 1 rfl) rfl rfl (fun _ _ => ?_))))
 refine tn (nn (sq (rg (mv rfl rfl (oP (pls oz Tryz.underlying185) rfl (av rfl rfl (ak rfl (tn (nn (tR ?_))))))))))
 exact Yl .ret (.inl rfl) rfl v2_6 (OT.val oz (congrArg (Value.int _) (by rw [hns]))) oz (fun _ _ h => h) trivial (by rw [Qnl]; exact (by repeat first | exact pn | refine pc 0 rfl ?_))
/-- (*strings.Builder).String -/
theorem Q05 (b : Nat) (p v : Value) (l : List UInt8) (hl : l.length ≤ 1000000) (hn : l = [] → v = Qn) : Ct Tryz.prog 114 [IsV (pt b 0)] ([Qb b 187 Qfd (p, v), Qg 5 kB v (Yh l)]) Unit (fun _ => BsT l) (fun _ => []) (fun _ => True) := by
 refine Qm Tryz.func114 rfl rfl ?_
 intro H w
 have hnl := Wm l
 have hn2 : Yh l = [] → v = Qn := fun e => hn (by simpa using e)
 refine sq (rg (ak rfl (tn (nn (sq ?_)))))
 apply Xs (m := 10) (ns := [[(0, none)], [(3, some 0)], [(4, some 1)], [(5, some 2)], [(6, some 3)], [(0, none)], [(8, some 5)], [(9, some 6)], [(10, some 7)], [(11, some 8)]]) (by kernel_rfl) (by kernel_rfl) (Ts := [_, _, _, _, _, _, _, _, _, _]) rfl
 case hops =>
  exact ⟨rmv rfl, rP (Qc oz), rP (pf oz yt7), rP (Qj oz (mA 0 rfl) lb1 ymv), rP (Qu5 oz (mA 1 rfl) (by assumption)), rmv rfl, rP (Qc oz), rP (pf oz yt7), rP (Qj oz (mA 0 rfl) lb1 ymv), rP (Xt oz (mA 1 rfl) Tryz.underlying185), trivial⟩
 case h =>
  refine Z6 12 (T := I64 (l.length : Int)) (OT.val oz (by rw [hnl])) ?_
  refine oA (Qed oz oz (pA 1 rfl) Tryz.underlying221 (by kernel_rfl)) (pA 1 rfl) rfl rfl (fun _ _ => ?_)
  refine av rfl rfl (tn (nn (tR ?_)))
  exact Qh .ret (.inl rfl) rfl () oz trivial (by exact pn)
/-- rhizome/key.Num -/
theorem Qxl (n : Int) : Ct Tryz.prog 112 [I64 n] ([]) Unit (fun _ => kPa.T (false, [], n)) (fun _ => []) (fun _ => True) := by
 refine Qm Tryz.func112 rfl rfl ?_
 intro H w
 refine sq (rg (oA (Q1 (zPa)) pR rfl rfl (fun g0_0 _ => ?_)))
 refine tn (nn (sq (rg (mv rfl rfl (oP (Zc (d := kPa) (v0 := (false, [], 0)) (ps := [(0, 1), (1, 1), (2, 1)]) zPa (by kernel_rfl) rfl (Qi rfl lq2 oz Qd)) rfl (oA (asv oz oz (pA 0 rfl) y1x) (pA 0 rfl) rfl rfl (fun _ _ => ?_)))))))
 refine tn (nn (tR ?_))
 exact Qgy .ret (.inl rfl) rfl () oz (mA 0 rfl) y1x rfl trivial (by exact pn)
/-- rhizome/key.put -/
theorem Q3i (v : Value) (xs : List Int) (n : Int) (hm : xs.length ≤ 1000000) : Ct Tryz.prog 130 [IsV v, kPa.T (false, [], n)] ([Qg 5 kB v xs]) Value (fun u => IsV u) (fun u => [Qg 5 kB u (xs ++ Yh (Kl n))]) (fun _ => True) := by
 refine Qm Tryz.func130 rfl rfl ?_
 intro H w
 refine sq (rg (oA (Xe (d := kPa) oz) pR rfl rfl (fun g0_0 _ => ?_)))
 refine ak rfl (tn (nn (sq (sq (rg (oP (pf oz yjw) rfl (oP (plb oz (mA 0 rfl) lq0 yp3) rfl (tn (nn (tc oz (fun c7 => ?_) (fun c7 => ?_)))))))))))
 · cases c7 --done
 · refine sk (nn (sq (rg (mv rfl rfl (oA (Q9 (d := kB) (v0 := 0) ydu ysr zB (show 1 * 1 ≤ 16777216 from by decide) (by decide) (Qx rfl rfl (by decide) ot Qd)) pR rfl rfl (fun _ _ => ?_))))))
   refine oA (Q0 oz (pA 1 rfl) oz ydu (by (simp; omega)) (by (simp [maxLen]; omega))) (pA 1 rfl) rfl rfl (fun v5_2 _ => ?_)
   refine av rfl rfl (tn (nn (sq (sq (rg (ak rfl (tn (nn (tb (Qr (σ := Nat × Value) (ec 3 rfl en) (fun s => [(5, I64 (56 - 8 * (s.1 : Int))), (0, IsV s.2)]) (fun s => [Qg 5 kB s.2 (xs ++ Yh ((Kl n).take (1 + s.1))), Qb g0_0 191 kPa (false, [], n)]) (fun s => s.1 ≤ 8) (fun s => 8 - s.1) (0, v5_2) (Nat.zero_le _) ?_ (op (by rw [Qr6]; exact (by repeat first | exact pn | refine pc 0 rfl ?_))) ?_))))))))))
   · exact (e2 5 0 rfl en)
   rintro ⟨j, u⟩ hj
   dsimp only at hj ⊢
   have hjl : (Yh ((Kl n).take (1 + j))).length ≤ 9 := by rw [Wm, List.length_take, Wi]; omega
   refine sq (sq (rg (mv rfl rfl (oP (Vh oz ot) rfl (tn (nn (tc oz (fun c23 => ?_) (fun c23 => ?_))))))))
   · refine sk (nn (sq (tb ?_)))
     have hj7 : j ≤ 7 := by simp only [decide_eq_true_eq] at c23; omega
     have het := Ql4 n hj7
     refine rg (mv rfl rfl (oP (pf oz yzt) rfl (oP (plb oz (mA 1 rfl) lq2 ynm) rfl (oP (Qam oz Tryz.underlying3 Tryz.underlying216) rfl (oP (Qj3 oz ot (by simp)) rfl ?_)))))
     refine mv rfl rfl (oP (Q2e oz oz (by omega)) rfl (oP (Qam oz Tryz.underlying216 Tryz.underlying5) rfl (Z6 33 (T := Zt .u8 ((biN n / 256 ^ (7 - j) % 256 : Nat) : Int)) (OT.eq oz (congrArg (Zt .u8) (by rw [Q2q, Qzi _ hj7]))) ?_)))
     refine oA (Q9 (d := kB) (v0 := 0) ydu ysr zB (show 1 * 1 ≤ 16777216 from by decide) (by decide) (Qx rfl rfl (by decide) oz Qd)) pR rfl rfl (fun _ _ => ?_)
     refine oA (Q0 oz (pA 0 rfl) oz ydu (by (simp; omega)) (by (simp [maxLen]; omega))) (pA 0 rfl) rfl rfl (fun v9_9 _ => ?_)
     refine av rfl rfl (tn (bn (nn (rg (mv rfl rfl (oP (J5 oz ot (by omega)) rfl (av rfl rfl (tn (nn ?_)))))))))
     exact tg (j + 1, v9_9) (by show j + 1 ≤ 8; omega) (by show 8 - (j + 1) < 8 - j; omega) (ea (Qv (t := 5) (OT.val oz (congrArg (Value.int _) (by show _ = 56 - 8 * ((j + 1 : Nat) : Int); omega))) (ec 0 rfl en)) ef) (op (by rw [het, ← List.append_assoc]; exact (by repeat first | exact pn | refine pc 0 rfl ?_)))
   refine Qy (tx (tx (bh (nn (sq ?_)))))
   obtain rfl : j = 8 := by simp only [decide_eq_false_iff_not] at c23; omega
   rw [Qzj]
   refine rg (mv rfl rfl (av rfl rfl (tn (nn (tR ?_)))))
   exact Qh .ret (.inl rfl) rfl u oz trivial (by repeat first | exact pn | refine pc 0 rfl ?_)
/-- slices.Clip[[]byte,byte] -/
theorem Qxm (l : List Int) : Ct Tryz.prog 131 [Jh noK 0 kB l] ([]) Unit (fun _ => SlT kB l) (fun _ => []) (fun _ => True) := by
 refine Qm Tryz.func131 rfl rfl ?_
 intro H w
 refine sq (rg (ak rfl (tn (nn (sq (rg (mv rfl rfl (mv rfl rfl (Z6 4 (OT.fresh oz) (oP (pls oz Tryz.underlying185) rfl (mv rfl rfl (Z6 6 (OT.fresh oz) (oP (pls oz Tryz.underlying185) rfl (oP (Qdt oz oz oz Tryz.underlying185 ysr) rfl (av rfl rfl (tn (nn (tR ?_))))))))))))))))))
 exact Qh .ret (.inl rfl) rfl () (OT.fresh (OT.unclip oz)) trivial (by exact pn)
/-- slices.Clip[[]rhizome/key.Part,rhizome/key.Part] -/
theorem Qxn (l : List Prt) : Ct Tryz.prog 222 [Jh noK 0 kPa l] ([]) Unit (fun _ => SlT kPa l) (fun _ => []) (fun _ => True) := by
 refine Qm Tryz.func222 rfl rfl ?_
 intro H w
 refine sq (rg (ak rfl (tn (nn (sq (rg (mv rfl rfl (mv rfl rfl (Z6 4 (OT.fresh oz) (oP (pls oz Tryz.underlying193) rfl (mv rfl rfl (Z6 6 (OT.fresh oz) (oP (pls oz Tryz.underlying193) rfl (oP (Qdt oz oz oz Tryz.underlying193 y1x) rfl (av rfl rfl (tn (nn (tR ?_))))))))))))))))))
 exact Qh .ret (.inl rfl) rfl () (OT.fresh (OT.unclip oz)) trivial (by exact pn)
end Go.Proofs.YtklhdalppmjnaaaGreatDoor
