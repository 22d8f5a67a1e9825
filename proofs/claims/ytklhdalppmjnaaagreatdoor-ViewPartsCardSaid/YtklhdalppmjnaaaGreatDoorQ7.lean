/- The texts JnB, G33, Jn1, Jn2, Jn3, JnE, JnC, JnD, JnF, Jn4, Jn5, JnG, Jn6, JnH, Jn7, JnL, JnM, JnN, G29, G34, G36, G37, G39, G43, G45, G46, VlA, VlB, Tu7, Tu8, TuF, Tu9, NtA, NtK of this claim, put together in their order. No condition of their own. -/
import Derived.Test.YtklhdalppmjnaaaGreatDoorQ4
import Derived.Test.YtklhdalppmjnaaaGreatDoorQ6
import Derived.ChangeKeysEq
import Derived.Laws.StructEq
import Derived.Test.YtklhdalppmjnaaaGreatDoorQ1
import Derived.Test.YtklhdalppmjnaaaGreatDoorRows
import Derived.Handed
import Derived.SizedLaws
import Derived.LaidLaws
import Derived.Lib.LaidTab
import Derived.Test.YtklhdalppmjnaaaGreatDoorQ2
import Derived.Lib.TrimUEq
import Derived.Laws.IdiomCopy
import Derived.Lib.AppendStr
import Derived.Lib.UnsafeStr
import Derived.Lib.Builder
import Derived.Laws.Externs
import Derived.Maps.RangeRun
import Derived.Lib.RuneBytes
import Derived.Lib.ValidLaws
import Derived.Laws.BitsAllLaws
set_option linter.unusedVariables false
set_option linter.unusedSimpArgs false
set_option linter.unusedSectionVars false
set_option maxHeartbeats 1000000
set_option maxRecDepth 20000
namespace Go.Jn
open Go Go.Gw Go.Tu
def ixI (vs : List Lab) (x : Lab) : Int := if vs.contains x then (ix vs x : Int) else -1
theorem Qdk {vs : List Lab} {x : Lab} (h : x ∈ vs) : ixI vs x = (ix vs x : Int) := by unfold ixI; rw [if_pos (by simpa using h)]
theorem Qqf {vs : List Lab} {x : Lab} (h : x ∈ vs) : ix vs x < vs.length := List.idxOf_lt_length_of_mem h
section
variable {vs : List Lab} {x : Lab} {k : Nat}
theorem Qu1 (h : k < vs.length) (hno : x ∉ vs.take k) (he : x = at' vs (k : Int)) : ixI vs x = (k : Int) := by
 rw [Q1 h] at he
 have hin : x ∈ vs := he ▸ List.getElem_mem h
 rw [Qdk hin]
 have hs := List.take_append_drop k vs
 rw [List.drop_eq_getElem_cons h, ← he] at hs
 unfold ix
 rw [← hs, List.idxOf_append, if_neg hno, List.length_take]
 simp; omega
theorem Qu2 (h : k < vs.length) (hno : x ∉ vs.take k) (he : ¬ x = at' vs (k : Int)) : x ∉ vs.take (k + 1) := by
 rw [Q1 h] at he
 rw [List.take_succ_eq_append_getElem h]
 simp only [List.mem_append, List.mem_singleton]
 rintro (h1 | h1)
 · exact hno h1
 exact he h1
theorem Qu3 (hno : x ∉ vs.take vs.length) : ixI vs x = -1 := by
 rw [List.take_length] at hno
 unfold ixI; rw [if_neg (by simpa using hno)]
theorem Qzg : decide (0 ≤ ixI vs x) = vs.contains x := by
 unfold ixI
 split
 · rename_i h; rw [h]; simp
 rename_i h; simp only [Bool.not_eq_true] at h; rw [h]; rfl
end
theorem Qji (l : Lab) : (decide ((1 : Int) ≤ (l.length : Int)) && decide ((l.length : Int) ≤ 16) && !(!l.all Qbj)) = Yt l := by
 unfold Yt
 rw [Bool.not_not]
 congr 1
 congr 1
 · rw [Bool.eq_iff_iff]; simp; omega
 rw [Bool.eq_iff_iff]; simp; omega
theorem Qmc {al : List Atm} {k : Nat} (h : k < al.length) : Qa (al.take (k + 1)) = Qa3 (Qa (al.take k)) (at' al (k : Int)) := by
 rw [Q1 h, List.take_succ_eq_append_getElem h, Qdh]
end Go.Jn
namespace Go.Jn
open Go Go.Gw Go.Tu
def Qgb (out : List Lab) (a : Atm) (j : Nat) : List Lab := ([a.1, a.2.2].take j).foldl Wg out
theorem Qow (out : List Lab) (a : Atm) {j : Nat} (h : j < ([a.1, a.2.2] : List Lab).length) : Qgb out a (j + 1) = Wg (Qgb out a j) (at' [a.1, a.2.2] (j : Int)) := by
 unfold Qgb
 rw [Q1 h, List.take_succ_eq_append_getElem h, List.foldl_append]; rfl
theorem Qr1 (out : List Lab) (a : Atm) (j : Nat) : (Qgb out a j).length ≤ out.length + 2 := by
 have h1 : ∀ (x : Lab) (o : List Lab), (Wg o x).length ≤ o.length + 1 := fun x o => by rw [Qbx]; split <;> omega
 unfold Qgb
 match j with
 | 0 => simp
 | 1 => exact Nat.le_trans (h1 _ _) (by omega)
 | j + 2 => have := h1 a.2.2 (Wg out a.1); have := h1 a.1 out; simp only [List.take_succ_cons, List.take_nil, List.foldl_cons, List.foldl_nil]; omega
end Go.Jn
namespace Go.Jn
open Go Go.Gw Go.Tu
def Qek (a : Atm) : Bool := Yt a.1 && Yt a.2.1 && Yt a.2.2
def preB (v : Vw) : Bool := Yt v.1 && decide (v.2.2.2.2 = []) && decide ((1 : Int) ≤ v.2.2.1.length) && decide ((v.2.2.1.length : Int) ≤ 6) && decide ((1 : Int) ≤ v.2.2.2.1.length) && decide ((v.2.2.2.1.length : Int) ≤ 8)
def Qox (v : Vw) : Bool := Yt v.1 && Yt v.2.2.2.2 && decide ((v.2.2.1.length : Int) = 0) && decide ((v.2.2.2.1.length : Int) = 0)
def Ka (v : Vw) : Bool := if v.2.1 = 2 then Qox v else if v.2.1 = 1 then preB v && v.2.2.2.1.all Qek && Qhy (Qa v.2.2.2.1) v.2.2.1 else false
end Go.Jn
namespace Go.Jn
open Go Go.Gw Go.Tu
theorem Qjj {α : Type} [Inhabited α] {l : List α} {p : α → Bool} {k : Nat} (h : k < l.length) : (l.take (k + 1)).all p = ((l.take k).all p && p (at' l (k : Int))) := by
 rw [Q1 h, List.take_succ_eq_append_getElem h, List.all_append]; simp
theorem Qoy {v : Vw} {k : Nat} (h : k < v.2.2.2.1.length) : (preB v && (v.2.2.2.1.take k).all Qek && Yt (at' v.2.2.2.1 (k : Int)).1 && Yt (at' v.2.2.2.1 (k : Int)).2.1 && Yt (at' v.2.2.2.1 (k : Int)).2.2) = (preB v && (v.2.2.2.1.take (k + 1)).all Qek) := by
 rw [Qjj h]; unfold Qek; simp only [Bool.and_assoc]
theorem Qu4 {V out : List Lab} {i : Nat} (h : i < out.length) : (Qhy V (out.take i) && V.contains (at' out (i : Int)) && !(out.take i).contains (at' out (i : Int))) = Qhy V (out.take (i + 1)) := by
 unfold Qhy
 rw [Qjj h]
 have hn : (out.take (i + 1)).Nodup ↔ (out.take i).Nodup ∧ at' out (i : Int) ∉ out.take i := by
  rw [Q1 h, List.take_succ_eq_append_getElem h, List.nodup_append]
  constructor
  · rintro ⟨h1, _, h3⟩
    exact ⟨h1, fun hm => h3 _ hm _ (by simp) rfl⟩
  rintro ⟨h1, h2⟩
  refine ⟨h1, by simp, fun a ha b hb e => ?_⟩
  have : b = out[i] := by simpa using hb
  subst this; subst e; exact h2 ha
 rw [Bool.eq_iff_iff]
 simp only [Bool.and_eq_true, decide_eq_true_eq, hn, Bool.not_eq_true', List.contains_eq_mem, decide_eq_false_iff_not]
 constructor
 · rintro ⟨⟨⟨h1, h2⟩, h3⟩, h4⟩; exact ⟨⟨h1, h3⟩, h2, h4⟩
 rintro ⟨⟨h1, h3⟩, h2, h4⟩; exact ⟨⟨⟨h1, h2⟩, h3⟩, h4⟩
theorem Q4r {v : Vw} {b : Bool} (h : decide (v.2.1 = 2) = true) (hb : (!Qox v) = b) : (if b then (1 : Int) else 0) = if Ka v then 0 else 1 := by
 have h1 : v.2.1 = 2 := by simpa using h
 unfold Ka; rw [if_pos h1, ← hb]; cases Qox v <;> rfl
theorem Q5p {v : Vw} (h : decide (v.2.1 = 2) = false) (h1 : decide (v.2.1 = 1) = false) : (1 : Int) = if Ka v then 0 else 1 := by
 have h2 : ¬ v.2.1 = 2 := by simpa using h
 have h3 : ¬ v.2.1 = 1 := by simpa using h1
 unfold Ka; rw [if_neg h2, if_neg h3]; rfl
theorem Q5q {v : Vw} (h : decide (v.2.1 = 2) = false) (h1 : decide (v.2.1 = 1) = true) (hp : (!(preB v && v.2.2.2.1.all Qek)) = true) : (1 : Int) = if Ka v then 0 else 1 := by
 have h2 : ¬ v.2.1 = 2 := by simpa using h
 have h3 : v.2.1 = 1 := by simpa using h1
 have h4 : (preB v && v.2.2.2.1.all Qek) = false := by cases hx : (preB v && v.2.2.2.1.all Qek) with
  | false => rfl
  | true => rw [hx] at hp; exact hp.symm
 unfold Ka; rw [if_neg h2, if_pos h3, h4]; rfl
theorem Q4s {v : Vw} {b : Bool} (h : decide (v.2.1 = 2) = false) (h1 : decide (v.2.1 = 1) = true) (hp : (!(preB v && v.2.2.2.1.all Qek)) = false) (ho : (!Qhy (Qa v.2.2.2.1) v.2.2.1) = b) : (if b then (1 : Int) else 0) = if Ka v then 0 else 1 := by
 have h2 : ¬ v.2.1 = 2 := by simpa using h
 have h3 : v.2.1 = 1 := by simpa using h1
 have h4 : (preB v && v.2.2.2.1.all Qek) = true := by cases hx : (preB v && v.2.2.2.1.all Qek) with
  | true => rfl
  | false => rw [hx] at hp; exact hp.symm
 unfold Ka; rw [if_neg h2, if_pos h3, h4, ← ho]; cases Qhy (Qa v.2.2.2.1) v.2.2.1 <;> rfl
theorem Qu5 {v : Vw} (h : preB v = true) : v.2.2.1.length ≤ 6 ∧ 1 ≤ v.2.2.1.length ∧ v.2.2.2.1.length ≤ 8 ∧ 1 ≤ v.2.2.2.1.length := by
 unfold preB at h
 simp only [Bool.and_eq_true, decide_eq_true_eq] at h
 omega
theorem Qzh (v : Vw) : (preB v && v.2.2.2.1.all Qek) = Qr0 v := by
 unfold preB Qr0 Qek
 have e : ∀ (n : Nat) (c : Nat), decide ((n : Int) ≤ (c : Int)) = decide (n ≤ c) := fun n c => by rw [Bool.eq_iff_iff]; simp
 have e1 : ∀ n : Nat, decide ((1 : Int) ≤ (n : Int)) = decide (1 ≤ n) := fun n => by rw [Bool.eq_iff_iff]; simp; omega
 rw [e1, e1, show (6 : Int) = ((6 : Nat) : Int) from rfl, show (8 : Int) = ((8 : Nat) : Int) from rfl, e, e]
theorem Qhz (v : Vw) : (decide (v.2.1 ≠ 1) || decide ((if Ka v then (0 : Int) else 1) ≠ 0)) = !okV v := by
 rw [decide_not, decide_not]
 unfold okV
 by_cases h : v.2.1 = 1
 · have h2 : ¬ v.2.1 = 2 := by omega
   unfold Ka
   rw [if_neg h2, if_pos h, Qzh]
   cases hb : (Qr0 v && Qhy (Qa v.2.2.2.1) v.2.2.1) <;> simp [h, hb]
 simp [h]
end Go.Jn
namespace Go.Gw
open Go
theorem Kc.mono {H H' : FH} (hs : Sub H H') : ∀ {As : List Ty} {vs : List Value}, Kc H As vs → Kc H' As vs
 | [], [], _ => trivial
 | T :: As, v :: vs, h => ⟨Ty.mono T hs h.1, Kc.mono hs h.2⟩
section
variable {P : Program} {f : FuncId} {As As' : List Ty} {J : List It} {ρ : Type} {T : ρ → Ty} {φ : ρ → Prop} {Q : FH → Prop} {K0 : FH} {n0 : Nat}
open Classical in
theorem Qr2 {H H1 H2 : FH} {w w' : World} (hon : On H w) (hO : Xu (fun _ => True) w H J) (h1 : Sub H H1) (hn : ∀ k o, H1 k = some o → H k = some o ∨ k ∈ X8 J) (hs : St (fun g => g ∈ X8 []) H1 w H2 w') :
 ∃ H', St (fun g => g ∈ X8 J) H w H' w' ∧ Xu (fun g => g ∈ X8 J ∨ w.heap.size ≤ g) w' H' J := by
 have hst : St noM H w (fun k => if H k = none ∧ k ∈ X8 J then none else H2 k) w' := by
  refine ⟨fun k o e => ?_, fun k o e => ?_, hs.os, hs.tape, hs.output, hs.size, fun k hk _ => hs.keep k hk (by simp [X8]), fun k o e => ?_⟩
  · show (if H k = none ∧ k ∈ X8 J then none else H2 k) = some o
    rw [if_neg (fun h => by rw [h.1] at e; cases e)]
    exact hs.sub k o (h1 k o e)
  · by_cases hc : H k = none ∧ k ∈ X8 J
    · simp only [if_pos hc] at e; cases e
    simp only [if_neg hc] at e; exact hs.on k o e
  by_cases hc : H k = none ∧ k ∈ X8 J
  · simp only [if_pos hc] at e; cases e
  simp only [if_neg hc] at e
  rcases hs.new k o e with e2 | e2 | e2
  · rcases hn k o e2 with e3 | e3
    · exact .inl e3
    refine .inl ?_
    cases hk : H k with
    | none => exact absurd ⟨hk, e3⟩ hc
    | some o' => have := h1 k o' hk; rw [e2] at this; cases this; rfl
  · exact .inr (.inl e2)
  exact absurd e2 (by simp [X8])
 refine ⟨_, hst.none, ?_⟩
 have hO2 : Xu (fun g => g ∈ X8 J ∨ w.heap.size ≤ g) w H J := ⟨hO.all, hO.nodup, fun g hg => ⟨(hO.own g hg).1, (hO.own g hg).2.1, .inl hg⟩⟩
 exact hO2.st0 hst
theorem Ct.lend (hf : Frz J Q) (h : Ct P f As [] ρ T (fun _ => []) φ) (hc : ∀ H args, Kc H As' args → Q H → Kc H As args) (hT : ∀ r H H' v, (T r).p H v → (T r).p H' v) : Ct P f As' J ρ T (fun _ => J) φ := by
 intro H w args hon hA hO
 have hO2 : Xu (fun g => g ∈ X8 J) w H (J ++ []) := by rw [List.append_nil]; exact ⟨hO.all, hO.nodup, fun g hg => ⟨(hO.own g hg).1, (hO.own g hg).2.1, hg⟩⟩
 obtain ⟨H1, h1, h2, h3, _, h5⟩ := hf _ w H [] hon hO2
 refine (h H1 w args h2 (hc H1 args (hA.mono h1) h5) Xu.nil).mono ?_
 rintro e w' ⟨r, v, H2, rfl, hφ, hs, hv, _⟩
 obtain ⟨H', k1, k2⟩ := Qr2 hon hO h1 h3 hs
 exact ⟨r, v, H', rfl, hφ, k1, hT r _ _ v hv, k2⟩
theorem Qr3 {ρ : Type} {b : ρ → Bool} : ∀ (r : ρ) (H H' : FH) (v : Value), (Xe (b r)).p H v → (Xe (b r)).p H' v := fun _ _ _ _ h => h
theorem Qzi {A B : Ty} {As : List Ty} {args : List Value} {H : FH} (hAB : ∀ v, A.p H v → B.p H v) (h : Kc H (A :: As) args) : Kc H (B :: As) args := by
 match args, h with
 | v :: vs, h => exact ⟨hAB v h.1, h.2⟩
theorem Ct.lend_hd {α : Type} {d : Kd α} {e : TypeId} {v : Value} {xs : List α} (h : Ct P f (SlT d xs :: As) [] ρ T (fun _ => []) φ) (hT : ∀ r H H' v, (T r).p H v → (T r).p H' v) : Ct P f (IsV v :: As) [Qh e d v xs] ρ T (fun _ => [Qh e d v xs]) φ :=
 Ct.lend Frz.own h (fun H args hA hQ => Qzi (fun u hu => by rw [show u = v from hu]; exact hQ) hA) hT
end
end Go.Gw
namespace Go.Gw
open Go Go.MapKept
section
variable {C : Cx} {Γ : Env} {L R : List It} {dst : Option Tmp} {ty : TypeId} {pos : String} {after : Array Edge} {guard : Option (Nat × Bool)} {x y z : Operand}
variable {κ α : Type} [DecidableEq κ] {t kt et : TypeId} {K : Kd κ} {enc : κ → Value} {m : List (κ × α)} {g st : Nat} {k : κ}
theorem Vk {d : Kd α} {z0 : α} (mk : Ky C.P kt K enc) (ht : C.P.underlying t = some (.map kt et)) (hz : Xw C.P et d z0) (hx : OT C.N Γ x (IsV (mp g))) (hm : Qi5 g enc d.T (ptk k ((lkp k m).getD z0) m) k st ∈ L) (hy : OT C.N Γ y (K.T k)) :
 Pure C Γ L ⟨dst, .lookup t x y false, ty, pos, after, guard⟩ (d.T ((lkp k m).getD z0)) := fun a w H f s ow => by
 obtain ⟨es, clock, hb, hR, _⟩ := ow.all _ hm
 obtain ⟨zv, hzr, hzt⟩ := Kq (w := w) hz
 have hxv : a.eval x = mp g := hx a H f
 have hyv : a.eval y = enc k := mk.val (hy a H f)
 have hl : lkp k (ptk k ((lkp k m).getD z0) m) = some ((lkp k m).getD z0) := by rw [Xl, if_pos rfl]
 rcases Ud (k := k) mk ht hb hR hzr with ⟨h1, _⟩ | ⟨v0, v, h1, h2, h3, _⟩
 · rw [hl] at h1; cases h1
 rw [hl] at h1; cases h1; exact ⟨v, by simp [execOp, hxv, hyv, h3, Result.andThen], h2⟩
end
end Go.Gw
namespace Go.Gw
theorem Yh {L : List It} (i j : Nat) {x y : It} (h : L[i]? = some x) (h' : (L.eraseIdx i)[j]? = some y) : L.Perm ([x, y] ++ (L.eraseIdx i).eraseIdx j) := (Qq i h).trans ((Qq j h').cons x)
end Go.Gw
namespace Go.Proofs.YtklhdalppmjnaaaGreatDoor
open Go Go.Gw Go.So Go.Tu Go.Jn
abbrev kI : Kd Int := Jw .i64
abbrev kE : Kd Ed := Xo kI (Xo kS kI)
abbrev kA : Kd Atm := Xo kS (Xo kS kS)
abbrev kV : Kd Vw := Xo kS (Xo kI (Xo (ksl kS) (Xo (ksl kA) kS)))
abbrev kPP : Kd Pr := kP2 kI
theorem zI : Xw Tryz.prog 3 kI 0 := ⟨.int .i64 0, by kernel_rfl, fun H => rfl⟩
theorem zS : Xw Tryz.prog 9 kS [] := ⟨.string (bs []), by kernel_rfl, fun H => rfl⟩
theorem Uj {α : Type} {d : Kd α} {H : FH} : (SlT d []).p H Qo := ⟨none, 0, rfl, by simp, by simp, fun h => by simp at h⟩
theorem e_p (H : FH) (t : Ed) : (kE.T t).p H (.agg #[.int .i64 t.1, .string (bs t.2.1), .int .i64 t.2.2]) := ⟨[.int .i64 t.1, .string (bs t.2.1), .int .i64 t.2.2], ⟨[_], [_, _], rfl, ⟨[_], [_], rfl, rfl, rfl⟩, rfl⟩, rfl⟩
theorem a_p (H : FH) (t : Atm) : (kA.T t).p H (.agg #[.string (bs t.1), .string (bs t.2.1), .string (bs t.2.2)]) := ⟨[.string (bs t.1), .string (bs t.2.1), .string (bs t.2.2)], ⟨[_], [_, _], rfl, ⟨[_], [_], rfl, rfl, rfl⟩, rfl⟩, rfl⟩
theorem zE : Xw Tryz.prog 42 kE (0, [], 0) := ⟨.agg #[.int .i64 0, .string (bs []), .int .i64 0], by kernel_rfl, fun H => e_p H (0, [], 0)⟩
theorem zA : Xw Tryz.prog 49 kA ([], [], []) := ⟨.agg #[.string (bs []), .string (bs []), .string (bs [])], by kernel_rfl, fun H => a_p H ([], [], [])⟩
theorem zV : Xw Tryz.prog 25 kV ([], 0, [], [], []) := ⟨.agg #[.string (bs []), .int .i64 0, Qo, Qo, .string (bs [])], by kernel_rfl, fun H => ⟨[.string (bs []), .int .i64 0, Qo, Qo, .string (bs [])], ⟨[_], [_, _, _, _], rfl, ⟨[_], [_, _, _], rfl, ⟨[_], [_, _], ⟨Qo, rfl, Uj⟩, ⟨[_], [_], ⟨Qo, rfl, Uj⟩, rfl, rfl⟩, rfl⟩, rfl⟩, rfl⟩, rfl⟩⟩
theorem zT : Xw Tryz.prog 51 kT [] := ⟨Qo, by kernel_rfl, fun H => Uj⟩
theorem zP : Xw Tryz.prog 108 kPP (0, 0) := ⟨.agg #[.int .i64 0, .int .i64 0], by kernel_rfl, fun H => ⟨[.int .i64 0, .int .i64 0], ⟨rfl, rfl, fun j x e => by
 match j, e with
 | 0, e => cases e; rfl
 | 1, e => cases e; rfl
 | j + 2, e => simp at e⟩, rfl⟩⟩
theorem le0 {t : Ed} : Qf kE kI 0 t t.1 (fun y => (y, t.2)) := Qf.fst
theorem le1 {t : Ed} : Qf kE kS 1 t t.2.1 (fun y => (t.1, y, t.2.2)) := Qf.comp (Qf.snd (a := kI) (b := Xo kS kI)) (Qf.fst (a := kS) (b := kI))
theorem le2 {t : Ed} : Qf kE kI 2 t t.2.2 (fun y => (t.1, t.2.1, y)) := Qf.comp (Qf.snd (a := kI) (b := Xo kS kI)) (Qf.snd (a := kS) (b := kI))
theorem la0 {t : Atm} : Qf kA kS 0 t t.1 (fun y => (y, t.2)) := Qf.fst
theorem la1 {t : Atm} : Qf kA kS 1 t t.2.1 (fun y => (t.1, y, t.2.2)) := Qf.comp (Qf.snd (a := kS) (b := Xo kS kS)) (Qf.fst (a := kS) (b := kS))
theorem la2 {t : Atm} : Qf kA kS 2 t t.2.2 (fun y => (t.1, t.2.1, y)) := Qf.comp (Qf.snd (a := kS) (b := Xo kS kS)) (Qf.snd (a := kS) (b := kS))
abbrev kV4 : Kd (List Atm × Lab) := Xo (ksl kA) kS
abbrev kV3 : Kd (List Lab × List Atm × Lab) := Xo (ksl kS) kV4
abbrev kV2 : Kd (Int × List Lab × List Atm × Lab) := Xo kI kV3
theorem lv0 {t : Vw} : Qf kV kS 0 t t.1 (fun y => (y, t.2)) := Qf.fst
theorem lv1 {t : Vw} : Qf kV kI 1 t t.2.1 (fun y => (t.1, y, t.2.2)) := Qf.comp (Qf.snd (a := kS) (b := kV2)) (Qf.fst (a := kI) (b := kV3))
theorem lv2 {t : Vw} : Qf kV (ksl kS) 2 t t.2.2.1 (fun y => (t.1, t.2.1, y, t.2.2.2)) := Qf.comp (Qf.snd (a := kS) (b := kV2)) (Qf.comp (Qf.snd (a := kI) (b := kV3)) (Qf.fst (a := ksl kS) (b := kV4)))
theorem lv3 {t : Vw} : Qf kV (ksl kA) 3 t t.2.2.2.1 (fun y => (t.1, t.2.1, t.2.2.1, y, t.2.2.2.2)) := Qf.comp (Qf.snd (a := kS) (b := kV2)) (Qf.comp (Qf.snd (a := kI) (b := kV3)) (Qf.comp (Qf.snd (a := ksl kS) (b := kV4)) (Qf.fst (a := ksl kA) (b := kS))))
theorem lv4 {t : Vw} : Qf kV kS 4 t t.2.2.2.2 (fun y => (t.1, t.2.1, t.2.2.1, t.2.2.2.1, y)) := Qf.comp (Qf.snd (a := kS) (b := kV2)) (Qf.comp (Qf.snd (a := kI) (b := kV3)) (Qf.comp (Qf.snd (a := ksl kS) (b := kV4)) (Qf.snd (a := ksl kA) (b := kS))))

/-- slices.Index[[]string,string] -/
theorem W2 (vs : List Lab) (x : Lab) (hm : vs.length ≤ 1000000) : Ct Tryz.prog 50 [SlT kS vs, BsT x] ([]) Unit (fun _ => I64 (ixI vs x)) (fun _ => []) (fun _ => True) := by
 refine Qn Tryz.func50 rfl rfl ?_
 intro H w
 refine sq (rg (ak rfl (tn (nn (sq (sq (rg (mv rfl rfl (oP (pls oz Tryz.underlying22) rfl (oP (Qm ot) rfl (tn (nn (tb (Qt (σ := Nat) (e2 0 1 rfl (ec 7 rfl en)) (fun k => [(8, I64 (k : Int))]) (fun k => []) (fun k => k ≤ vs.length ∧ x ∉ vs.take k) (fun k => vs.length - k) 0 ⟨Nat.zero_le _, by simp⟩ ?_ (op (by exact pn)) ?_))))))))))))))
 · exact (ec 8 rfl en)
 · rintro k ⟨hk, hno⟩
   refine sq (rg (oP (Q5 oz oz) rfl (tn (nn (sq (tc oz (fun c9 => ?_) (fun c9 => ?_)))))))
   · try simp only [cq] at c9
     refine sk (nn (sq (tb (sq (rg (mv rfl rfl (av rfl rfl (tn (nn (sq (rg (mv rfl rfl (mv rfl rfl (mv rfl rfl (oP (Qj oz oz Tryz.underlying22 ylw (by omega) (by omega)) rfl (oP (pL oz ylw) rfl (oP (Vz oz oz) rfl (tn (nn (tc oz (fun c16 => ?_) (fun c16 => ?_)))))))))))))))))))))
     · try simp only [cq] at c16
       have hres := Qu1 (vs := vs) (x := x) (k := k) (by omega) hno c16
       refine sq (rg (mv rfl rfl (av rfl rfl (tn (nn (tR (Qw (tt (tt (Qw (tt ?_)))))))))))
       exact Qi .ret (.inl rfl) rfl () (OT.val oz (congrArg (Value.int _) (hres.symm))) trivial (by exact pn)
     try simp only [cq] at c16
     have hst := Qu2 (vs := vs) (x := x) (k := k) (by omega) hno c16
     refine sk (bn (nn (rg (oP (pad oz ot (by omega)) rfl (mv rfl rfl (tn (nn ?_)))))))
     exact tg (k + 1) ⟨by omega, hst⟩ (by omega) ef (op (by exact pn))
   try simp only [cq] at c9
   refine Qx (tx (tx (bh (nn (sq ?_)))))
   obtain rfl : k = vs.length := by omega
   have hres := Qu3 (vs := vs) (x := x) hno
   refine rg (ak rfl (tn (nn (tR ?_))))
   exact Qi .ret (.inl rfl) rfl () (OT.val oz (congrArg (Value.int _) (hres.symm))) trivial (by exact pn)
/-- slices.Contains[[]string,string] -/
theorem Qba (vs : List Lab) (x : Lab) (hm : vs.length ≤ 1000000) : Ct Tryz.prog 54 [SlT kS vs, BsT x] ([]) Unit (fun _ => Xe (vs.contains x)) (fun _ => []) (fun _ => True) := by
 refine Qn Tryz.func54 rfl rfl ?_
 intro H w
 refine sq (rg (ak rfl (tn (nn (sq (rg (mv rfl rfl (mv rfl rfl (oA (aC (W2 _ _ (by assumption)) yd4 (oc oz (oc oz oN)) pR) pR rfl rfl (fun _ _ => ?_))))))))))
 refine oP (Vi oz ot) rfl (av rfl rfl (tn (nn (tR ?_))))
 exact Qi .ret (.inl rfl) rfl () (OT.val oz (congrArg Value.bool (Qzg))) trivial (by exact pn)
/-- rhizome/query.name -/
theorem Qe8 (l : Lab) : Ct Tryz.prog 53 [BsT l] ([]) Unit (fun _ => Xe (Yt l)) (fun _ => []) (fun _ => True) := by
 refine Qn Tryz.func53 rfl rfl ?_
 intro H w
 refine sq (rg (ak rfl (tn (nn (sq (rg (mv rfl rfl (oP (Wt Tryz.underlying9 oz) rfl (oP (Vi oz ot) rfl (mv rfl rfl (oG rfl rfl rfl (gm oz) (fun hg => by (have hg1 := hg.2; (try simp only [cq2] at hg1); exact Qm oz)) rfl ?_)))))))))))
 refine oG rfl rfl rfl (gm oz) (fun hg => by (have hg1 := hg.2; (try simp only [cq2] at hg1); exact Wt Tryz.underlying9 (gu oz hg))) rfl ?_
 refine oG rfl rfl rfl (gm oz) (fun hg => by (have hg1 := hg.2; (try simp only [cq2] at hg1); exact V8 (gu oz hg) ot)) rfl ?_
 refine oP (Q2 oz oz) rfl (mv rfl rfl (oG rfl rfl rfl (gm oz) (fun hg => by (have hg1 := hg.2; (try simp only [cq2] at hg1); exact Qm oz)) rfl ?_))
 refine Zw () rfl rfl rfl (gm oz) (fun hg => by (have hg1 := hg.2; (try simp only [cq2] at hg1); exact Zo (Qmb (K0 := noK) (n0 := 0) _) J1 yu6 (oc (gu oz hg) (oc OT.func oN)) pR)) rfl (fun _ _ => ?_)
 refine oG rfl rfl rfl (gm oz) (fun hg => by (have hg1 := hg.2; (try simp only [cq2] at hg1); exact Zf (gu oz hg))) rfl ?_
 refine oP (Q2 oz oz) rfl (av rfl rfl (tn (nn (tR ?_))))
 exact Qi .ret (.inl rfl) rfl () (OT.val oz (congrArg Value.bool (Qji l))) trivial (by exact pn)

/-- rhizome/query.Vars -/
theorem Qbb (v : Vw) (hv : v.2.2.2.1.length ≤ 1000) : Ct Tryz.prog 49 [kV.T v] ([]) Unit (fun _ => SlT kS (Qa v.2.2.2.1)) (fun _ => []) (fun _ => True) := by
 refine Qn Tryz.func49 rfl rfl ?_
 intro H w
 refine sq (rg (oA (Xf (d := kV) oz) pR rfl rfl (fun g0_0 _ => ?_)))
 refine ak rfl (tn (nn (sq (rg (ak rfl (tn (nn (sq (sq (Xg 9 kS (rg (oP (pf oz y46) rfl (oP (plb oz (mA 1 rfl) lv3 y2r) rfl (oP (pls oz Tryz.underlying23) rfl (oP (Qm ot) rfl (tn (nn (tb (Qt (σ := Nat × Value) (e2 9 10 rfl en) (fun s => [(11, I64 (s.1 : Int)), (3, IsV s.2)]) (fun s => [Qh 9 kS s.2 (Qa (v.2.2.2.1.take s.1)), Qb g0_0 25 kV v]) (fun s => s.1 ≤ v.2.2.2.1.length) (fun s => v.2.2.2.1.length - s.1) (0, Qo) (Nat.zero_le _) ?_ (op (by repeat first | exact pn | refine pc 0 rfl ?_)) ?_)))))))))))))))))))
 · exact (e2 11 3 rfl en)
 · rintro ⟨k, vo⟩ hk
   dsimp only at hk ⊢
   refine sq (rg (oP (Q5 oz oz) rfl (tn (nn (sq (tc oz (fun c12 => ?_) (fun c12 => ?_)))))))
   · try simp only [cq] at c12
     refine sk (nn (sq (tb (sq ?_))))
     obtain ⟨a, ha⟩ : ∃ a, at' v.2.2.2.1 (k : Int) = a := ⟨_, rfl⟩
     have hsn := Qmc (k := k) (show k < v.2.2.2.1.length by omega)
     have hvl := K8 (v.2.2.2.1.take k)
     rw [List.length_take] at hvl
     rw [ha] at hsn
     refine rg (oP (Qj oz oz Tryz.underlying23 y03 (by omega) (by omega)) rfl (oP (pL oz y03) rfl (oA (Qz (zA)) pR rfl rfl (fun g4_2 _ => ?_))))
     refine oA (asv oz oz (pA 0 rfl) y03) (pA 0 rfl) rfl rfl (fun _ _ => ?_)
     refine tn (nn (sq ?_))
     rw [ha]
     refine rg (oP (pf oz ytp) rfl (oP (plb oz (mA 0 rfl) la0 ylw) rfl (oP (pf oz ypg) rfl (oP (plb oz (mA 0 rfl) la2 ylw) rfl (oA (Q7 (d := kS) (v0 := []) yr6 ylw zS (show 2 * 1 ≤ 16777216 from by decide) (by decide) (Qv rfl rfl (by decide) oz (Qv rfl rfl (by decide) oz Qc))) pR rfl rfl (fun _ _ => ?_))))))
     refine oP (pls oz Tryz.underlying22) rfl (oP (Qm ot) rfl (tn (Zt 19 (T := SlT kS [a.1, a.2.2]) oz (Zt 20 (T := I64 2) oz ?_))))
     refine nn (tb (Qt (σ := Nat × Value) (e4 9 10 11 19 rfl (ec 20 rfl en)) (fun s => [(21, I64 (s.1 : Int)), (3, IsV s.2)]) (fun s => [Qh 9 kS s.2 (Qgb (Qa (v.2.2.2.1.take k)) a s.1), Qb g0_0 25 kV v]) (fun s => s.1 ≤ 2) (fun s => 2 - s.1) (0, vo) (Nat.zero_le _) ?_ (op (by repeat first | exact pn | refine pc 1 rfl ?_)) ?_))
     · exact (e2 21 3 rfl en)
     rintro ⟨j, vo2⟩ hj
     dsimp only at hj ⊢
     refine sq (rg (oP (Q5 oz oz) rfl (tn (nn (sq (tc oz (fun c22 => ?_) (fun c22 => ?_)))))))
     · try simp only [cq] at c22
       refine sk (nn (sq (tb (sq ?_))))
       obtain ⟨x, hx⟩ : ∃ x, at' [a.1, a.2.2] (j : Int) = x := ⟨_, rfl⟩
       obtain ⟨out, ho⟩ : ∃ o, Qgb (Qa (v.2.2.2.1.take k)) a j = o := ⟨_, rfl⟩
       have hol := Qr1 (Qa (v.2.2.2.1.take k)) a j
       have hst := Qow (Qa (v.2.2.2.1.take k)) a (j := j) (by show j < 2; omega)
       rw [hx, ho] at hst
       rw [ho] at hol
       rw [ho]
       refine rg (oP (Qj oz oz Tryz.underlying22 ylw (by omega) (by omega)) rfl (oP (pL oz ylw) rfl (av rfl rfl (tn (nn (sq ?_))))))
       rw [hx]
       refine rg (mv rfl rfl (mv rfl rfl (oA (aC (Ct.lend_hd (Qba out x (by omega)) Qr3) y5k (oc oz (oc oz oN)) (pA 0 rfl)) (pA 0 rfl) rfl rfl (fun _ _ => ?_))))
       refine oP (Zf oz) rfl (tn (nn (tc oz (fun c28 => ?_) (fun c28 => ?_))))
       · try simp only [cq] at c28
         rw [Wg, if_neg (by simpa using c28)] at hst
         refine rg (mv rfl rfl (mv rfl rfl (oA (Q7 (d := kS) (v0 := []) yr6 ylw zS (show 1 * 1 ≤ 16777216 from by decide) (by decide) (Qv rfl rfl (by decide) oz Qc)) pR rfl rfl (fun _ _ => ?_))))
         refine oA (Q0 oz (pA 0 rfl) oz yr6 (by (simp; omega)) (by (simp [maxLen]; omega))) (pA 0 rfl) rfl rfl (fun v9_3 _ => ?_)
         refine av rfl rfl (tn (bn (nn (rg (oP (pad oz ot (by omega)) rfl (mv rfl rfl (tn (nn ?_))))))))
         exact tg (j + 1, v9_3) (by show j + 1 ≤ 2; omega) (by show 2 - (j + 1) < 2 - j; omega) ef (op (by rw [hst]; exact (by repeat first | exact pn | refine pc 0 rfl ?_)))
       try simp only [cq] at c28
       rw [Wg, if_pos (by simpa using c28)] at hst
       refine sk (bn (nn (rg (oP (pad oz ot (by omega)) rfl (mv rfl rfl (tn (nn ?_)))))))
       exact tg (j + 1, vo2) (by show j + 1 ≤ 2; omega) (by show 2 - (j + 1) < 2 - j; omega) ef (op (by rw [hst]; exact (by repeat first | exact pn | refine pc 0 rfl ?_)))
     try simp only [cq] at c22
     refine Qx (tx (tx (bh (bn (nn ?_)))))
     obtain rfl : j = 2 := by omega
     have hend : Qgb (Qa (v.2.2.2.1.take k)) a 2 = Qa (v.2.2.2.1.take (k + 1)) := hsn.symm
     refine rg (oP (pad oz ot (by omega)) rfl (mv rfl rfl (tn (nn ?_))))
     exact tg (k + 1, vo2) (by show k + 1 ≤ v.2.2.2.1.length; omega) (by omega) ef (op (by rw [← hend]; exact (by repeat first | exact pn | refine pc 0 rfl ?_)))
   try simp only [cq] at c12
   refine Qx (tx (tx (bh (nn (sq ?_)))))
   obtain rfl : k = v.2.2.2.1.length := by omega
   rw [List.take_length]
   refine Xh (pA 0 rfl) 3 oz (rg (mv rfl rfl (av rfl rfl (tn (nn (tR ?_))))))
   exact Qi .ret (.inl rfl) rfl () oz trivial (by exact pn)

/-- rhizome/query.Check -/
theorem Qnz (v : Vw) (ho : v.2.2.1.length ≤ maxLen) (ha : v.2.2.2.1.length ≤ maxLen) : Ct Tryz.prog 34 [kV.T v] ([]) Unit (fun _ => I64 (if Ka v then 0 else 1)) (fun _ => []) (fun _ => True) := by
 refine Qn Tryz.func34 rfl rfl ?_
 intro H w
 unfold maxLen at ho ha
 refine sq (rg (oA (Xf (d := kV) oz) pR rfl rfl (fun g0_0 _ => ?_)))
 refine ak rfl (tn (nn (sq (rg (oP (pf oz yd0) rfl (oP (plb oz (mA 0 rfl) lv0 ylw) rfl (oA (aC (Qe8 _) yye (oc oz oN) pR) pR rfl rfl (fun _ _ => ?_))))))))
 refine av rfl rfl (tn (nn (sq (sq (rg (oP (pf oz yel) rfl (oP (plb oz (mA 0 rfl) lv1 ynm) rfl (tn (nn (tb (sq (rg (oP (Zs oz ot) rfl (av rfl rfl (tn (nn (tc oz (fun c14 => ?_) (fun c14 => ?_))))))))))))))))))
 · refine rg (mv rfl rfl (mv rfl rfl (oG rfl rfl rfl (gm oz) (fun hg => by (have hg1 := hg.2; (try simp only [cq2] at hg1); exact pf oz yys)) rfl ?_)))
   refine oG rfl rfl rfl (gm oz) (fun hg => by (have hg1 := hg.2; (try simp only [cq2] at hg1); exact plb (gu oz hg) (mA 0 rfl) lv4 ylw)) rfl ?_
   refine Zw () rfl rfl rfl (gm oz) (fun hg => by (have hg1 := hg.2; (try simp only [cq2] at hg1); exact aC (Qe8 _) yye (oc (gu oz hg) oN) pR)) rfl (fun _ _ => ?_)
   refine oP (Q2 oz oz) rfl (mv rfl rfl (oG rfl rfl rfl (gm oz) (fun hg => by (have hg1 := hg.2; (try simp only [cq2] at hg1); exact pf oz yss)) rfl ?_))
   refine oG rfl rfl rfl (gm oz) (fun hg => by (have hg1 := hg.2; (try simp only [cq2] at hg1); exact plb (gu oz hg) (mA 0 rfl) lv2 ye4)) rfl ?_
   refine oG rfl rfl rfl (gm oz) (fun hg => by (have hg1 := hg.2; (try simp only [cq2] at hg1); exact pls (gu oz hg) Tryz.underlying22)) rfl ?_
   refine oG rfl rfl rfl (gm oz) (fun hg => by (have hg1 := hg.2; (try simp only [cq2] at hg1); exact Zs (gu oz hg) ot)) rfl ?_
   refine oP (Q2 oz oz) rfl (mv rfl rfl (oG rfl rfl rfl (gm oz) (fun hg => by (have hg1 := hg.2; (try simp only [cq2] at hg1); exact pf oz y46)) rfl ?_))
   refine oG rfl rfl rfl (gm oz) (fun hg => by (have hg1 := hg.2; (try simp only [cq2] at hg1); exact plb (gu oz hg) (mA 0 rfl) lv3 y2r)) rfl ?_
   refine oG rfl rfl rfl (gm oz) (fun hg => by (have hg1 := hg.2; (try simp only [cq2] at hg1); exact pls (gu oz hg) Tryz.underlying23)) rfl ?_
   refine oG rfl rfl rfl (gm oz) (fun hg => by (have hg1 := hg.2; (try simp only [cq2] at hg1); exact Zs (gu oz hg) ot)) rfl ?_
   refine oP (Q2 oz oz) rfl (av rfl rfl (tn (bn (nn (sq (sq (rg (mv rfl rfl (oP (Zf oz) rfl (tn (nn (tc oz (fun c119 => ?_) (fun c119 => ?_)))))))))))))
   · refine sq (rg (ak rfl (tn (nn (tR (tt ?_))))))
     exact Qi .ret (.inl rfl) rfl () (OT.val oz (congrArg (Value.int _) (Q4r (b := true) c14 c119))) trivial (by exact pn)
   refine sk (nn (sq (rg (ak rfl (tn (nn (tR ?_)))))))
   exact Qi .ret (.inl rfl) rfl () (OT.val oz (congrArg (Value.int _) (Q4r (b := false) c14 c119))) trivial (by exact pn)
 · refine sq (rg (oP (Zs oz ot) rfl (av rfl rfl (tn (nn (tc oz (fun c34 => ?_) (fun c34 => ?_)))))))
   · refine sq (rg (mv rfl rfl (mv rfl rfl (oG rfl rfl rfl (gm oz) (fun hg => by (have hg1 := hg.2; (try simp only [cq2] at hg1); exact pf oz yys)) rfl ?_))))
     refine oG rfl rfl rfl (gm oz) (fun hg => by (have hg1 := hg.2; (try simp only [cq2] at hg1); exact plb (gu oz hg) (mA 0 rfl) lv4 ylw)) rfl ?_
     refine oG rfl rfl rfl (gm oz) (fun hg => by (have hg1 := hg.2; (try simp only [cq2] at hg1); exact Vz (gu oz hg) ot)) rfl ?_
     refine oP (Q2 oz oz) rfl (mv rfl rfl (oG rfl rfl rfl (gm oz) (fun hg => by (have hg1 := hg.2; (try simp only [cq2] at hg1); exact pf oz yss)) rfl ?_))
     refine oG rfl rfl rfl (gm oz) (fun hg => by (have hg1 := hg.2; (try simp only [cq2] at hg1); exact plb (gu oz hg) (mA 0 rfl) lv2 ye4)) rfl ?_
     refine oG rfl rfl rfl (gm oz) (fun hg => by (have hg1 := hg.2; (try simp only [cq2] at hg1); exact pls (gu oz hg) Tryz.underlying22)) rfl ?_
     refine oG rfl rfl rfl (gm oz) (fun hg => by (have hg1 := hg.2; (try simp only [cq2] at hg1); exact Vi (gu oz hg) ot)) rfl ?_
     refine oP (Q2 oz oz) rfl (mv rfl rfl (oG rfl rfl rfl (gm oz) (fun hg => by (have hg1 := hg.2; (try simp only [cq2] at hg1); exact pf oz yss)) rfl ?_))
     refine oG rfl rfl rfl (gm oz) (fun hg => by (have hg1 := hg.2; (try simp only [cq2] at hg1); exact plb (gu oz hg) (mA 0 rfl) lv2 ye4)) rfl ?_
     refine oG rfl rfl rfl (gm oz) (fun hg => by (have hg1 := hg.2; (try simp only [cq2] at hg1); exact pls (gu oz hg) Tryz.underlying22)) rfl ?_
     refine oG rfl rfl rfl (gm oz) (fun hg => by (have hg1 := hg.2; (try simp only [cq2] at hg1); exact V8 (gu oz hg) ot)) rfl ?_
     refine oP (Q2 oz oz) rfl (mv rfl rfl (oG rfl rfl rfl (gm oz) (fun hg => by (have hg1 := hg.2; (try simp only [cq2] at hg1); exact pf oz y46)) rfl ?_))
     refine oG rfl rfl rfl (gm oz) (fun hg => by (have hg1 := hg.2; (try simp only [cq2] at hg1); exact plb (gu oz hg) (mA 0 rfl) lv3 y2r)) rfl ?_
     refine oG rfl rfl rfl (gm oz) (fun hg => by (have hg1 := hg.2; (try simp only [cq2] at hg1); exact pls (gu oz hg) Tryz.underlying23)) rfl ?_
     refine oG rfl rfl rfl (gm oz) (fun hg => by (have hg1 := hg.2; (try simp only [cq2] at hg1); exact Vi (gu oz hg) ot)) rfl ?_
     refine oP (Q2 oz oz) rfl (mv rfl rfl (oG rfl rfl rfl (gm oz) (fun hg => by (have hg1 := hg.2; (try simp only [cq2] at hg1); exact pf oz y46)) rfl ?_))
     refine oG rfl rfl rfl (gm oz) (fun hg => by (have hg1 := hg.2; (try simp only [cq2] at hg1); exact plb (gu oz hg) (mA 0 rfl) lv3 y2r)) rfl ?_
     refine oG rfl rfl rfl (gm oz) (fun hg => by (have hg1 := hg.2; (try simp only [cq2] at hg1); exact pls (gu oz hg) Tryz.underlying23)) rfl ?_
     refine oG rfl rfl rfl (gm oz) (fun hg => by (have hg1 := hg.2; (try simp only [cq2] at hg1); exact V8 (gu oz hg) ot)) rfl ?_
     refine oP (Q2 oz oz) rfl (av rfl rfl (tn (nn (sq (sq (rg (oP (pf oz y46) rfl (oP (plb oz (mA 0 rfl) lv3 y2r) rfl (oP (pls oz Tryz.underlying23) rfl (oP (Qm ot) rfl (tn (nn (tb (Qt (σ := Nat) (e2 1 67 rfl (ec 68 rfl en)) (fun k => [(69, I64 (k : Int)), (3, Xe (preB v && (v.2.2.2.1.take k).all Qek))]) (fun k => [Qb g0_0 25 kV v]) (fun k => k ≤ v.2.2.2.1.length) (fun k => v.2.2.2.1.length - k) 0 (Nat.zero_le _) ?_ (op (by repeat first | exact pn | refine pc 0 rfl ?_)) ?_))))))))))))))
     · exact (ec 69 rfl (Qy (t := 3) (OT.val oz (congrArg Value.bool (by rw [List.take_zero]; simp [preB]))) en))
     rintro k hk
     refine sq (rg (oP (Q5 oz oz) rfl (tn (nn (sq (tc oz (fun c70 => ?_) (fun c70 => ?_)))))))
     · refine sk (nn (sq (tb (sq (rg (oP (Qj oz oz Tryz.underlying23 y03 (by omega) (by (simp [maxLen] at *; omega))) rfl ?_))))))
       refine oP (pL oz y03) rfl (oA (Qz (zA)) pR rfl rfl (fun g10_2 _ => ?_))
       refine oA (asv oz oz (pA 0 rfl) y03) (pA 0 rfl) rfl rfl (fun _ _ => ?_)
       refine tn (nn (rg (mv rfl rfl (mv rfl rfl (oG rfl rfl rfl (gm oz) (fun hg => by (have hg1 := hg.2; (try simp only [cq2] at hg1); exact pf oz ytp)) rfl ?_)))))
       refine oG rfl rfl rfl (gm oz) (fun hg => by (have hg1 := hg.2; (try simp only [cq2] at hg1); exact plb (gu oz hg) (mA 0 rfl) la0 ylw)) rfl ?_
       refine Zw () rfl rfl rfl (gm oz) (fun hg => by (have hg1 := hg.2; (try simp only [cq2] at hg1); exact aC (Qe8 _) yye (oc (gu oz hg) oN) pR)) rfl (fun _ _ => ?_)
       refine oP (Q2 oz oz) rfl (mv rfl rfl (oG rfl rfl rfl (gm oz) (fun hg => by (have hg1 := hg.2; (try simp only [cq2] at hg1); exact pf oz yl2)) rfl ?_))
       refine oG rfl rfl rfl (gm oz) (fun hg => by (have hg1 := hg.2; (try simp only [cq2] at hg1); exact plb (gu oz hg) (mA 0 rfl) la1 ylw)) rfl ?_
       refine Zw () rfl rfl rfl (gm oz) (fun hg => by (have hg1 := hg.2; (try simp only [cq2] at hg1); exact aC (Qe8 _) yye (oc (gu oz hg) oN) pR)) rfl (fun _ _ => ?_)
       refine oP (Q2 oz oz) rfl (mv rfl rfl (oG rfl rfl rfl (gm oz) (fun hg => by (have hg1 := hg.2; (try simp only [cq2] at hg1); exact pf oz ypg)) rfl ?_))
       refine oG rfl rfl rfl (gm oz) (fun hg => by (have hg1 := hg.2; (try simp only [cq2] at hg1); exact plb (gu oz hg) (mA 0 rfl) la2 ylw)) rfl ?_
       refine Zw () rfl rfl rfl (gm oz) (fun hg => by (have hg1 := hg.2; (try simp only [cq2] at hg1); exact aC (Qe8 _) yye (oc (gu oz hg) oN) pR)) rfl (fun _ _ => ?_)
       refine oP (Q2 oz oz) rfl (av rfl rfl (tn (bn (nn (rg (oP (pad oz ot (by (simp [maxLen] at *; omega))) rfl ?_))))))
       refine mv rfl rfl (tn (nn ?_))
       exact tg (k + 1) (by simp only [decide_eq_true_eq] at c70; omega) (by simp only [decide_eq_true_eq] at c70; omega) (ea (ec 69 rfl (Qy (t := 3) (OT.val oz (congrArg Value.bool (Qoy (by simp only [decide_eq_true_eq] at c70; omega)))) en)) ef) (op (by repeat first | exact pn | refine pc 1 rfl ?_))
     refine Qx (tx (tx (bh (nn (sq (sq (rg (mv rfl rfl (oP (Zf oz) rfl (tn (nn (tc oz (fun c91 => ?_) (fun c91 => ?_)))))))))))))
     · obtain rfl : k = v.2.2.2.1.length := by simp only [decide_eq_false_iff_not] at c70; omega
       rw [List.take_length] at c91
       refine sq (rg (ak rfl (tn (nn (tR (tt (Qw (tt ?_))))))))
       exact Qi .ret (.inl rfl) rfl () (OT.val oz (congrArg (Value.int _) (Q5q c14 c34 c91))) trivial (by exact pn)
     obtain rfl : k = v.2.2.2.1.length := by simp only [decide_eq_false_iff_not] at c70; omega
     rw [List.take_length] at c91
     have hpa : (preB v && v.2.2.2.1.all Qek) = true := by simpa using c91
     obtain ⟨hp1, hp2⟩ := Bool.and_eq_true_iff.1 hpa
     obtain ⟨hl1, hl2, hl3, hl4⟩ := Qu5 hp1
     have hvl := K8 v.2.2.2.1
     refine sk (nn (sq (rg (oP (plv (oT rfl) (mA 0 rfl) y4q) rfl (oA (aC (Qbb _ (by omega)) yew (oc (oT rfl) oN) pR) pR rfl rfl (fun _ _ => ?_))))))
     refine av rfl rfl (tn (nn (sq (rg (oP (pf oz yss) rfl (oP (plb oz (mA 0 rfl) lv2 ye4) rfl (oP (pls oz Tryz.underlying22) rfl (oP (Qm ot) rfl (tn (nn (tb (Qt (σ := Nat) (e4 1 6 95 96 rfl en) (fun i => [(97, I64 (i : Int)), (3, Xe (Qhy (Qa v.2.2.2.1) (v.2.2.1.take i)))]) (fun i => [Qb g0_0 25 kV v]) (fun i => i ≤ v.2.2.1.length) (fun i => v.2.2.1.length - i) 0 (Nat.zero_le _) ?_ (op (by repeat first | exact pn | refine pc 0 rfl ?_)) ?_))))))))))))
     · exact (ec 97 rfl (Qy (t := 3) (OT.val oz (congrArg Value.bool (by rw [List.take_length, hpa]; rfl))) en))
     rintro i hi
     refine sq (rg (oP (Q5 oz oz) rfl (tn (nn (sq (tc oz (fun c98 => ?_) (fun c98 => ?_)))))))
     · refine sk (nn (sq (tb (sq (rg (mv rfl rfl (oP (Qj oz oz Tryz.underlying22 ylw (by omega) (by (simp [maxLen] at *; omega))) rfl ?_)))))))
       refine oP (pL oz ylw) rfl (av rfl rfl (av rfl rfl (tn (nn (rg (mv rfl rfl (mv rfl rfl (oG rfl rfl rfl (gm oz) (fun hg => by (have hg1 := hg.2; (try simp only [cq2] at hg1); exact Qm oz)) rfl ?_))))))))
       refine oG rfl rfl rfl (gm oz) (fun hg => by (have hg1 := hg.2; (try simp only [cq2] at hg1); exact Qm oz)) rfl ?_
       refine Zw () rfl rfl rfl (gm (oT rfl)) (fun hg => by (have hg1 := hg.2; (try simp only [cq2] at hg1); exact aC (Qba (Qa v.2.2.2.1) (at' v.2.2.1 (i : Int)) (by omega)) y5k (oc (gu (oT rfl) hg) (oc (gu (oT rfl) hg) oN)) pR)) rfl (fun _ _ => ?_)
       refine oP (Q2 oz oz) rfl (mv rfl rfl (oG rfl rfl rfl (gm oz) (fun hg => by (have hg1 := hg.2; (try simp only [cq2] at hg1); exact pf oz yss)) rfl ?_))
       refine oG rfl rfl rfl (gm oz) (fun hg => by (have hg1 := hg.2; (try simp only [cq2] at hg1); exact plb (gu oz hg) (mA 0 rfl) lv2 ye4)) rfl ?_
       refine oG rfl rfl rfl (gm oz) (fun hg => by (have hg1 := hg.2; (try simp only [cq2] at hg1); exact Qm oz)) rfl ?_
       refine oG rfl rfl rfl (gm oz) (fun hg => by (have hg1 := hg.2; (try simp only [cq2] at hg1); exact Qbu (gu oz hg) (gu oz hg) Tryz.underlying22 ylw (by omega) (by omega))) rfl ?_
       refine oG rfl rfl rfl (gm oz) (fun hg => by (have hg1 := hg.2; (try simp only [cq2] at hg1); exact Qm oz)) rfl ?_
       refine Zw () rfl rfl rfl (gm oz) (fun hg => by (have hg1 := hg.2; (try simp only [cq2] at hg1); exact aC (Qba (v.2.2.1.take (i : Int).toNat) (at' v.2.2.1 (i : Int)) (by rw [List.length_take]; omega)) y5k (oc (gu oz hg) (oc (gu oz hg) oN)) pR)) rfl (fun _ _ => ?_)
       refine oG rfl rfl rfl (gm oz) (fun hg => by (have hg1 := hg.2; (try simp only [cq2] at hg1); exact Zf (gu oz hg))) rfl ?_
       refine oP (Q2 oz oz) rfl (av rfl rfl (tn (bn (nn (rg (oP (pad oz ot (by omega)) rfl (mv rfl rfl (tn (nn ?_)))))))))
       exact tg (i + 1) (by simp only [decide_eq_true_eq] at c98; omega) (by simp only [decide_eq_true_eq] at c98; omega) (ea (ec 97 rfl (Qy (t := 3) (OT.val oz (congrArg Value.bool (by rw [Int.toNat_natCast]; exact Qu4 (by simp only [decide_eq_true_eq] at c98; omega)))) en)) ef) (op (by repeat first | exact pn | refine pc 0 rfl ?_))
     refine Qx (tx (tx (bh (bn (nn (sq (sq (rg (mv rfl rfl (oP (Zf oz) rfl (tn (nn (tc oz (fun c119 => ?_) (fun c119 => ?_))))))))))))))
     · refine sq (rg (ak rfl (tn (nn (tR (tt ?_))))))
       exact Qi .ret (.inl rfl) rfl () (OT.val oz (congrArg (Value.int _) (Q4s (b := true) c14 c34 c91 (by rw [show v.2.2.1.take i = v.2.2.1 from List.take_of_length_le (by simp only [decide_eq_false_iff_not] at c98; omega)] at c119; exact c119)))) trivial (by exact pn)
     refine sk (nn (sq (rg (ak rfl (tn (nn (tR ?_)))))))
     exact Qi .ret (.inl rfl) rfl () (OT.val oz (congrArg (Value.int _) (Q4s (b := false) c14 c34 c91 (by rw [show v.2.2.1.take i = v.2.2.1 from List.take_of_length_le (by simp only [decide_eq_false_iff_not] at c98; omega)] at c119; exact c119)))) trivial (by exact pn)
   refine te en (rg (ak rfl (tn (bn (nn (sq (sq (rg (mv rfl rfl (oP (Zf oz) rfl (tn (nn (tc oz (fun c119 => ?_) (fun c119 => ?_))))))))))))))
   · refine sq (rg (ak rfl (tn (nn (tR (tt ?_))))))
     exact Qi .ret (.inl rfl) rfl () (OT.val oz (congrArg (Value.int _) (Q5p c14 c34))) trivial (by exact pn)
   refine sk (nn (sq (rg (ak rfl (tn (nn (tR ?_)))))))
   exact Qi .ret (.inl rfl) rfl () (OT.val oz (congrArg (Value.int _) (absurd c119 (by simp)))) trivial (by exact pn)
/-- rhizome/join.bad -/
theorem Q3z (v : Vw) (ho : v.2.2.1.length ≤ maxLen) (ha : v.2.2.2.1.length ≤ maxLen) : Ct Tryz.prog 94 [kV.T v] ([]) Unit (fun _ => Xe (!okV v)) (fun _ => []) (fun _ => True) := by
 refine Qn Tryz.func94 rfl rfl ?_
 intro H w
 refine sq (rg (oA (Xf (d := kV) oz) pR rfl rfl (fun g0_0 _ => ?_)))
 refine ak rfl (tn (nn (sq (rg (oP (pf oz yel) rfl (oP (plb oz (mA 0 rfl) lv1 ynm) rfl (oP (Yj oz ot) rfl (mv rfl rfl (oG rfl rfl rfl (gm oz) (fun hg => by (have hg1 := hg.2; (try simp only [cq2] at hg1); exact plv oz (mA 0 rfl) y4q)) rfl ?_)))))))))
 refine Zw () rfl rfl rfl (gm oz) (fun hg => by (have hg1 := hg.2; (try simp only [cq2] at hg1); exact aC (Qnz _ (by assumption) (by assumption)) yin (oc (gu oz hg) oN) pR)) rfl (fun _ _ => ?_)
 refine oG rfl rfl rfl (gm oz) (fun hg => by (have hg1 := hg.2; (try simp only [cq2] at hg1); exact Yj (gu oz hg) ot)) rfl ?_
 refine oP (Zx oz oz) rfl (av rfl rfl (tn (nn (tR ?_))))
 exact Qi .ret (.inl rfl) rfl () (OT.val oz (congrArg Value.bool (Qhz v))) trivial (by exact pn)
end Go.Proofs.YtklhdalppmjnaaaGreatDoor
namespace Go.Proofs.YtklhdalppmjnaaaGreatDoor
open Go Go.Gw Go.So Go.Tu Go.Jn Go.MapKept
abbrev Zu (p : Pr) : Value := .agg #[.int .i64 p.1, .int .i64 p.2]
abbrev encS (l : Lab) : Value := .string (bs l)
theorem Q21 {H : FH} {u : Pr} {a : Value} (h : (kPP.T u).p H a) : a = Zu u := by
 obtain ⟨cs, hK, rfl⟩ := kPP.ofT h
 have hl : cs.length = 2 := kPP.len hK
 obtain ⟨_, _, h2⟩ := hK
 have e0 := h2 0 u.1 rfl
 have e1 := h2 1 u.2 rfl
 match cs, hl with
 | [c0, c1], _ =>
  have f0 : [c0] = [Value.int .i64 u.1] := e0
  have f1 : [c1] = [Value.int .i64 u.2] := e1
  rw [show c0 = Value.int .i64 u.1 from by simpa using f0, show c1 = Value.int .i64 u.2 from by simpa using f1]; rfl
theorem Qmd (w : World) (d : Nat) (u v : Pr) : (Op.equalIn (d + 1 + 1) 108 (Zu u) (Zu v)).run Tryz.prog w = .ok (decide (u = v)) w := by
 have hu : Tryz.prog.underlying 108 = some (.array 2 3) := Tryz.underlying108
 have hk : Tryz.prog.plainKey 3 = true := by decide +kernel
 have h3 : Tryz.prog.underlying 3 = some (.int .i64) := Tryz.underlying3
 have hc : Tryz.prog.cellsOf 3 = 1 := by decide +kernel
 obtain ⟨i, hi⟩ : ∃ i, Tryz.prog.info? 3 = some i := Option.isSome_iff_exists.1 (by decide +kernel)
 rw [run_equalIn_array w (d + 1) _ _ hu hi, hc]
 have p : ∀ (xs : Array Value) (o : Nat) (q : Value), xs[o]? = some q → (part 3 xs o).run Tryz.prog w = .ok q w := fun xs o q h => run_part_plain w hk h
 have e : ∀ (a b : Int), (Op.equalIn (d + 1) 3 (.int .i64 a) (.int .i64 b)).run Tryz.prog w = .ok (a == b) w := fun a b => run_equalIn_int w d 3 .i64 .i64 a b h3
 have p0 : ∀ a b : Int, (part 3 #[.int .i64 a, .int .i64 b] 0).run Tryz.prog w = .ok (.int .i64 a) w := fun a b => p _ 0 _ rfl
 have p1 : ∀ a b : Int, (part 3 #[.int .i64 a, .int .i64 b] 1).run Tryz.prog w = .ok (.int .i64 b) w := fun a b => p _ 1 _ rfl
 obtain ⟨u1, u2⟩ := u
 obtain ⟨v1, v2⟩ := v
 simp only [show List.range 2 = [0, 1] from rfl, Op.eqItems, Sem.run_bind, Nat.mul_one, p0, p1, e, Result.andThen_ok]
 by_cases h1 : u1 = v1
 · by_cases h2 : u2 = v2
   · simp [h1, h2, p1, e]
   simp [h1, h2, p1, e]
 simp [h1]
theorem Q5r (em : Bool) (k : Pr) (w : World) : (Instr.checkKey em 10000 108 (Zu k)).run Tryz.prog w = .ok () w := by
 have hu : Tryz.prog.underlying 108 = some (.array 2 3) := Tryz.underlying108
 have h3 : Tryz.prog.underlying 3 = some (.int .i64) := Tryz.underlying3
 have hk : Tryz.prog.plainKey 3 = true := by decide +kernel
 have hc : Tryz.prog.cellsOf 3 = 1 := by decide +kernel
 obtain ⟨i, hi⟩ : ∃ i, Tryz.prog.info? 3 = some i := Option.isSome_iff_exists.1 (by decide +kernel)
 rw [show (10000 : Nat) = 9999 + 1 from rfl, Instr.checkKey]
 simp only [Sem.run_bind, run_underlying hu, Result.andThen_ok]
 simp only [Std.Legacy.Range.forIn_eq_forIn_range', Std.Legacy.Range.size, Nat.sub_zero, Nat.add_one_sub_one, Nat.div_one]
 have p0 : (part 3 #[.int .i64 k.1, .int .i64 k.2] 0).run Tryz.prog w = .ok (.int .i64 k.1) w := run_part_plain w hk rfl
 have p1 : (part 3 #[.int .i64 k.1, .int .i64 k.2] 1).run Tryz.prog w = .ok (.int .i64 k.2) w := run_part_plain w hk rfl
 have c : ∀ n : Int, (Instr.checkKey em 9999 3 (.int .i64 n)).run Tryz.prog w = .ok () w := fun n => run_checkKey h3 (by simp [IsKey]) em 9998
 rw [show List.range' 0 2 = [0, 1] from rfl]
 simp only [List.forIn_cons, List.forIn_nil, Sem.run_bind, run_sizeOf w hi, hc, Result.andThen_ok, Nat.zero_mul, Nat.one_mul, Nat.mul_one, p0, p1, c, Sem.run_pure]
theorem mkP : Ky Tryz.prog 108 kPP Zu :=
 Ky.ofAsk (d := .array 2 3) Tryz.underlying108 Q21 (fun a b => rfl) Q5r (fun w a b => by
  rw [show Op.equal 108 (Zu a) (Zu b) = Op.equalIn 10000 108 (Zu a) (Zu b) from rfl]; exact Qmd w 9998 a b) (fun k => by simp [Instr.sameBits])
theorem mkI : Ky Tryz.prog 3 kI (Value.int .i64) := Qus Tryz.underlying3
theorem mkS : Ky Tryz.prog 9 kS encS :=
 Ky.ofNow Tryz.underlying9 (fun x => by simp [IsKey]) fun a b => by
  show some (bs a == bs b) = _
  congr 1
  rw [Bool.eq_iff_iff, bytes_beq, decide_eq_true_eq]
  exact ⟨fun h => by simpa using congrArg (fun x : ByteArray => x.data.toList) h, fun h => by rw [h]⟩
theorem Qu6 {H : FH} {t : Ed} {a : Value} (h : (kE.T t).p H a) : a = .agg #[.int .i64 t.1, .string (bs t.2.1), .int .i64 t.2.2] := by
 obtain ⟨cs, ⟨c1, c2, h1, ⟨c3, c4, h3, h4, rfl⟩, rfl⟩, rfl⟩ := h
 have e1 : c1 = [Value.int .i64 t.1] := h1
 have e3 : c3 = [Value.string (bs t.2.1)] := h3
 have e4 : c4 = [Value.int .i64 t.2.2] := h4
 subst e1 e3 e4
 rfl
abbrev tvE (t : Ed) : Array Value := #[.int .i64 t.1, .string (bs t.2.1), .int .i64 t.2.2]
theorem Qb0 (w : World) (d : Nat) (u v : Ed) : (Op.equalIn (d + 1 + 1) 42 (.agg (tvE u)) (.agg (tvE v))).run Tryz.prog w = .ok (decide (u = v)) w := by
 have hf : Tryz.prog.underlying 42 = some (.struct (Tryz.prog.fieldsOf 42)) := by unfold Program.fieldsOf; rw [Tryz.underlying42]
 have hp : Tryz.prog.stoodInHeld 42 = false := by decide +kernel
 rw [run_equalIn_agg w (d + 1) 42 _ _ hf hp]
 clear hf
 simp only [Program.fieldsOf, Tryz.underlying42]
 have kS' : Tryz.prog.plainKey 9 = true := by decide +kernel
 have kI' : Tryz.prog.plainKey 3 = true := by decide +kernel
 have uS : Tryz.prog.underlying 9 = some .string := Tryz.underlying9
 have uI : Tryz.prog.underlying 3 = some (.int .i64) := Tryz.underlying3
 have p0 : ∀ t : Ed, (part 3 (tvE t) 0).run Tryz.prog w = .ok (.int .i64 t.1) w := fun t => run_part_plain w kI' rfl
 have p1 : ∀ t : Ed, (part 9 (tvE t) 1).run Tryz.prog w = .ok (.string (bs t.2.1)) w := fun t => run_part_plain w kS' rfl
 have p2 : ∀ t : Ed, (part 3 (tvE t) 2).run Tryz.prog w = .ok (.int .i64 t.2.2) w := fun t => run_part_plain w kI' rfl
 have e3 : ∀ (a b : Int), (Op.equalIn (d + 1) 3 (.int .i64 a) (.int .i64 b)).run Tryz.prog w = .ok (a == b) w := fun a b => run_equalIn_int w d 3 .i64 .i64 a b uI
 have e9 : ∀ (a b : List UInt8), (Op.equalIn (d + 1) 9 (.string (bs a)) (.string (bs b))).run Tryz.prog w = .ok (decide (a = b)) w := fun a b => by rw [run_equalIn_string w d 9 _ _ uS, Qon]
 obtain ⟨u0, u1, u2⟩ := u
 obtain ⟨v0, v1, v2⟩ := v
 simp only [Op.eqFields, show ("From" ≠ "_") from by decide, show ("Label" ≠ "_") from by decide, show ("To" ≠ "_") from by decide, if_true, ne_eq, not_false_eq_true, Sem.run_bind, p0, p1, p2, e3, e9, Result.andThen_ok]
 by_cases h0 : u0 = v0
 · by_cases h1 : u1 = v1
   · by_cases h2 : u2 = v2 <;> simp [h0, h1, h2, p1, p2, e3, e9, Op.eqFields]
   simp [h0, h1, p1, e3, e9]
 simp [h0]
theorem Q4t : Q2z Tryz.prog 42 kE := fun H w u v a b x y ha hb => by
 rw [Qu6 ha, Qu6 hb]
 have hg : Tryz.prog.eqGuardType Tryz.prog.depth 42 = false := by decide +kernel
 refine ⟨run_eqGuard_agg w .eql 42 x y _ _ hg, run_eqGuard_agg w .neq 42 x y _ _ hg, ?_, ?_⟩
 · rw [run_eql_struct w 42, show (Op.equalIn 10000 42 (.agg (tvE u)) (.agg (tvE v))).run Tryz.prog w = _ from Qb0 w 9998 u v]; rfl
 rw [run_neq_struct w 42, show (Op.equalIn 10000 42 (.agg (tvE u)) (.agg (tvE v))).run Tryz.prog w = _ from Qb0 w 9998 u v]; rfl
abbrev kX : Kd (Value × Value × Value) := Xo Q3 (Xo Q3 Q3)
theorem lx0 {t : Value × Value × Value} : Qf kX Q3 0 t t.1 (fun y => (y, t.2)) := Qf.fst
theorem lx1 {t : Value × Value × Value} : Qf kX Q3 1 t t.2.1 (fun y => (t.1, y, t.2.2)) := Qf.comp (Qf.snd (a := Q3) (b := Xo Q3 Q3)) (Qf.fst (a := Q3) (b := Q3))
theorem lx2 {t : Value × Value × Value} : Qf kX Q3 2 t t.2.2 (fun y => (t.1, t.2.1, y)) := Qf.comp (Qf.snd (a := Q3) (b := Xo Q3 Q3)) (Qf.snd (a := Q3) (b := Q3))
theorem zX : Xw Tryz.prog 204 kX (.map none, Qo, .map none) := ⟨.agg #[.map none, Qo, .map none], by kernel_rfl, fun H => ⟨[.map none, Qo, .map none], ⟨[_], [_, _], ⟨rfl, rfl⟩, ⟨[_], [_], ⟨rfl, rfl⟩, ⟨rfl, rfl⟩, rfl⟩, rfl⟩, rfl⟩⟩
abbrev Fr := Int × Value × List Int
structure Rec where
 g : Nat
 gf : Nat
 gh : Nat
 va : Value
 all : List Pr
 has : List (Pr × Int)
 frm : List Fr
def Vs (r : Rec) : Ix := (r.frm.map (fun f => (f.1, f.2.2)), r.all, r.has)
def frI (f : Fr) : It := Qh 3 kI f.2.1 f.2.2
def hdV (frm : List Fr) : List (Int × Value) := frm.map fun f => (f.1, f.2.1)
abbrev encI : Int → Value := Value.int .i64
def Qel (r : Rec) : List It := Qb r.g 204 kX (mp r.gf, r.va, mp r.gh) :: Qg r.gf encI IsV (hdV r.frm) :: Qg r.gh Zu kI.T r.has :: Qh 108 kPP r.va r.all :: r.frm.map frI
def Jy (m : List (Lab × Rec)) : List It := m.flatMap fun p => Qel p.2
def Wv (m : List (Lab × Rec)) : List (Lab × Value) := m.map fun p => (p.1, pt p.2.g 0)
def Qme (m : List (Lab × Rec)) : List (Lab × Ix) := m.map fun p => (p.1, Vs p.2)
def Q4u (o : Option Rec) : Option Addr := o.map fun r => ⟨r.g, 0, none⟩
theorem Qzj (lab : Lab) (m : List (Lab × Rec)) : (lkp lab (Wv m)).getD (.pointer none) = .pointer (Q4u (lkp lab m)) := by
 unfold Wv
 rw [W5 (fun r : Rec => pt r.g 0)]
 cases lkp lab m <;> rfl
theorem Qqg (lab : Lab) (m : List (Lab × Rec)) : lkp lab (Qme m) = (lkp lab m).map Vs := W5 Vs
theorem Qzk (lab : Lab) (r : Rec) (m : List (Lab × Rec)) : Qme (ptk lab r m) = ptk lab (Vs r) (Qme m) := Qay Vs
theorem Qb1 (lab : Lab) (r : Rec) (m : List (Lab × Rec)) : Wv (ptk lab r m) = ptk lab (pt r.g 0) (Wv m) := Qay (fun r : Rec => pt r.g 0)
theorem Qem {κ α : Type} [DecidableEq κ] {k : κ} {x : α} : ∀ {m : List (κ × α)}, lkp k m = some x → ptk k x m = m
 | [], h => by cases h
 | (a, b) :: m, h => by
  unfold lkp at h
  unfold ptk
  by_cases e : a = k
  · rw [if_pos e] at h ⊢; cases h; rw [← e]
  rw [if_neg e] at h ⊢; rw [Qem h]
theorem Qr4 {lab : Lab} {r : Rec} {m : List (Lab × Rec)} : (Jy (ptk lab r m)).Perm (Qel r ++ Jy (dlk lab m)) := by
 have := (Vd (k := lab) (x := r) (m := m)).flatMap_right (fun p : Lab × Rec => Qel p.2)
 exact this
theorem Qb2 {n : Int} {x : Value × List Int} {m : List Fr} : ((ptk n x m).map frI).Perm (Qh 3 kI x.1 x.2 :: (dlk n m).map frI) := (Vd (k := n) (x := x) (m := m)).map frI
theorem Qco (n : Int) (x : Value × List Int) (m : List Fr) : hdV (ptk n x m) = ptk n x.1 (hdV m) := Qay (fun x : Value × List Int => x.1)
theorem Qzl (n : Int) (x : Value × List Int) (m : List Fr) : (ptk n x m).map (fun f => (f.1, f.2.2)) = ptk n x.2 (m.map fun f => (f.1, f.2.2)) := Qay (fun x : Value × List Int => x.2)
theorem Qqh (n : Int) (m : List Fr) : (lkp n (hdV m)).getD Qo = ((lkp n m).getD (Qo, [])).1 := by
 unfold hdV
 rw [W5 (fun x : Value × List Int => x.1)]
 cases lkp n m <;> rfl
theorem Qks (n : Int) (m : List Fr) : (lkp n (m.map fun f => (f.1, f.2.2))).getD [] = ((lkp n m).getD (Qo, [])).2 := by
 rw [W5 (fun x : Value × List Int => x.2)]
 cases lkp n m <;> rfl
section
variable {C : Cx} {Γ : Env} {L R : List It} {φ : Act → World → Prop}
theorem Qh0 (n : Int) {m : List Fr} (hp : L.Perm (m.map frI ++ R)) (h : Tr C Γ (Qh 3 kI ((lkp n (hdV m)).getD Qo) ((lkp n m).getD (Qo, [])).2 :: ((dlk n m).map frI ++ R)) φ) : Tr C Γ L φ := by
 refine Q4 hp ?_
 rw [Qqh] at h
 cases hl : lkp n m with
 | none =>
  rw [hl, J5 (Xx.1 hl)] at h
  exact Xg 3 kI h
 | some x =>
  rw [hl] at h
  have h1 : (m.map frI).Perm (Qh 3 kI x.1 x.2 :: (dlk n m).map frI) := (Uc hl).map frI
  exact Q4 (h1.append_right R) h
end
abbrev Qqi : Kd (List (Int × List Int)) := Q20 encI (ksl kI).T
abbrev Qr5 : Kd (List (Pr × Int)) := Q20 Zu kI.T
abbrev kIx : Kd Ix := Xo Qqi (Xo (ksl kPP) Qr5)
theorem ly0 {t : Ix} : Qf kIx Qqi 0 t t.1 (fun y => (y, t.2)) := Qf.fst
theorem ly1 {t : Ix} : Qf kIx (ksl kPP) 1 t t.2.1 (fun y => (t.1, y, t.2.2)) := Qf.comp (Qf.snd (a := Qqi) (b := Xo (ksl kPP) Qr5)) (Qf.fst (a := ksl kPP) (b := Qr5))
theorem ly2 {t : Ix} : Qf kIx Qr5 2 t t.2.2 (fun y => (t.1, t.2.1, y)) := Qf.comp (Qf.snd (a := Qqi) (b := Xo (ksl kPP) Qr5)) (Qf.snd (a := ksl kPP) (b := Qr5))
theorem Q5s (r : Rec) : Frz (Qel r) fun H => (AtT kIx (Vs r)).p H (pt r.g 0) := by
 have h1 : Frz (r.frm.map frI) fun H => ∀ f ∈ r.frm, (SlT kI f.2.2).p H f.2.1 := Frz.map_ (f := frI) (Q := fun f H => (SlT kI f.2.2).p H f.2.1) (fun f => Qa2.ty) r.frm fun f => Frz.own
 have h2 := (Frz.blk (g := r.g) (t := 204) (d := kX) (x := (mp r.gf, r.va, mp r.gh))).cons Qa2.ty
  ((Frz.mapI (g := r.gf) (enc := encI) (V := IsV) (m := hdV r.frm)).cons Qa2.ty
   ((Frz.mapI (g := r.gh) (enc := Zu) (V := kI.T) (m := r.has)).cons Qa2.ty
    ((Frz.own (t := 108) (d := kPP) (v := r.va) (xs := r.all)).cons Qa2.ty h1)))
 refine Frz.imp (J := Qel r) h2 ?_
 rintro H ⟨q1, q2, q3, q4, q5⟩
 refine AtT.conv q1 ?_
 rintro cs ⟨c1, c2, k1, ⟨c3, c4, k3, k4, rfl⟩, rfl⟩
 have e1 : c1 = [mp r.gf] := k1.1
 have e3 : c3 = [r.va] := k3.1
 have e4 : c4 = [mp r.gh] := k4.1
 subst e1 e3 e4
 refine ⟨_, _, ⟨mp r.gf, rfl, ?_⟩, ⟨[r.va], [mp r.gh], ⟨r.va, rfl, q4⟩, ⟨mp r.gh, rfl, q3⟩, rfl⟩, rfl⟩
 show (Qhj encI (ksl kI).T (r.frm.map fun f => (f.1, f.2.2))).p H (mp r.gf)
 rcases q2 with ⟨h, _⟩ | ⟨g, es, clock, h1, h2, h3⟩
 · cases h
 refine .inr ⟨g, es, clock, h1, h2, ?_, fun i e p hi hp => ?_, ?_, h3.bn, h3.lt⟩
 · rw [h3.key]; unfold hdV; rw [List.map_map, List.map_map]; rfl
 · rw [List.getElem?_map] at hp
   cases hm : r.frm[i]? with
   | none => rw [hm] at hp; cases hp
   | some f =>
    rw [hm] at hp
    cases hp
    have h4 := h3.val i e (f.1, f.2.1) hi (by unfold hdV; rw [List.getElem?_map, hm]; rfl)
    rw [show e.val = f.2.1 from h4]
    exact q5 f (List.mem_of_getElem? hm)
 have := h3.nd
 unfold hdV keys at this
 unfold keys
 rw [List.map_map] at this ⊢
 exact this
theorem Q4v (g : Nat) (m : List (Lab × Rec)) : Frz (Qg g encS IsV (Wv m) :: Jy m) fun H => (Qhj encS (kpt kIx).T (m.map fun p => (p.1, some (Vs p.2)))).p H (mp g) := by
 have h1 : Frz (Jy m) fun H => ∀ p ∈ m, (AtT kIx (Vs p.2)).p H (pt p.2.g 0) := Frz.flat (f := fun p : Lab × Rec => Qel p.2) (Q := fun p H => (AtT kIx (Vs p.2)).p H (pt p.2.g 0)) (fun p => Qa2.ty) m fun p _ => Q5s p.2
 refine ((Frz.mapI (g := g) (enc := encS) (V := IsV) (m := Wv m)).cons Qa2.ty h1).imp ?_
 rintro H ⟨q1, q2⟩
 rcases q1 with ⟨h, _⟩ | ⟨g', es, clock, h1, h2, h3⟩
 · cases h
 refine .inr ⟨g', es, clock, h1, h2, ?_, fun i e p hi hp => ?_, ?_, h3.bn, h3.lt⟩
 · rw [h3.key]; unfold Wv; rw [List.map_map, List.map_map]; rfl
 · rw [List.getElem?_map] at hp
   cases hm : m[i]? with
   | none => rw [hm] at hp; cases hp
   | some f =>
    rw [hm] at hp
    cases hp
    have h4 := h3.val i e (f.1, pt f.2.g 0) hi (by unfold Wv; rw [List.getElem?_map, hm]; rfl)
    rw [show e.val = pt f.2.g 0 from h4]
    exact q2 f (List.mem_of_getElem? hm)
 have := h3.nd
 unfold Wv keys at this
 unfold keys
 rw [List.map_map] at this ⊢
 exact this
end Go.Proofs.YtklhdalppmjnaaaGreatDoor
namespace Go.Gw
open Go
theorem Qcp {L : List It} : Jp L L := ⟨[], by simp⟩
theorem Ww {L M : List It} {x : It} (h : Jp L M) : Jp (x :: L) M := let ⟨R, hR⟩ := h; ⟨x :: R, (hR.cons x).trans List.perm_middle.symm⟩
theorem Jz {L M N : List It} (h : Jp L M) (h' : Jp M N) : Jp L N := by
 obtain ⟨R, hR⟩ := h
 obtain ⟨S, hS⟩ := h'
 exact ⟨S ++ R, hR.trans ((hS.append_right R).trans (by rw [List.append_assoc]))⟩
theorem Yl {L M : List It} (h : L.Perm M) : Jp L M := ⟨[], by simpa using h⟩
end Go.Gw
namespace Go.Proofs.YtklhdalppmjnaaaGreatDoor
open Go Go.Gw Go.So Go.Tu Go.Jn Go.MapKept
section
variable {C : Cx} {Γ : Env} {X Y : List It} {φ : Act → World → Prop}
theorem Qr6 (n : Int) {m : List Fr} (h : Tr C Γ (Qh 3 kI ((lkp n (hdV m)).getD Qo) ((lkp n m).getD (Qo, [])).2 :: (Y ++ ((dlk n m).map frI ++ X))) φ) : Tr C Γ (Y ++ (m.map frI ++ X)) φ := by
 have hp : (Y ++ (m.map frI ++ X)).Perm (m.map frI ++ (Y ++ X)) := by
  rw [← List.append_assoc, ← List.append_assoc]
  exact List.Perm.append_right X List.perm_append_comm
 refine Qh0 n hp (Q4 ?_ h)
 refine List.Perm.cons _ ?_
 rw [← List.append_assoc, ← List.append_assoc]
 exact List.Perm.append_right X List.perm_append_comm
theorem Qr7 (lab : Lab) {r : Rec} {m : List (Lab × Rec)} (hl : lkp lab m = some r) (h : Tr C Γ (Y ++ (Qel r ++ Jy (dlk lab m))) φ) : Tr C Γ (Y ++ Jy m) φ :=
 Q4 (List.Perm.append_left Y ((Uc hl).flatMap_right (fun p : Lab × Rec => Qel p.2))) h
end
theorem Qjk {g : Nat} {lab : Lab} {r : Rec} {recs : List (Lab × Rec)} : Jp (Qg g encS IsV (Wv (ptk lab r recs)) :: (Qel r ++ Jy (dlk lab recs))) (Qg g encS IsV (Wv (ptk lab r recs)) :: Jy (ptk lab r recs)) := Yl (Qr4.symm.cons _)
theorem Qu7 {n : Int} {x : Value × List Int} {m : List Fr} {X : List It} : Jp (Qh 3 kI x.1 x.2 :: ((dlk n m).map frI ++ X)) ((ptk n x m).map frI ++ X) := Yl ((Qb2.symm.append_right X))
theorem Qu8 {r : Rec} {p : Pr} {v w : Value} (hc : (lkp p r.has).getD 0 + 1 = 1) : Vs { r with has := ptk p ((lkp p r.has).getD 0 + 1) r.has, all := r.all ++ [p], va := v, frm := ptk p.1 (w, ((lkp p.1 r.frm).getD (Qo, [])).2 ++ [p.2]) r.frm } = Qga (Vs r) p := by
 unfold Qga Vs
 simp only [if_pos hc, Qzl, Qks]
theorem Qzm {r : Rec} {p : Pr} (hc : ¬ (lkp p r.has).getD 0 + 1 = 1) : Vs { r with has := ptk p ((lkp p r.has).getD 0 + 1) r.has } = Qga (Vs r) p := by
 unfold Qga Vs
 simp only [if_neg hc]
theorem Qmf {l : List Ed} {k : Nat} {e : Ed} {recs : List (Lab × Rec)} {r r' : Rec} (h : k < l.length) (he : at' l (k : Int) = e) (hr : Qme recs = Za (l.take k)) (hc : Vs r = (lkp e.2.1 (Za (l.take k))).getD ([], [], [])) (hs : Vs r' = Qga (Vs r) (e.1, e.2.2)) : Qme (ptk e.2.1 r' recs) = Za (l.take (k + 1)) := by
 rw [Qzk, hs, hr, hc]
 rw [Q1 h] at he
 rw [List.take_succ_eq_append_getElem h, he]
 unfold Za
 rw [List.foldl_append]; rfl
theorem Qr8 {l : List Ed} {k : Nat} {lab : Lab} {r : Rec} (h : k ≤ l.length) (hc : Vs r = (lkp lab (Za (l.take k))).getD ([], [], [])) (p : Pr) : 0 ≤ (lkp p r.has).getD 0 ∧ (lkp p r.has).getD 0 ≤ l.length ∧ r.all.length ≤ l.length ∧ ((lkp p.1 r.frm).getD (Qo, [])).2.length ≤ l.length := by
 obtain ⟨hx, _⟩ := Qhw (l.take k) lab
 rw [← hc] at hx
 have h1 := Qqc (l.take k) lab
 rw [List.length_take] at h1
 have h2 := hx.h0 p
 have h3 := hx.hl p
 have h4 := hx.al
 have h5 := hx.fl p.1
 have e5 : (lkp p.1 (Vs r).1).getD [] = ((lkp p.1 r.frm).getD (Qo, [])).2 := Qks p.1 r.frm
 rw [e5] at h5
 have e4 : (Vs r).2.1 = r.all := rfl
 rw [e4] at h4
 have e3 : (Vs r).2.2 = r.has := rfl
 rw [e3] at h2 h3
 refine ⟨h2, ?_, ?_, ?_⟩ <;> omega
def Qu9 (m : List (Lab × Ix)) : List (Lab × Option Ix) := m.map fun p => (p.1, some p.2)
theorem Qva (m : List (Lab × Rec)) : (m.map fun p => (p.1, some (Vs p.2))) = Qu9 (Qme m) := by unfold Qu9 Qme; rw [List.map_map]; rfl
end Go.Proofs.YtklhdalppmjnaaaGreatDoor
namespace Go.Proofs.YtklhdalppmjnaaaGreatDoor
open Go Go.Gw Go.So Go.Tu Go.Jn Go.MapKept
section
variable {g : Nat} {lab : Lab} {r : Rec} {recs : List (Lab × Rec)} {T1 T2 : It}
theorem Qzn {n : Int} {w va : Value} {xs : List Int} {all : List Pr} {has : List (Pr × Int)} :
 Jp (Qg r.gf encI IsV (ptk n w (hdV r.frm)) :: Qh 3 kI w xs :: Qb r.g 204 kX (mp r.gf, va, mp r.gh) :: Qh 108 kPP va all :: Qg r.gh Zu kI.T has :: T1 :: Qg g encS IsV (Wv (ptk lab r recs)) :: T2 :: ((dlk n r.frm).map frI ++ Jy (dlk lab recs)))
  (Qg g encS IsV (Wv (ptk lab { r with has := has, all := all, va := va, frm := ptk n (w, xs) r.frm } recs)) :: Jy (ptk lab { r with has := has, all := all, va := va, frm := ptk n (w, xs) r.frm } recs)) := by
 refine Jz ?_ Qjk
 rw [Qb1, Qb1]
 unfold Qel
 rw [Qco]
 refine Zd 6 rfl (Zd 2 rfl (Zd 0 rfl (Zd 2 rfl (Zd 1 rfl ?_))))
 show Jp (Qh 3 kI w xs :: T1 :: T2 :: ((dlk n r.frm).map frI ++ Jy (dlk lab recs))) ((ptk n (w, xs) r.frm).map frI ++ Jy (dlk lab recs))
 refine Jz ?_ Qu7
 exact Zd 0 rfl (Ww (Ww Qcp))
theorem Q22 {has : List (Pr × Int)} :
 Jp (Qg r.gh Zu kI.T has :: T1 :: Qg g encS IsV (Wv (ptk lab r recs)) :: T2 :: Qb r.g 204 kX (mp r.gf, r.va, mp r.gh) :: Qg r.gf encI IsV (hdV r.frm) :: Qh 108 kPP r.va r.all :: (r.frm.map frI ++ Jy (dlk lab recs)))
  (Qg g encS IsV (Wv (ptk lab { r with has := has } recs)) :: Jy (ptk lab { r with has := has } recs)) := by
 refine Jz ?_ Qjk
 rw [Qb1, Qb1]
 unfold Qel
 exact Zd 2 rfl (Zd 3 rfl (Zd 3 rfl (Zd 0 rfl (Zd 2 rfl (Ww (Ww Qcp))))))
theorem Qzo {gx gf gh : Nat} (hn : lkp lab recs = none) :
 Jp (Qg g encS IsV (ptk lab (pt gx 0) (Wv recs)) :: Qh 108 kPP Qo [] :: Qb gx 204 kX (mp gf, Qo, mp gh) :: Qg gh Zu kI.T [] :: Qg gf encI IsV [] :: T1 :: Jy recs)
  (Qg g encS IsV (Wv (ptk lab ⟨gx, gf, gh, Qo, [], [], []⟩ recs)) :: T1 :: (Qel ⟨gx, gf, gh, Qo, [], [], []⟩ ++ Jy (dlk lab recs))) := by
 rw [Qb1, J5 (Xx.1 hn)]
 exact Zd 0 rfl (Zd 4 rfl (Zd 1 rfl (Zd 2 rfl (Zd 1 rfl (Zd 0 rfl Qcp)))))
theorem Qzp (hr : lkp lab recs = some r) :
 Jp (T1 :: Qg g encS IsV (Wv recs) :: (Qel r ++ Jy (dlk lab recs))) (Qg g encS IsV (Wv (ptk lab r recs)) :: T1 :: (Qel r ++ Jy (dlk lab recs))) := by
 rw [Qem hr]
 exact Zd 1 rfl (Zd 0 rfl Qcp)
end
end Go.Proofs.YtklhdalppmjnaaaGreatDoor
namespace Go.Jn
open Go Go.Gw Go.Tu
section
variable {x : Ix} {r : Tp} {f t : Nat} {nx : List Tp}
abbrev Wm (nx : List Tp) (o : Option Ix) (r : Tp) (f t : Nat) : Bool := decide (nx.length + (ext o r f t).length ≤ 3000)
theorem Qqj (h1 : f < r.length) (h2 : t < r.length) : ext (some x) r f t = if (lkp (r.getD f 0, r.getD t 0) x.2.2).getD 0 = 0 then [] else [r] := by rw [Qbz, if_pos ⟨h1, h2⟩]
theorem Qvb (h1 : f < r.length) (h2 : ¬ t < r.length) : ext (some x) r f t = ((lkp (r.getD f 0) x.1).getD []).map (fun b => r ++ [b]) := by rw [Qbz, if_neg (fun e => h2 e.2), if_pos h1]
theorem Qvc (h1 : ¬ f < r.length) : ext (some x) r f t = x.2.1.filterMap (Wa r t) := by rw [Qbz, if_neg (fun e => h1 e.1), if_neg h1]
theorem Q4w {b : Bool} (h1 : f < r.length) (h2 : t < r.length) (hc : decide ((lkp (r.getD f 0, r.getD t 0) x.2.2).getD 0 = 0) = false) (hb : b = decide (((nx ++ [r]).length : Int) ≤ 3000)) : (decide ((lkp (r.getD f 0, r.getD t 0) x.2.2).getD 0 = 0) || b) = Wm nx (some x) r f t := by
 unfold Wm
 rw [Qqj h1 h2, if_neg (by simpa using hc), hc, hb, Bool.false_or, Bool.eq_iff_iff]
 simp only [decide_eq_true_eq, List.length_append, List.length_singleton]; omega
theorem Q5t {b : Bool} (h1 : f < r.length) (h2 : t < r.length) (hn : nx.length ≤ 3000) (hc : decide ((lkp (r.getD f 0, r.getD t 0) x.2.2).getD 0 = 0) = true) : (decide ((lkp (r.getD f 0, r.getD t 0) x.2.2).getD 0 = 0) || b) = Wm nx (some x) r f t := by
 unfold Wm
 rw [Qqj h1 h2, if_pos (by simpa using hc), hc, Bool.true_or]
 symm; simpa using hn
theorem Qah {α β : Type} [Inhabited α] {l : List α} (f : α → β) {k : Nat} (h : k < l.length) : (l.take (k + 1)).map f = (l.take k).map f ++ [f (at' l (k : Int))] := by
 rw [Q1 h, List.take_succ_eq_append_getElem h, List.map_append]; rfl
theorem Qr9 {α β : Type} [Inhabited α] {l : List α} (f : α → Option β) {k : Nat} (h : k < l.length) : (l.take (k + 1)).filterMap f = (l.take k).filterMap f ++ (f (at' l (k : Int))).toList := by
 rw [Q1 h, List.take_succ_eq_append_getElem h, List.filterMap_append]
 congr 1
theorem Qzq {i : Nat} {bl : List Int} (he : (lkp (r.getD f 0) x.1).getD [] = bl) (h1 : f < r.length) (h2 : ¬ t < r.length) (hi : i < bl.length) {s : List Tp} (hs : s.length = nx.length + i + 1) (hc : ¬ ((s.length : Int) ≤ 3000)) : false = Wm nx (some x) r f t := by
 unfold Wm
 rw [Qvb h1 h2, he, List.length_map]
 symm; simp only [decide_eq_false_iff_not]; omega
theorem Q23 {bl : List Int} (he : (lkp (r.getD f 0) x.1).getD [] = bl) (h1 : f < r.length) (h2 : ¬ t < r.length) (hn : nx.length + bl.length ≤ 3000) : true = Wm nx (some x) r f t := by
 unfold Wm
 rw [Qvb h1 h2, he, List.length_map]
 symm; simpa using hn
theorem Qzr {α β : Type} (f : α → Option β) (l : List α) (k : Nat) : ((l.take k).filterMap f).length ≤ (l.filterMap f).length := by
 have h := List.take_append_drop k l
 have h2 : (l.filterMap f).length = ((l.take k).filterMap f).length + ((l.drop k).filterMap f).length := by
  conv => lhs; rw [← h]
  rw [List.filterMap_append, List.length_append]
 omega
theorem Qqk {i : Nat} (h1 : ¬ f < r.length) {s : List Tp} (hs : s = nx ++ (x.2.1.take (i + 1)).filterMap (Wa r t)) (hc : ¬ ((s.length : Int) ≤ 3000)) : false = Wm nx (some x) r f t := by
 unfold Wm
 rw [Qvc h1]
 have := Qzr (Wa r t) x.2.1 (i + 1)
 rw [hs, List.length_append] at hc
 symm; simp only [decide_eq_false_iff_not]; omega
theorem Q24 (h1 : ¬ f < r.length) (hn : (nx ++ x.2.1.filterMap (Wa r t)).length ≤ 3000) : true = Wm nx (some x) r f t := by
 unfold Wm
 rw [Qvc h1, ← List.length_append]
 symm; simpa using hn
end
end Go.Jn
namespace Go.Proofs.YtklhdalppmjnaaaGreatDoor
open Go Go.Gw Go.So Go.Tu Go.Jn

/-- rhizome/join.byLabel -/
theorem Qpn (l : List Ed) (hm : l.length ≤ 1000000) : Ct Tryz.prog 95 [SlT kE l] ([]) Unit (fun _ => Qhj encS (kpt kIx).T (Qu9 (Za l))) (fun _ => []) (fun _ => True) := by
 refine Qn Tryz.func95 rfl rfl ?_
 intro H w
 refine sq (rg (ak rfl (tn (nn (sq (rg (oA (Q9 encS IsV) pR rfl rfl (fun g1_0 _ => ?_))))))))
 refine av rfl rfl (tn (nn (sq (sq (rg (mv rfl rfl (oP (pls oz Tryz.underlying26) rfl (oP (Qm ot) rfl (tn (nn (tb (Qt (σ := Nat × List (Lab × Rec)) (e2 3 9 rfl (ec 10 rfl en)) (fun s => [(11, I64 (s.1 : Int))]) (fun s => (Qg g1_0 encS IsV (Wv s.2) :: Jy s.2)) (fun s => s.1 ≤ l.length ∧ Qme s.2 = Za (l.take s.1)) (fun s => l.length - s.1) (0, []) ⟨Nat.zero_le _, rfl⟩ ?_ (op pl) ?_))))))))))))
 · exact (ec 11 rfl en)
 rintro ⟨k, recs⟩ ⟨hk, habs⟩
 dsimp only at hk habs ⊢
 refine sq (rg (oP (Q5 oz oz) rfl (tn (nn (sq (tc oz (fun c12 => ?_) (fun c12 => ?_)))))))
 · refine sk (nn (sq (tb (sq ?_))))
   have hkl : k < l.length := by simpa using c12
   obtain ⟨e, he⟩ : ∃ e, at' l (k : Int) = e := ⟨_, rfl⟩
   refine rg (oP (Qj oz oz Tryz.underlying26 y16 (by omega) (by omega)) rfl (oP (pL oz y16) rfl (oA (Qz (zE)) pR rfl rfl (fun g4_2 _ => ?_))))
   refine oA (asv oz oz (pA 0 rfl) y16) (pA 0 rfl) rfl rfl (fun _ _ => ?_)
   refine tn (nn (sq ?_))
   rw [he]
   refine rg (mv rfl rfl (oP (pf oz yh3) rfl (oP (plb oz (mA 0 rfl) le1 ylw) rfl (oP (X7 mkS Tryz.underlying168 (z0 := (.pointer none)) (by kernel_rfl) oz (mA 1 rfl) oz) rfl (av rfl rfl (tn (nn (Qac (σ := Rec) (e4 3 5 9 10 rfl (ec 11 rfl en)) (fun cur => [(6, IsV (pt cur.g 0))]) (fun cur => Qg g1_0 encS IsV (Wv (ptk e.2.1 cur recs)) :: Qb g4_2 42 kE e :: Qb cur.g 204 kX (mp cur.gf, cur.va, mp cur.gh) :: Qg cur.gf encI IsV (hdV cur.frm) :: Qg cur.gh Zu kI.T cur.has :: Qh 108 kPP cur.va cur.all :: (cur.frm.map frI ++ Jy (dlk e.2.1 recs))) (fun cur => Vs cur = (lkp e.2.1 (Za (l.take k))).getD ([], [], [])) ?_ ?_))))))))
   · refine sq ?_
     rw [Qzj]
     refine rg (mv rfl rfl (oP (Y6 U4 oz Tryz.underlying172) rfl (tn (nn (tc oz (fun c20 => ?_) (fun c20 => ?_))))))
     · have hnone : lkp e.2.1 recs = none := by
        cases hx : lkp e.2.1 recs with
        | none => rfl
        | some r => rw [hx] at c20; cases c20
       refine sq (rg (oA (Q9 encI IsV) pR rfl rfl (fun g7_0 _ => ?_)))
       refine oA (Q9 Zu kI.T) pR rfl rfl (fun g7_1 _ => ?_)
       refine oP (Zb (d := kX) (v0 := (.map none, Qo, .map none)) (ps := [(0, 1), (1, 1), (2, 1)]) zX (by kernel_rfl) rfl (Qk rfl lx0 (by exact OT.raw oz rfl) (Qk rfl lx2 (by exact OT.raw oz rfl) Qc))) rfl ?_
       refine oA (Xf (d := kX) oz) pR rfl rfl (fun g7_3 _ => ?_)
       refine av rfl rfl (tn (nn (Xg 108 kPP (rg (mv rfl rfl (oP (pf oz yh3) rfl (oP (plb oz (mA 4 rfl) le1 ylw) rfl (mv rfl rfl (oA (X4 mkS Tryz.underlying168 oz (pA 5 rfl) oz oz) (pA 5 rfl) rfl rfl (fun _ _ => ?_))))))))))
       refine tn (nn ?_)
       exact Y2 ({ g := g7_3, gf := g7_0, gh := g7_1, va := Qo, all := [], has := [], frm := [] }) (by rw [← habs, Qqg, hnone]; rfl) ef (op (Qzo hnone))
     obtain ⟨r, hr⟩ : ∃ r, lkp e.2.1 recs = some r := by
      cases hx : lkp e.2.1 recs with
      | none => rw [hx] at c20; cases c20
      | some r => exact ⟨r, rfl⟩
     refine Qr7 (Y := [_, _]) e.2.1 hr ?_
     rw [hr]
     refine sk (nn ?_)
     exact Y2 r (by rw [← habs, Qqg, hr]; rfl) ef (op (Qzp hr))
   rintro cur hcur
   refine sq ?_
   obtain ⟨hb1, hb2, hb3, hb4⟩ := Qr8 (l := l) (by omega) hcur (e.1, e.2.2)
   refine rg (oP (pf oz ye8) rfl (oP (plb oz (mA 1 rfl) le0 ynm) rfl (oP (pf oz y9l) rfl (oP (plb oz (mA 1 rfl) le2 ynm) rfl (oP (Xt (d := kPP) (v0 := (0, 0)) (agg := false) Tryz.underlying108 ynm zP rfl (Qk rfl Qf.p0 oz (Qk rfl Qf.p1 oz Qc))) rfl (oA (Qz (zP)) pR rfl rfl (fun g9_5 _ => ?_)))))))
   refine oA (asv oz oz (pA 0 rfl) yd7) (pA 0 rfl) rfl rfl (fun _ _ => ?_)
   refine tn (nn (sq (Q4 (Qq 5 rfl) (Q4 (Qq 1 rfl) ?_))))
   apply Yg (ρ := Nat) (φ := fun rr => True) (p := 7) (Lf := fun c rr => cond c (Qi5 cur.gh Zu kI.T (ptk (e.1, e.2.2) ((lkp (e.1, e.2.2) cur.has).getD 0) cur.has) (e.1, e.2.2) rr :: Qb g9_5 108 kPP (e.1, e.2.2) :: Qg g1_0 encS IsV (Wv (ptk e.2.1 cur recs)) :: Qb g4_2 42 kE e :: Qb cur.g 204 kX (mp cur.gf, cur.va, mp cur.gh) :: Qg cur.gf encI IsV (hdV cur.frm) :: Qh 108 kPP cur.va cur.all :: (cur.frm.map frI ++ Jy (dlk e.2.1 recs))) (Qb g9_5 108 kPP (e.1, e.2.2) :: Qg cur.gh Zu kI.T cur.has :: Qg g1_0 encS IsV (Wv (ptk e.2.1 cur recs)) :: Qb g4_2 42 kE e :: Qb cur.g 204 kX (mp cur.gf, cur.va, mp cur.gh) :: Qg cur.gf encI IsV (hdV cur.frm) :: Qh 108 kPP cur.va cur.all :: (cur.frm.map frI ++ Jy (dlk e.2.1 recs)))) 0 (by kernel_rfl) (m := 9) (ns := [[(6, none)], [(34, some 0)], [(35, some 1)], [(36, some 2)], [(7, none)], [(37, some 3), (38, some 4)], [(39, some 5)], [(37, some 3), (38, some 4)], [(41, some 7)]]) (by kernel_rfl) (by kernel_rfl) (Ts := fun rr => [_, _, _, _, _, _, _, Y1 [kI.T ((lkp (e.1, e.2.2) cur.has).getD 0), I64 (rr : Int)], I64 (rr : Int)]) (fun _ => rfl)
   case hops =>
    refine ⟨?_, ?_, ?_, ?_, ?_, ?_, ?_, ?_, ?_, trivial⟩
    · exact ⟨cBf (by kernel_rfl) fun r _ => rgo r rfl ⟨rfl, trivial⟩ (rmv rfl), fun _ _ _ _ => rfl⟩
    · exact ⟨cBf (by kernel_rfl) fun r _ => rgo r rfl ⟨rfl, trivial⟩ (rP (Qe oz)), fun _ _ _ _ => rfl⟩
    · exact ⟨cBf (by kernel_rfl) fun r _ => rgo r rfl ⟨rfl, trivial⟩ (rP (pf oz ywt)), fun _ _ _ _ => rfl⟩
    · exact ⟨cBf (by kernel_rfl) fun r _ => rgo r rfl ⟨rfl, trivial⟩ (rP (Ql oz (mA 4 rfl) lx2 y7m)), fun _ _ _ _ => rfl⟩
    · exact ⟨cBf (by kernel_rfl) fun r _ => rgo r rfl ⟨rfl, trivial⟩ (rP (plv oz (mA 0 rfl) yd7)), fun _ _ _ _ => rfl⟩
    · exact ⟨cB (fun r hc => rgo r rfl ⟨rfl, trivial⟩ (rP (Xq mkP Tryz.underlying202 zI oz (mA 1 rfl) oz))) fun r hc => rgo r rfl ⟨rfl, trivial⟩ (rP (Vk mkP Tryz.underlying202 zI oz (mA 0 rfl) oz)), fun _ _ _ _ => rfl⟩
    · exact ⟨by intro c r hc; cases c <;> exact rgo r rfl ⟨rfl, trivial⟩ (rP (pad oz ot (by omega))), fun _ _ _ _ => rfl⟩
    · refine ⟨?_, ?_⟩
      · exact cBf (by kernel_rfl) fun r _ => Zg rfl (Qdf mkP Tryz.underlying202 zI oz (pA 1 rfl) oz) (pA 1 rfl) (fun r => pR) (fun _ _ _ => trivial) (fun _ _ _ _ h => h)
      exact fun _ h => absurd h (by decide)
    refine ⟨?_, ?_⟩
    · exact cBt (by kernel_rfl) fun r _ => rgo r rfl ⟨rfl, trivial⟩ (rP (Qd oz rfl))
    exact fun h => Bool.noConfusion (h.symm.trans (by kernel_rfl : Jl _ _ _ _ = false))
   case h =>
    intro s10_7 _
    refine oA (Vj oz (pA 0 rfl) oz oz) (pA 0 rfl) rfl rfl (fun _ _ => ?_)
    refine tn ?_
    rw [Qgr]
    refine nn (sq ?_)
    apply Xs (m := 5) (ns := [[(6, none)], [(43, some 0)], [(44, some 1)], [(45, some 2)], [(7, none)]]) (by kernel_rfl) (by kernel_rfl) (Ts := [_, _, _, _, _]) rfl
    case hops =>
     exact ⟨rmv rfl, rP (Qe oz), rP (pf oz ywt), rP (Ql oz (mA 4 rfl) lx2 y7m), rP (plv oz (mA 1 rfl) yd7), trivial⟩
    case h =>
     refine oP (Xq mkP Tryz.underlying202 zI oz (mA 0 rfl) oz) rfl (oP (Zs oz ot) rfl (tn (nn (tc oz (fun c49 => ?_) (fun c49 => ?_)))))
     · have hc : ((lkp (e.1, e.2.2) cur.has).getD 0 + 1) = 1 := by rw [Xl, if_pos rfl] at c49; simpa using c49
       refine sq ?_
       apply Yg (ρ := Value) (φ := fun rr => True) (p := 7) (Lf := fun c rr => cond c (Qh 108 kPP rr (cur.all ++ [(e.1, e.2.2)]) :: Qg cur.gh Zu kI.T (ptk (e.1, e.2.2) ((lkp (e.1, e.2.2) cur.has).getD 0 + 1) cur.has) :: Qb g9_5 108 kPP (e.1, e.2.2) :: Qg g1_0 encS IsV (Wv (ptk e.2.1 cur recs)) :: Qb g4_2 42 kE e :: Qb cur.g 204 kX (mp cur.gf, cur.va, mp cur.gh) :: Qg cur.gf encI IsV (hdV cur.frm) ::  (cur.frm.map frI ++ Jy (dlk e.2.1 recs))) (Qg cur.gh Zu kI.T (ptk (e.1, e.2.2) ((lkp (e.1, e.2.2) cur.has).getD 0 + 1) cur.has) :: Qb g9_5 108 kPP (e.1, e.2.2) :: Qg g1_0 encS IsV (Wv (ptk e.2.1 cur recs)) :: Qb g4_2 42 kE e :: Qb cur.g 204 kX (mp cur.gf, cur.va, mp cur.gh) :: Qg cur.gf encI IsV (hdV cur.frm) :: Qh 108 kPP cur.va cur.all :: (cur.frm.map frI ++ Jy (dlk e.2.1 recs)))) Qo (by kernel_rfl) (m := 8) (ns := [[(6, none)], [(6, none)], [(51, some 1)], [(52, some 2)], [(53, some 3)], [(7, none)], [(55, some 5)], [(54, some 4), (56, some 6)]]) (by kernel_rfl) (by kernel_rfl) (Ts := fun rr => [_, _, _, _, _, _, _, IsV rr]) (fun _ => rfl)
       case hops =>
        refine ⟨?_, ?_, ?_, ?_, ?_, ?_, ?_, ?_, trivial⟩
        · exact ⟨by intro c r hc; cases c <;> exact rgo r rfl ⟨rfl, trivial⟩ (rmv rfl), fun _ _ _ _ => rfl⟩
        · exact ⟨cBf (by kernel_rfl) fun r _ => rgo r rfl ⟨rfl, trivial⟩ (rmv rfl), fun _ _ _ _ => rfl⟩
        · exact ⟨cBf (by kernel_rfl) fun r _ => rgo r rfl ⟨rfl, trivial⟩ (rP (Qe oz)), fun _ _ _ _ => rfl⟩
        · exact ⟨cBf (by kernel_rfl) fun r _ => rgo r rfl ⟨rfl, trivial⟩ (rP (pf oz yrl)), fun _ _ _ _ => rfl⟩
        · exact ⟨cBf (by kernel_rfl) fun r _ => rgo r rfl ⟨rfl, trivial⟩ (rP (Ql oz (mA 4 rfl) lx1 yl0)), fun _ _ _ _ => rfl⟩
        · exact ⟨cBf (by kernel_rfl) fun r _ => rgo r rfl ⟨rfl, trivial⟩ (rP (plv oz (mA 1 rfl) yd7)), fun _ _ _ _ => rfl⟩
        · exact ⟨cBf (by kernel_rfl) fun r _ => rgo r rfl ⟨rfl, trivial⟩ (Zc rfl (Q7 (d := kPP) (v0 := (0, 0)) yie yd7 zP (show 1 * 2 ≤ 16777216 from by decide) (by decide) (Qv rfl rfl (by decide) oz Qc)) (fun _ _ _ _ h => h)), fun _ _ _ _ => rfl⟩
        refine ⟨?_, ?_⟩
        · exact cBf (by kernel_rfl) fun r _ => Zg rfl (Q0 oz (pA 6 rfl) oz yie (by (simp; omega)) (by (simp [maxLen]; omega))) (pA 6 rfl) (fun r => pR) (fun _ _ _ => trivial) (fun _ _ _ _ h => h)
        exact fun _ h => absurd h (by decide)
       case h =>
        intro v12_7 _
        refine oP (Qe oz) rfl (oP (pf oz yrl) rfl (Vr (Zz 0 rfl) Vf fun hone => (oA (Zq oz oz (by assumption) (pA 5 rfl) lx1 yl0) (pA 5 rfl) rfl rfl (fun _ _ => ?_))))
        refine tn (nn (Qr6 (Y := [_, _, _, _, _, _, _]) e.1 ?_))
        apply Yg (ρ := Value) (φ := fun rr => True) (p := 16) (Lf := fun c rr => cond c (Qh 3 kI rr (((lkp e.1 cur.frm).getD (Qo, [])).2 ++ [e.2.2]) :: Qb cur.g 204 kX (mp cur.gf, v12_7, mp cur.gh) :: Qh 108 kPP v12_7 (cur.all ++ [(e.1, e.2.2)]) :: Qg cur.gh Zu kI.T (ptk (e.1, e.2.2) ((lkp (e.1, e.2.2) cur.has).getD 0 + 1) cur.has) :: Qb g9_5 108 kPP (e.1, e.2.2) :: Qg g1_0 encS IsV (Wv (ptk e.2.1 cur recs)) :: Qb g4_2 42 kE e :: Qg cur.gf encI IsV (hdV cur.frm) :: ((dlk e.1 cur.frm).map frI ++ Jy (dlk e.2.1 recs))) (Qh 3 kI ((lkp e.1 (hdV cur.frm)).getD Qo) ((lkp e.1 cur.frm).getD (Qo, [])).2 :: Qb cur.g 204 kX (mp cur.gf, v12_7, mp cur.gh) :: Qh 108 kPP v12_7 (cur.all ++ [(e.1, e.2.2)]) :: Qg cur.gh Zu kI.T (ptk (e.1, e.2.2) ((lkp (e.1, e.2.2) cur.has).getD 0 + 1) cur.has) :: Qb g9_5 108 kPP (e.1, e.2.2) :: Qg g1_0 encS IsV (Wv (ptk e.2.1 cur recs)) :: Qb g4_2 42 kE e :: Qg cur.gf encI IsV (hdV cur.frm) :: ((dlk e.1 cur.frm).map frI ++ Jy (dlk e.2.1 recs)))) Qo (by kernel_rfl) (m := 17) (ns := [[(6, none)], [(60, some 0)], [(61, some 1)], [(62, some 2)], [(5, none)], [(64, some 4)], [(6, none)], [(66, some 6)], [(67, some 7)], [(68, some 8)], [(5, none)], [(70, some 10)], [(69, some 9), (71, some 11)], [(5, none)], [(73, some 13)], [(74, some 14)], [(72, some 12), (75, some 15)]]) (by kernel_rfl) (by kernel_rfl) (Ts := fun rr => [_, _, _, _, _, _, _, _, _, _, _, _, _, _, _, _, IsV rr]) (fun _ => rfl)
        case hops =>
         refine ⟨?_, ?_, ?_, ?_, ?_, ?_, ?_, ?_, ?_, ?_, ?_, ?_, ?_, ?_, ?_, ?_, ?_, trivial⟩
         · exact ⟨by intro c r hc; cases c <;> exact rgo r rfl ⟨rfl, trivial⟩ (rmv rfl), fun _ _ _ _ => rfl⟩
         · exact ⟨by intro c r hc; cases c <;> exact rgo r rfl ⟨rfl, trivial⟩ (rP (Qe oz)), fun _ _ _ _ => rfl⟩
         · exact ⟨by intro c r hc; cases c <;> exact rgo r rfl ⟨rfl, trivial⟩ (rP (pf oz yfy)), fun _ _ _ _ => rfl⟩
         · exact ⟨by intro c r hc; cases c <;> exact rgo r rfl ⟨rfl, trivial⟩ (rP (Ql oz (mA 1 rfl) lx0 y30)), fun _ _ _ _ => rfl⟩
         · exact ⟨by intro c r hc; cases c <;> exact rgo r rfl ⟨rfl, trivial⟩ (rP (pf oz ye8)), fun _ _ _ _ => rfl⟩
         · exact ⟨by intro c r hc; cases c <;> exact rgo r rfl ⟨rfl, trivial⟩ (rP (plb oz (mA 6 rfl) le0 ynm)), fun _ _ _ _ => rfl⟩
         · exact ⟨cBf (by kernel_rfl) fun r _ => rgo r rfl ⟨rfl, trivial⟩ (rmv rfl), fun _ _ _ _ => rfl⟩
         · exact ⟨cBf (by kernel_rfl) fun r _ => rgo r rfl ⟨rfl, trivial⟩ (rP (Qe oz)), fun _ _ _ _ => rfl⟩
         · exact ⟨cBf (by kernel_rfl) fun r _ => rgo r rfl ⟨rfl, trivial⟩ (rP (pf oz yfy)), fun _ _ _ _ => rfl⟩
         · exact ⟨cBf (by kernel_rfl) fun r _ => rgo r rfl ⟨rfl, trivial⟩ (rP (Ql oz (mA 1 rfl) lx0 y30)), fun _ _ _ _ => rfl⟩
         · exact ⟨cBf (by kernel_rfl) fun r _ => rgo r rfl ⟨rfl, trivial⟩ (rP (pf oz ye8)), fun _ _ _ _ => rfl⟩
         · exact ⟨cBf (by kernel_rfl) fun r _ => rgo r rfl ⟨rfl, trivial⟩ (rP (plb oz (mA 6 rfl) le0 ynm)), fun _ _ _ _ => rfl⟩
         · exact ⟨cBf (by kernel_rfl) fun r _ => rgo r rfl ⟨rfl, trivial⟩ (rP (X7 mkI Tryz.underlying120 (z0 := Qo) (by kernel_rfl) oz (mA 7 rfl) oz)), fun _ _ _ _ => rfl⟩
         · exact ⟨cBf (by kernel_rfl) fun r _ => rgo r rfl ⟨rfl, trivial⟩ (rP (pf oz y9l)), fun _ _ _ _ => rfl⟩
         · exact ⟨cBf (by kernel_rfl) fun r _ => rgo r rfl ⟨rfl, trivial⟩ (rP (plb oz (mA 6 rfl) le2 ynm)), fun _ _ _ _ => rfl⟩
         · exact ⟨cBf (by kernel_rfl) fun r _ => rgo r rfl ⟨rfl, trivial⟩ (Zc rfl (Q7 (d := kI) (v0 := 0) y9t ynm zI (show 1 * 1 ≤ 16777216 from by decide) (by decide) (Qv rfl rfl (by decide) oz Qc)) (fun _ _ _ _ h => h)), fun _ _ _ _ => rfl⟩
         refine ⟨?_, ?_⟩
         · exact cBf (by kernel_rfl) fun r _ => Zg rfl (Q0 oz (pA 0 rfl) oz y9t (by (simp [maxLen] at *; omega)) (by (simp [maxLen] at *; omega))) (pA 0 rfl) (fun r => pR) (fun _ _ _ => trivial) (fun _ _ _ _ h => h)
         exact fun _ h => absurd h (by decide)
        case h =>
         intro v13_16 _
         refine oA (X4 mkI Tryz.underlying120 oz (pA 7 rfl) oz oz) (pA 7 rfl) rfl rfl (fun _ _ => ?_)
         refine tn (bn (nn (rg (oP (pad oz ot (by omega)) rfl (mv rfl rfl (tn (nn ?_)))))))
         exact tg (k + 1, ptk e.2.1 { cur with has := (ptk (e.1, e.2.2) ((lkp (e.1, e.2.2) cur.has).getD 0 + 1) cur.has), all := cur.all ++ [(e.1, e.2.2)], va := v12_7, frm := ptk e.1 (v13_16, ((lkp e.1 cur.frm).getD (Qo, [])).2 ++ [e.2.2]) cur.frm } recs) ⟨(by show k + 1 ≤ l.length; omega), Qmf hkl he habs hcur (Qu8 hc)⟩ (by omega) ef (op Qzn)
     have hc : ¬ ((lkp (e.1, e.2.2) cur.has).getD 0 + 1) = 1 := by rw [Xl, if_pos rfl] at c49; simpa using c49
     refine sk (bn (nn (rg (oP (pad oz ot (by omega)) rfl (mv rfl rfl (tn (nn ?_)))))))
     exact tg (k + 1, ptk e.2.1 { cur with has := (ptk (e.1, e.2.2) ((lkp (e.1, e.2.2) cur.has).getD 0 + 1) cur.has) } recs) ⟨(by show k + 1 ≤ l.length; omega), Qmf hkl he habs hcur (Qzm hc)⟩ (by omega) ef (op Q22)
 refine Qx (tx (tx (bh (nn (sq ?_)))))
 have hkl : k = l.length := by simp only [decide_eq_false_iff_not] at c12; omega
 rw [hkl, List.take_length] at habs
 refine rg (mv rfl rfl (av rfl rfl (tn (Qhs (Q4v g1_0 recs) (R := []) (by rw [List.append_nil]) 2 oz (fun H q => by rw [Qva, habs] at q; exact q) ?_))))
 refine nn (tR ?_)
 exact Qi .ret (.inl rfl) rfl () oz trivial (by exact pn)
abbrev Q5c (g : Nat) : Value := .func (.func 96) #[] #[pt g 0]
theorem zLI : Xw Tryz.prog 50 (ksl kI) [] := ⟨Qo, by kernel_rfl, fun H => Uj⟩
theorem zPt : Xw Tryz.prog 172 (kpt kIx) none := ⟨.pointer none, by kernel_rfl, fun H => rfl⟩
theorem zr : Xw Tryz.prog 36 Q3 Qo := ⟨Qo, by kernel_rfl, fun H => ⟨rfl, rfl⟩⟩

/-- slices.Clone[rhizome/api.Tuple,int] -/
theorem Qfy (xs : Tp) (hm : xs.length ≤ 1000000) : Ct Tryz.prog 66 [SlT kI xs] ([]) Value (fun v => IsV v) (fun v => [Qh 3 kI v xs]) (fun _ => True) := by
 refine Qn Tryz.func66 rfl rfl ?_
 intro H w
 refine sq (rg (ak rfl (tn (nn (sq (sq (rg (mv rfl rfl (oA (Wr oz Tryz.underlying51) pR rfl rfl (fun b1 hb1 => ?_))))))))))
 refine tn (nn (tc oz (fun c4 => ?_) (fun c4 => ?_)))
 · try simp only [cq] at c4
   obtain rfl := hb1 c4
   refine Xg 3 kI (sq (rg (ak rfl (tn (nn (tR (tt ?_)))))))
   exact Qi .ret (.inl rfl) rfl Qo oz trivial (by repeat first | exact pn | refine pc 0 rfl ?_)
 · try simp only [cq] at c4
   refine sk (nn (sq (rg (oA (Jf (d := kI) (v0 := 0) ye1 ynm zI (show 0 * 1 ≤ 16777216 from by decide) (by decide) Qc) pR rfl rfl (fun v3_0 _ => ?_)))))
   refine mv rfl rfl (oA (Q0 oz (pA 0 rfl) oz ye1 (by (simp; omega)) (by (simp [maxLen]; omega))) (pA 0 rfl) rfl rfl (fun v3_2 _ => ?_))
   refine av rfl rfl (tn (nn (tR ?_)))
   exact Qi .ret (.inl rfl) rfl _ oz trivial (by repeat first | exact pn | refine pc 0 rfl ?_)
/-- rhizome/join.Rows$1 -/
theorem Qe9 (t : Tp) (g : Nat) (v : Value) (nx : List Tp) (hm : nx.length ≤ 1000000) : Ct Tryz.prog 96 [SlT kI t, IsV (pt g 0)] ([Qb g 36 Q3 v, Qh 51 kT v (nx)]) Value (fun r => Xe (decide (((nx ++ [t]).length : Int) ≤ 3000))) (fun r => [Qb g 36 Q3 r, Qh 51 kT r (nx ++ [t])]) (fun _ => True) := by
 refine Qn Tryz.func96 rfl rfl ?_
 intro H w
 refine sq (rg (ak rfl (tn (nn (sq (rg (oP (X9 oz (mA 0 rfl) y1z) rfl (mv rfl rfl (oA (Q7 (d := kT) (v0 := []) yiy yko zT (show 1 * 1 ≤ 16777216 from by decide) (by decide) (Qv rfl rfl (by decide) oz Qc)) pR rfl rfl (fun _ _ => ?_))))))))))
 refine oA (Q0 oz (pA 1 rfl) oz yiy (by (simp; omega)) (by (simp [maxLen]; omega))) (pA 1 rfl) rfl rfl (fun v1_3 _ => ?_)
 refine Vr (Zz 0 rfl) Vf fun hone => (oA (Qbi oz oz (by assumption) (pA 1 rfl) y1z) (pA 1 rfl) rfl rfl (fun _ _ => ?_))
 refine tn (nn (sq (rg (oP (X9 oz (mA 0 rfl) y1z) rfl (oP (Xr oz (mA 1 rfl) Tryz.underlying36) rfl (oP (V8 oz ot) rfl (av rfl rfl (tn (nn (tR ?_))))))))))
 exact Qi .ret (.inl rfl) rfl v1_3 oz trivial (by repeat first | exact pn | refine pc 0 rfl ?_)
/-- rhizome/join.extend -/
theorem Qth (o : Option Ix) (r : Tp) (f t : Nat) (g : Nat) (v : Value) (nx : List Tp) (hf : f ≤ r.length) (ht : t ≤ r.length + 1) (hft : f < r.length → t ≤ r.length) (hn : nx.length ≤ 3000) (hr : r.length ≤ 1000) (hx : ∀ x, o = some x → x.2.1.length ≤ 1000000 ∧ ∀ n, ((lkp n x.1).getD []).length ≤ 1000000) : Ct Tryz.prog 97 [Qlz kIx o, SlT kI r, I64 (f : Int), I64 (t : Int), IsV (Q5c g)] ([Qb g 36 Q3 v, Qh 51 kT v (nx)]) (Value × List Tp) (fun p => Xe (Wm nx o r f t)) (fun p => [Qb g 36 Q3 p.1, Qh 51 kT p.1 (p.2)]) (fun p => nx.length + (ext o r f t).length ≤ 3000 → p.2 = nx ++ ext o r f t) := by
 refine Qn Tryz.func97 rfl rfl ?_
 intro H w
 refine sq (rg (ak rfl (tn (nn (sq (sq (rg (mv rfl rfl (oP (Qdg oz Tryz.underlying172) rfl (tn (nn (tc oz (fun c18 => ?_) (fun c18 => ?_)))))))))))))
 · obtain rfl : o = none := by cases o with
    | none => rfl
    | some x => cases c18
   refine sq (rg (ak rfl (tn (nn (tR (tt ?_))))))
   exact Qi .ret (.inl rfl) rfl (v, nx) (OT.val oz (congrArg Value.bool ((decide_eq_true (by show nx.length + 0 ≤ 3000; omega)).symm))) (fun _ => (List.append_nil nx).symm) (by repeat first | exact pn | refine pc 0 rfl ?_)
 obtain ⟨x, rfl⟩ : ∃ x, o = some x := by cases o with
  | none => cases c18
  | some x => exact ⟨x, rfl⟩
 obtain ⟨hx1, hx2⟩ := hx x rfl
 refine Zt 0 (T := AtT kIx x) oz (sk (nn (sq (sq (rg (mv rfl rfl (oP (pls oz Tryz.underlying51) rfl (av rfl rfl (tn (nn (tb (sq (rg (mv rfl rfl (mv rfl rfl (oP (Q5 oz oz) rfl (mv rfl rfl (oG rfl rfl rfl (gm oz) (fun hg => by (have hg1 := hg.2; (try simp only [cq2] at hg1); exact Qm oz)) rfl ?_))))))))))))))))))
 refine oG rfl rfl rfl (gm oz) (fun hg => by (have hg1 := hg.2; (try simp only [cq2] at hg1); exact Qm oz)) rfl ?_
 refine oG rfl rfl rfl (gm oz) (fun hg => by (have hg1 := hg.2; (try simp only [cq2] at hg1); exact Q5 (gu oz hg) (gu oz hg))) rfl ?_
 refine oP (Q2 oz oz) rfl (av rfl rfl (tn (nn (tc oz (fun c57 => ?_) (fun c57 => ?_)))))
 · obtain ⟨hA1, hA2⟩ : f < r.length ∧ t < r.length := by simp only [Bool.and_eq_true, decide_eq_true_eq] at c57; omega
   refine sq ?_
   apply Xs (m := 18) (ns := [[(0, none)], [(66, some 0)], [(67, some 1)], [(68, some 2)], [(1, none)], [(2, none)], [(70, some 4), (71, some 5)], [(72, some 6)], [(1, none)], [(3, none)], [(74, some 8), (75, some 9)], [(76, some 10)], [(73, some 7), (77, some 11)], [(69, some 3), (78, some 12)], [(79, some 13)], [(80, some 14)], [(4, none), (81, some 15)], [(1, none), (81, some 15)]]) (by kernel_rfl) (by kernel_rfl) (Ts := [_, _, _, _, _, _, _, _, _, _, _, _, _, _, _, _, _, _]) rfl
   case hops =>
    exact ⟨rmv rfl, rP (Qp oz), rP (Qr oz ly2 ywt), rP (pL oz y7m), rmv rfl, rmv rfl, rP (Qj oz oz Tryz.underlying51 ynm (by omega) (by omega)), rP (pL oz ynm), rmv rfl, rmv rfl, rP (Qj oz oz Tryz.underlying51 ynm (by omega) (by omega)), rP (pL oz ynm), rP (Xt (d := kPP) (v0 := (0, 0)) (agg := false) Tryz.underlying108 ynm zP rfl (Qk rfl Qf.p0 oz (Qk rfl Qf.p1 oz Qc))), rP (V0 mkP Tryz.underlying202 zI oz oz), rP (Zs oz ot), rmv rfl, rJ rfl fun hg hg1 => rmv rfl, rJ rfl fun hg hg1 => rmv rfl, trivial⟩
   case h =>
    refine Ql7 rfl rfl rfl rfl oz (fun hsp => ?_) (fun hsp => ?_)
    · refine oA (Z6 (gu (oT rfl) ⟨trivial, hsp⟩) (CtV.of [pt g 0] (Qe9 (r) g (v) (nx) (by omega)) (by kernel_rfl)) (oc (gu (oT rfl) ⟨trivial, hsp⟩) oN) (Yh 0 0 rfl rfl)) (Yh 0 0 rfl rfl) rfl rfl (fun v15_18 _ => ?_)
      refine oP (Zx oz (by exact OT.gu_in oz ⟨trivial, by assumption⟩)) rfl ?_
      refine av rfl rfl (tn (nn (tR (Qw (tt ?_)))))
      exact Qi .ret (.inl rfl) rfl (v15_18, nx ++ [r]) (OT.val oz (congrArg Value.bool (Q4w hA1 hA2 hsp rfl))) (fun _ => by show nx ++ [r] = nx ++ ext (some x) r f t; rw [Qqj hA1 hA2]; exact congrArg (nx ++ ·) (if_neg (of_decide_eq_false hsp)).symm) (by repeat first | exact pn | refine pc 0 rfl ?_)
    refine oP (Zx oz (by exact OT.gu_out (T := Xe true) oz (by simp_all))) rfl ?_
    refine av rfl rfl (tn (nn (tR (Qw (tt ?_)))))
    exact Qi .ret (.inl rfl) rfl (v, nx) (OT.val oz (congrArg Value.bool (Q5t hA1 hA2 hn hsp))) (fun _ => by show nx = nx ++ ext (some x) r f t; rw [Qqj hA1 hA2]; exact (List.append_nil nx).symm.trans (congrArg (nx ++ ·) (if_pos (of_decide_eq_true hsp)).symm)) (by repeat first | exact pn | refine pc 0 rfl ?_)
 have hnA : ¬ (f < r.length ∧ t < r.length) := by rintro ⟨h1, h2⟩; simp only [Bool.and_eq_false_iff, decide_eq_false_iff_not] at c57; omega
 refine sq (rg (mv rfl rfl (mv rfl rfl (oP (Q5 oz oz) rfl (av rfl rfl (tn (nn (tc oz (fun c86 => ?_) (fun c86 => ?_)))))))))
 · have hB1 : f < r.length := by simpa using c86
   have hB2 : ¬ t < r.length := fun e => hnA ⟨hB1, e⟩
   obtain ⟨bl, he1⟩ : ∃ bl, (lkp (at' r (f : Int)) x.1).getD [] = bl := ⟨_, rfl⟩
   have he : (lkp (r.getD f 0) x.1).getD [] = bl := he1
   have hbl : bl.length ≤ 1000000 := he ▸ hx2 (r.getD f 0)
   refine sq ?_
   apply Xs (m := 11) (ns := [[(0, none)], [(90, some 0)], [(91, some 1)], [(92, some 2)], [(1, none)], [(2, none)], [(94, some 4), (95, some 5)], [(96, some 6)], [(93, some 3), (97, some 7)], [(98, some 8)], []]) (by kernel_rfl) (by kernel_rfl) (Ts := [_, _, _, _, _, _, _, _, _, _, _]) rfl
   case hops =>
    exact ⟨rmv rfl, rP (Qp oz), rP (Qr oz ly0 yfy), rP (pL oz y30), rmv rfl, rmv rfl, rP (Qj oz oz Tryz.underlying51 ynm (by omega) (by omega)), rP (pL oz ynm), rP (V0 mkI Tryz.underlying120 zLI oz oz), rP (pls oz Tryz.underlying50), rP (Qm ot), trivial⟩
   case h =>
    refine tn ?_
    rw [he1]
    refine nn (tb (Qt (σ := Nat × Value) (e4 1 4 98 99 rfl en) (fun s => [(100, I64 (s.1 : Int))]) (fun s => [Qb g 36 Q3 s.2, Qh 51 kT s.2 (nx ++ (bl.take s.1).map (fun b => r ++ [b]))]) (fun s => s.1 ≤ bl.length ∧ nx.length + s.1 ≤ 3000) (fun s => bl.length - s.1) (0, v) ⟨Nat.zero_le _, hn⟩ ?_ (op (by rw [List.take_zero, List.map_nil, List.append_nil]; exact pl)) ?_))
    · exact (ec 100 rfl en)
    rintro ⟨i, vi⟩ ⟨hi, hin⟩
    dsimp only at hi hin ⊢
    refine sq ?_
    have hil : (nx ++ ((bl.take i).map (fun b => r ++ [b]))).length = nx.length + i := by rw [List.length_append, List.length_map, List.length_take]; omega
    refine rg (oP (Q5 oz oz) rfl (tn (nn (sq (tc oz (fun c101 => ?_) (fun c101 => ?_))))))
    · refine sk (nn (sq (tb (sq ?_))))
      have hst := Qah (fun b => r ++ [b]) (l := bl) (k := i) (by simpa using c101)
      refine rg (oP (Qj oz oz Tryz.underlying50 ynm (by omega) (by (simp [maxLen] at *; omega))) rfl ?_)
      refine oP (pL (oT rfl) ynm) rfl (av rfl rfl (tn (nn (sq (rg (mv rfl rfl (mv rfl rfl (oA (aC (Qfy _ (by omega)) yz4 (oc (oT rfl) oN) pR) pR rfl rfl (fun v20_2 _ => ?_)))))))))
      refine mv rfl rfl (oA (Q7 (d := kI) (v0 := 0) ye1 ynm zI (show 1 * 1 ≤ 16777216 from by decide) (by decide) (Qv rfl rfl (by decide) oz Qc)) pR rfl rfl (fun _ _ => ?_))
      refine oA (Q0 oz (pA 0 rfl) oz ye1 (by (simp; omega)) (by (simp [maxLen]; omega))) (pA 0 rfl) rfl rfl (fun v20_5 _ => ?_)
      refine Xh (Qq 0 rfl) 109 (oT rfl) (oA (Z6 (oT rfl) (CtV.of [pt g 0] (Qe9 (r ++ [at' bl (i : Int)]) g (vi) (nx ++ (bl.take i).map (fun b => r ++ [b])) (by omega)) (by kernel_rfl)) (oc (oT rfl) oN) (Yh 0 0 rfl rfl)) (Yh 0 0 rfl rfl) rfl rfl (fun v20_6 _ => ?_))
      refine oP (Zf oz) rfl (tn (nn (tc oz (fun c111 => ?_) (fun c111 => ?_))))
      · refine sq (rg (ak rfl (tn (nn (tR (Qw (tt (tt (Qw (Qw (tt ?_)))))))))))
        have hbf := Qzq (nx := nx) (t := t) he hB1 hB2 (i := i) (by simpa using c101) (s := nx ++ (bl.take i).map (fun b => r ++ [b]) ++ [r ++ [at' bl (i : Int)]]) (by rw [List.length_append, hil]; rfl) (by have h9 := c111; simp only [Bool.not_eq_true', decide_eq_false_iff_not] at h9; exact h9)
        exact Qi .ret (.inl rfl) rfl (v20_6, _) (OT.val oz (congrArg Value.bool (hbf))) (fun hq => absurd hbf (by unfold Wm; rw [decide_eq_true hq]; simp)) (by repeat first | exact pn | refine pc 0 rfl ?_)
      refine sk (bn (nn (rg (oP (pad oz ot (by omega)) rfl (mv rfl rfl (tn (nn ?_)))))))
      exact tg (i + 1, v20_6) ⟨by show i + 1 ≤ _; simp only [decide_eq_true_eq] at c101; omega, by show nx.length + (i + 1) ≤ 3000; have h9 := c111; simp only [Bool.not_eq_false', decide_eq_true_eq, List.length_append, List.length_singleton] at h9; rw [List.length_append] at hil; omega⟩ (by simp only [decide_eq_true_eq] at c101; show bl.length - (i + 1) < bl.length - i; omega) ef (op (by rw [hst, ← List.append_assoc]; exact (by repeat first | exact pn | refine pc 0 rfl ?_)))
    refine Qx (tx (tx (bh (bn (nn (sq (rg (ak rfl (tn (nn (tR ?_)))))))))))
    obtain rfl : i = bl.length := by simp only [decide_eq_false_iff_not] at c101; omega
    exact Qi .ret (.inl rfl) rfl (vi, nx ++ (bl.take bl.length).map (fun b => r ++ [b])) (OT.val oz (congrArg Value.bool (Q23 he hB1 hB2 (by omega)))) (fun _ => by show nx ++ _ = nx ++ ext (some x) r f t; rw [Qvb hB1 hB2, he, List.take_length]) (by repeat first | exact pn | refine pc 0 rfl ?_)
 have hC1 : ¬ f < r.length := by simpa using c86
 refine sq (rg (mv rfl rfl (oP (Qp oz) rfl (oP (Qr oz ly1 yrl) rfl (oP (pL oz yl0) rfl (oP (pls oz Tryz.underlying160) rfl (oP (Qm ot) rfl (tn (nn (tb (Qt (σ := Nat × Value) (e4 1 3 4 11 rfl (e2 24 25 rfl en)) (fun s => [(26, I64 (s.1 : Int))]) (fun s => [Qb g 36 Q3 s.2, Qh 51 kT s.2 (nx ++ (x.2.1.take s.1).filterMap (Wa r t))]) (fun s => s.1 ≤ x.2.1.length ∧ (nx ++ (x.2.1.take s.1).filterMap (Wa r t)).length ≤ 3000) (fun s => x.2.1.length - s.1) (0, v) ⟨Nat.zero_le _, by simpa using hn⟩ ?_ (op (by rw [List.take_zero, List.filterMap_nil, List.append_nil]; exact pl)) ?_)))))))))))
 · exact (ec 26 rfl en)
 rintro ⟨i, vi⟩ ⟨hi, hin⟩
 dsimp only at hi hin ⊢
 refine sq (rg (oP (Q5 oz oz) rfl (tn (nn (sq (tc oz (fun c27 => ?_) (fun c27 => ?_)))))))
 · refine sk (nn (sq (tb (sq ?_))))
   obtain ⟨p, hp⟩ : ∃ p, at' x.2.1 (i : Int) = p := ⟨_, rfl⟩
   have hil : i < x.2.1.length := by simpa using c27
   have hst := Qr9 (Wa r t) (l := x.2.1) (k := i) hil
   rw [hp] at hst
   refine rg (oP (Qj oz oz Tryz.underlying160 yd7 (by omega) (by omega)) rfl (oP (pL oz yd7) rfl (oA (Qz (zP)) pR rfl rfl (fun g6_2 _ => ?_))))
   refine oA (asv oz oz (pA 0 rfl) yd7) (pA 0 rfl) rfl rfl (fun _ _ => ?_)
   refine tn (nn (sq ?_))
   rw [hp]
   apply Yg (ρ := Value) (φ := fun rr => True) (p := 1) (Lf := fun c rr => cond c (Qh 3 kI rr r :: Qb g6_2 108 kPP p :: Qb g 36 Q3 vi :: Qh 51 kT vi (nx ++ (x.2.1.take i).filterMap (Wa r t)) :: []) (Qb g6_2 108 kPP p :: Qb g 36 Q3 vi :: Qh 51 kT vi (nx ++ (x.2.1.take i).filterMap (Wa r t)) :: [])) Qo (by kernel_rfl) (m := 5) (ns := [[(1, none)], [(30, some 0)], [(15, none)], [(32, some 2)], [(33, some 3)]]) (by kernel_rfl) (by kernel_rfl) (Ts := fun rr => [_, IsV rr, _, kI.T p.1, SlT kI [p.1]]) (fun _ => rfl)
   case hops =>
    refine ⟨?_, ?_, ?_, ?_, ?_, trivial⟩
    · exact ⟨cBf (by kernel_rfl) fun r _ => rgo r rfl ⟨rfl, trivial⟩ (rmv rfl), fun _ _ _ _ => rfl⟩
    · refine ⟨?_, ?_⟩
      · exact cBf (by kernel_rfl) fun r _ => Zg rfl (aC (Qfy _ (by omega)) yz4 (oc oz oN) pR) pR (fun r => pR) (fun _ _ _ => trivial) (fun _ _ _ _ h => h)
      exact fun _ h => absurd h (by decide)
    · exact ⟨cB (fun r hc => rgo r rfl ⟨rfl, trivial⟩ (rP (Zj oz (mA 0 rfl) Tryz.underlying108 ynm))) fun r hc => rgo r rfl ⟨rfl, trivial⟩ (rP (Zj oz (mA 1 rfl) Tryz.underlying108 ynm)), fun _ _ _ _ => rfl⟩
    · exact ⟨cB (fun r hc => rgo r rfl ⟨rfl, trivial⟩ (rP (Z7 (d := kI) (v := p) oz (mA 0 rfl) ynm))) fun r hc => rgo r rfl ⟨rfl, trivial⟩ (rP (Z7 (d := kI) (v := p) oz (mA 1 rfl) ynm)), fun _ _ _ _ => rfl⟩
    exact ⟨by intro c r hc; cases c <;> exact rgo r rfl ⟨rfl, trivial⟩ (Zc rfl (Q7 (d := kI) (v0 := 0) ye1 ynm zI (show 1 * 1 ≤ 16777216 from by decide) (by decide) (Qv rfl rfl (by decide) oz Qc)) (fun _ _ _ _ h => h)), fun _ _ _ _ => rfl⟩
   case h =>
    intro v7_1 _
    refine oA (Q0 oz (pA 0 rfl) oz ye1 (by (simp; omega)) (by (simp [maxLen]; omega))) (pA 0 rfl) rfl rfl (fun v7_5 _ => ?_)
    refine av rfl rfl (tn (nn (sq (sq (rg (mv rfl rfl (mv rfl rfl (oP (pad oz ot (by omega)) rfl (oP (Zs oz oz) rfl (tn (nn (tc oz (fun c39 => ?_) (fun c39 => ?_)))))))))))))
    · have ht1 : t = r.length + 1 := by simp only [decide_eq_true_eq] at c39; omega
      have hrow : Wa r t p = some (r ++ [p.1] ++ [p.2]) := by unfold Wa; rw [if_pos ht1]
      refine rg (mv rfl rfl (oP (Zk oz (mA 1 rfl) Tryz.underlying108 ynm) rfl (oP (Z8 (d := kI) (v := p) oz (mA 1 rfl) ynm) rfl (oA (Q7 (d := kI) (v0 := 0) ye1 ynm zI (show 1 * 1 ≤ 16777216 from by decide) (by decide) (Qv rfl rfl (by decide) oz Qc)) pR rfl rfl (fun _ _ => ?_)))))
      refine oA (Q0 oz (pA 0 rfl) oz ye1 (by (simp; omega)) (by (simp [maxLen]; omega))) (pA 0 rfl) rfl rfl (fun v9_4 _ => ?_)
      refine av rfl rfl (tn (nn (sq (rg (mv rfl rfl (mv rfl rfl (Xh (Qq 0 rfl) 53 oz (oA (Z6 oz (CtV.of [pt g 0] (Qe9 (_) g (vi) (nx ++ (x.2.1.take i).filterMap (Wa r t)) (by omega)) (by kernel_rfl)) (oc oz oN) (Yh 1 1 rfl rfl)) (Yh 1 1 rfl rfl) rfl rfl (fun v11_2 _ => ?_)))))))))
      refine oP (Zf oz) rfl (tn (nn (tc oz (fun c55 => ?_) (fun c55 => ?_))))
      · refine sq (rg (ak rfl (tn (nn (tR (Qw (tt (tt (Qw (Qw (tt ?_)))))))))))
        have hbf := Qqk (nx := nx) (t := t) hC1 (i := i) (s := nx ++ (x.2.1.take i).filterMap (Wa r t) ++ [_]) (by rw [hst, hrow, Option.toList_some, List.append_assoc]) (by have h9 := c55; simp only [Bool.not_eq_true', decide_eq_false_iff_not] at h9; exact h9)
        exact Qi .ret (.inl rfl) rfl (v11_2, _) (OT.val oz (congrArg Value.bool (hbf))) (fun hq => absurd hbf (by unfold Wm; rw [decide_eq_true hq]; simp)) (by repeat first | exact pn | refine pc 0 rfl ?_)
      refine sk (bn (nn (rg (oP (pad oz ot (by omega)) rfl (mv rfl rfl (tn (nn ?_)))))))
      exact tg (i + 1, v11_2) ⟨(by show i + 1 ≤ _; omega), (by show (nx ++ (x.2.1.take (i + 1)).filterMap (Wa r t)).length ≤ 3000; have h9 := c55; simp only [Bool.not_eq_false', decide_eq_true_eq] at h9; rw [hst, hrow, Option.toList_some, ← List.append_assoc]; simp only [List.length_append, List.length_singleton] at h9 ⊢; omega)⟩ (by show x.2.1.length - (i + 1) < x.2.1.length - i; omega) ef (op (by rw [hst, hrow, Option.toList_some, ← List.append_assoc]; exact (by repeat first | exact pn | refine pc 0 rfl ?_)))
    have ht1 : ¬ t = r.length + 1 := by simp only [decide_eq_false_iff_not] at c39; omega
    refine sq ?_
    apply Xs (m := 6) (ns := [[(16, none)], [(3, none)], [(45, some 0), (46, some 1)], [(47, some 2)], [(15, none)], [(49, some 4)]]) (by kernel_rfl) (by kernel_rfl) (Ts := [_, _, _, _, _, _]) rfl
    case hops =>
     exact ⟨rmv rfl, rmv rfl, rP (pio oz (mA 0 rfl) oz Tryz.underlying51 ynm (by omega) (by (simp; omega))), rP (plo oz (mA 0 rfl) (by omega) (by (simp; omega)) ynm), rP (Zk oz (mA 1 rfl) Tryz.underlying108 ynm), rP (Z8 (d := kI) (v := p) oz (mA 1 rfl) ynm), trivial⟩
    case h =>
     refine oP (Yj oz oz) rfl (tn (nn (tc oz (fun c51 => ?_) (fun c51 => ?_))))
     · have hrow : Wa r t p = none := by unfold Wa; rw [if_neg ht1]; exact if_neg (of_decide_eq_true c51)
       refine Qx (tx (bh (nn (rg (oP (pad oz ot (by omega)) rfl (mv rfl rfl (tn (nn ?_))))))))
       exact tg (i + 1, vi) ⟨(by show i + 1 ≤ _; omega), (by show (nx ++ (x.2.1.take (i + 1)).filterMap (Wa r t)).length ≤ 3000; rw [hst, hrow, Option.toList_none, List.append_nil]; exact hin)⟩ (by show x.2.1.length - (i + 1) < x.2.1.length - i; omega) ef (op (by rw [hst, hrow, Option.toList_none, List.append_nil]; exact (by repeat first | exact pn | refine pc 2 rfl ?_)))
     have hrow : Wa r t p = some (r ++ [p.1]) := by unfold Wa; rw [if_neg ht1]; exact if_pos (Classical.not_not.1 (of_decide_eq_false c51))
     refine sk (nn (sq (rg (mv rfl rfl (mv rfl rfl (Xh (Qq 0 rfl) 53 oz (oA (Z6 oz (CtV.of [pt g 0] (Qe9 (_) g (vi) (nx ++ (x.2.1.take i).filterMap (Wa r t)) (by omega)) (by kernel_rfl)) (oc oz oN) (Yh 1 1 rfl rfl)) (Yh 1 1 rfl rfl) rfl rfl (fun v11_2 _ => ?_))))))))
     refine oP (Zf oz) rfl (tn (nn (tc oz (fun c55 => ?_) (fun c55 => ?_))))
     · refine sq (rg (ak rfl (tn (nn (tR (Qw (tt (tt (Qw (Qw (tt ?_)))))))))))
       have hbf := Qqk (nx := nx) (t := t) hC1 (i := i) (s := nx ++ (x.2.1.take i).filterMap (Wa r t) ++ [_]) (by rw [hst, hrow, Option.toList_some, List.append_assoc]) (by have h9 := c55; simp only [Bool.not_eq_true', decide_eq_false_iff_not] at h9; exact h9)
       exact Qi .ret (.inl rfl) rfl (v11_2, _) (OT.val oz (congrArg Value.bool (hbf))) (fun hq => absurd hbf (by unfold Wm; rw [decide_eq_true hq]; simp)) (by repeat first | exact pn | refine pc 0 rfl ?_)
     refine sk (bn (nn (rg (oP (pad oz ot (by omega)) rfl (mv rfl rfl (tn (nn ?_)))))))
     exact tg (i + 1, v11_2) ⟨(by show i + 1 ≤ _; omega), (by show (nx ++ (x.2.1.take (i + 1)).filterMap (Wa r t)).length ≤ 3000; have h9 := c55; simp only [Bool.not_eq_false', decide_eq_true_eq] at h9; rw [hst, hrow, Option.toList_some, ← List.append_assoc]; simp only [List.length_append, List.length_singleton] at h9 ⊢; omega)⟩ (by show x.2.1.length - (i + 1) < x.2.1.length - i; omega) ef (op (by rw [hst, hrow, Option.toList_some, ← List.append_assoc]; exact (by repeat first | exact pn | refine pc 0 rfl ?_)))
 refine Qx (tx (tx (bh (bn (nn (sq (rg (ak rfl (tn (nn (tR ?_)))))))))))
 obtain rfl : i = x.2.1.length := by simp only [decide_eq_false_iff_not] at c27; omega
 exact Qi .ret (.inl rfl) rfl (vi, nx ++ (x.2.1.take x.2.1.length).filterMap (Wa r t)) (OT.val oz (congrArg Value.bool (Q24 hC1 (by rw [List.take_length] at hin; exact hin)))) (fun _ => by show nx ++ _ = nx ++ ext (some x) r f t; rw [Qvc hC1, List.take_length]) (by repeat first | exact pn | refine pc 0 rfl ?_)
end Go.Proofs.YtklhdalppmjnaaaGreatDoor
namespace Go.Jn
open Go Go.Gw Go.Tu Go.Proofs.YtklhdalppmjnaaaGreatDoor
theorem Qvd (lab : Lab) (m : List (Lab × Ix)) : (lkp lab (Qu9 m)).getD none = lkp lab m := by
 unfold Qu9
 rw [W5 (fun x : Ix => some x)]
 cases lkp lab m <;> rfl
theorem Qjl {α β : Type} [Inhabited α] {l : List α} (f : α → List β) {k : Nat} (h : k < l.length) : (l.take (k + 1)).flatMap f = (l.take k).flatMap f ++ f (at' l (k : Int)) := by
 rw [Q1 h, List.take_succ_eq_append_getElem h, List.flatMap_append]; simp
theorem Qkt {α β : Type} (f : α → List β) (l : List α) (k : Nat) : ((l.take k).flatMap f).length ≤ (l.flatMap f).length := by
 have h := List.take_append_drop k l
 have h2 : (l.flatMap f).length = ((l.take k).flatMap f).length + ((l.drop k).flatMap f).length := by
  conv => lhs; rw [← h]
  rw [List.flatMap_append, List.length_append]
 omega
theorem Qjm {m : List (Lab × Ix)} {V : List Lab} {al : List Atm} {k : Nat} (h : k < al.length) : Zr m V (al.take (k + 1)) = Qma m V (Zr m V (al.take k)) (at' al (k : Int)) := by
 rw [Q1 h, List.take_succ_eq_append_getElem h, Qhx]
theorem Qh1 (l : List Ed) {al : List Atm} {k : Nat} {r : Tp} (h : r ∈ Zr (Za l) (Qa al) (al.take k)) : r.length = (Qa (al.take k)).length := (((Qfo l (al.take k) (K3 al k)).2 r).1 h).1
theorem Qsa {al : List Atm} {k : Nat} {a : Atm} (h : k < al.length) (ha : at' al (k : Int) = a) : Qc3 (Qa (al.take k)).length (Qa (al.take (k + 1))).length (ix (Qa al) a.1) (ix (Qa al) a.2.2) := by
 have h1 := Qmc h
 rw [ha] at h1
 exact Qur (Qby _) h1 (K3 al (k + 1))
theorem Qsb {al : List Atm} {k : Nat} {a : Atm} (h : k < al.length) (ha : at' al (k : Int) = a) : ixI (Qa al) a.1 = (ix (Qa al) a.1 : Int) ∧ ixI (Qa al) a.2.2 = (ix (Qa al) a.2.2 : Int) := by
 rw [Q1 h] at ha
 have hm : a ∈ al := ha ▸ List.getElem_mem h
 exact ⟨Qdk (Jd.2 ⟨a, hm, .inl rfl⟩), Qdk (Jd.2 ⟨a, hm, .inr rfl⟩)⟩
theorem Qsc (l : List Ed) (hl : l.length ≤ 1000000) (lab : Lab) : ∀ x, lkp lab (Za l) = some x → x.2.1.length ≤ 1000000 ∧ ∀ n, ((lkp n x.1).getD []).length ≤ 1000000 := by
 intro x hx
 obtain ⟨h, _⟩ := Qhw l lab
 rw [hx] at h
 simp only [Option.getD_some] at h
 have h1 := Qqc l lab
 have h2 := h.al
 refine ⟨by omega, fun n => ?_⟩
 have h3 := h.fl n
 omega
theorem at_mem {α : Type} [Inhabited α] {l : List α} {k : Nat} (h : k < l.length) : at' l (k : Int) ∈ l := by rw [Q1 h]; exact List.getElem_mem h
theorem Qku {v : Vw} (h : (!okV v) = false) : okV v = true ∧ v.2.2.1.length ≤ 6 ∧ 1 ≤ v.2.2.2.1.length ∧ v.2.2.2.1.length ≤ 8 := by
 have h1 : okV v = true := by simpa using h
 refine ⟨h1, ?_⟩
 unfold okV Qr0 at h1
 simp only [Bool.and_eq_true, decide_eq_true_eq] at h1
 omega
theorem Qkv (l : List Ed) {al : List Atm} (h8 : al.length ≤ 8) (k : Nat) : ∀ r ∈ Zr (Za l) (Qa al) (al.take k), r.length ≤ 16 := by
 intro r hr
 have h1 := Qh1 l hr
 have h2 := K8 (al.take k)
 rw [List.length_take] at h2
 omega
theorem Q4x {m : List (Lab × Ix)} {V : List Lab} {al : List Atm} : ∀ j, j ≤ 0 → (Zr m V (al.take j)).length ≤ 3000 := fun j hj => by
 obtain rfl : j = 0 := by omega
 show 1 ≤ 3000; omega
theorem Qsd {m : List (Lab × Ix)} {V : List Lab} {al : List Atm} {k : Nat} (h : ∀ j, j ≤ k → (Zr m V (al.take j)).length ≤ 3000) (h1 : (Zr m V (al.take (k + 1))).length ≤ 3000) : ∀ j, j ≤ k + 1 → (Zr m V (al.take j)).length ≤ 3000 := fun j hj => by
 rcases Nat.lt_or_ge j (k + 1) with h2 | h2
 · exact h j (by omega)
 obtain rfl : j = k + 1 := by omega
 exact h1
theorem Qzs {l : List Ed} {al : List Atm} {k i : Nat} {a : Atm} {rows : List Tp} {r : Tp} (hk : k < al.length) (ha : at' al (k : Int) = a) (hr : Zr (Za l) (Qa al) (al.take k) = rows) (hi : i < rows.length) (hrr : at' rows (i : Int) = r)
 (h : ¬ ((rows.take i).flatMap (fun r => ext (lkp a.2.1 (Za l)) r (ix (Qa al) a.1) (ix (Qa al) a.2.2))).length + (ext (lkp a.2.1 (Za l)) r (ix (Qa al) a.1) (ix (Qa al) a.2.2)).length ≤ 3000) : Kw l al := by
 refine ⟨k + 1, hk, ?_⟩
 rw [Qjm hk, ha, hr]
 unfold Qma
 have h1 := Qkt (fun r => ext (lkp a.2.1 (Za l)) r (ix (Qa al) a.1) (ix (Qa al) a.2.2)) rows (i + 1)
 have h2 := Qjl (fun r => ext (lkp a.2.1 (Za l)) r (ix (Qa al) a.1) (ix (Qa al) a.2.2)) hi
 rw [hrr] at h2
 rw [h2, List.length_append] at h1
 omega
theorem Qve {l : List Ed} {al : List Atm} (h : ∀ j, j ≤ al.length → (Zr (Za l) (Qa al) (al.take j)).length ≤ 3000) : ¬ Kw l al := by
 rintro ⟨k, hk, h1⟩
 have := h k hk
 omega
end Go.Jn
namespace Go.Proofs.YtklhdalppmjnaaaGreatDoor
open Go Go.Gw Go.So Go.Tu Go.Jn

/-- rhizome/join.Rows -/
theorem Q1h (v : Vw) (l : List Ed) (ho : v.2.2.1.length ≤ maxLen) (ha : v.2.2.2.1.length ≤ maxLen) (hm : l.length ≤ 1000000) : Ct Tryz.prog 61 [kV.T v, SlT kE l] ([]) (List Tp × Int) (fun r => Y1 [SlT kT r.1, I64 r.2]) (fun _ => []) (fun r => Qkq v l r) := by
 refine Qn Tryz.func61 rfl rfl ?_
 intro H w
 have ho0 := ho; have ha0 := ha; unfold maxLen at ho ha
 refine sq (rg (oA (Xf (d := kV) oz) pR rfl rfl (fun g0_0 _ => ?_)))
 refine ak rfl (ak rfl (tn (nn (sq (sq (rg (oP (plv oz (mA 0 rfl) y4q) rfl (oA (aC (Q3z _ ho0 ha0) y5v (oc oz oN) pR) pR rfl rfl (fun _ _ => ?_)))))))))
 refine tn (nn (tc oz (fun c16 => ?_) (fun c16 => ?_)))
 · refine sq (rg (ak rfl (ak rfl (tn (nn (tR (tt ?_)))))))
   exact Yb .ret (.inl rfl) rfl ([], 1) (OT.conv oz (fun H u h => Jr h)) oz (fun _ _ h => h) (.inl ⟨by simpa using c16, rfl⟩) (by exact pn)
 obtain ⟨hok, hol, hal1, hal8⟩ := Qku c16
 refine sk (nn (sq (rg (oP (plv (oT rfl) (mA 0 rfl) y4q) rfl (oA (aC (Qbb _ (by omega)) yew (oc (oT rfl) oN) pR) pR rfl rfl (fun _ _ => ?_))))))
 refine mv rfl rfl (oA (aC (Qpn _ (by omega)) ywh (oc oz oN) pR) pR rfl rfl (fun _ _ => ?_))
 refine av rfl rfl (av rfl rfl (tn (nn (sq (rg (oA (Q7 (d := kT) (v0 := []) yiy yko zT (show 1 * 1 ≤ 16777216 from by decide) (by decide) (Qv rfl rfl (by decide) (OT.conv ot (fun H u h => Jr h)) Qc)) pR rfl rfl (fun _ _ => ?_)))))))
 refine av rfl rfl (tn (Zt 8 (T := SlT kT (Zr (Za l) (Qa v.2.2.2.1) (v.2.2.2.1.take 0))) (OT.eq oz rfl) (nn (sq (sq (rg (oP (pf oz y46) rfl (oP (plb oz (mA 0 rfl) lv3 y2r) rfl (oP (pls oz Tryz.underlying23) rfl (oP (Qm ot) rfl (tn (nn (tb (Qt (σ := Nat) (e4 6 7 23 24 rfl en) (fun k => [(25, I64 (k : Int)), (8, SlT kT (Zr (Za l) (Qa v.2.2.2.1) (v.2.2.2.1.take k)))]) (fun k => [Qb g0_0 25 kV v]) (fun k => k ≤ v.2.2.2.1.length ∧ ∀ j, j ≤ k → (Zr (Za l) (Qa v.2.2.2.1) (v.2.2.2.1.take j)).length ≤ 3000) (fun k => v.2.2.2.1.length - k) 0 ⟨Nat.zero_le _, Q4x⟩ ?_ (op (by repeat first | exact pn | refine pc 0 rfl ?_)) ?_))))))))))))))
 · exact (e2 25 8 rfl en)
 rintro k ⟨hk, hcaps⟩
 refine sq (rg (oP (Q5 oz oz) rfl (tn (nn (sq (tc oz (fun c26 => ?_) (fun c26 => ?_)))))))
 · refine sk (nn (sq (tb (sq ?_))))
   have hka : k < v.2.2.2.1.length := by simpa using c26
   obtain ⟨a, haa⟩ : ∃ a, at' v.2.2.2.1 (k : Int) = a := ⟨_, rfl⟩
   obtain ⟨rows, hrows⟩ : ∃ rows, Zr (Za l) (Qa v.2.2.2.1) (v.2.2.2.1.take k) = rows := ⟨_, rfl⟩
   have hlies := Qsa hka haa
   obtain ⟨hix1, hix2⟩ := Qsb hka haa
   have hvl := K8 v.2.2.2.1
   have hcap := hcaps k (Nat.le_refl k)
   rw [hrows] at hcap ⊢
   refine rg (oP (Qj oz oz Tryz.underlying23 y03 (by omega) (by omega)) rfl (oP (pL oz y03) rfl (oA (Qz (zA)) pR rfl rfl (fun g7_2 _ => ?_))))
   refine oA (asv oz oz (pA 0 rfl) y03) (pA 0 rfl) rfl rfl (fun _ _ => ?_)
   refine tn (nn (sq ?_))
   rw [haa]
   refine rg (oA (Qz zr) pR rfl rfl (fun g8_0 _ => ?_))
   refine tn (Xg 51 kT (nn (sq (rg (oP (Vc (Ws oz Qbv)) rfl (av rfl rfl (tn (nn (sq (sq (rg (mv rfl rfl (oP (pls oz Tryz.underlying36) rfl (oP (Qm ot) rfl (tn (nn (tb (Qt (σ := Nat × Value) (e8 6 7 10 11 12 23 24 25 rfl (e2 30 31 rfl en)) (fun s => [(32, I64 (s.1 : Int))]) (fun s => [Qb g8_0 36 Q3 s.2, Qh 51 kT s.2 ((rows.take s.1).flatMap (fun r => ext (lkp a.2.1 (Za l)) r (ix (Qa v.2.2.2.1) a.1) (ix (Qa v.2.2.2.1) a.2.2))), Qb g7_2 49 kA a, Qb g0_0 25 kV v]) (fun s => s.1 ≤ rows.length ∧ ((rows.take s.1).flatMap (fun r => ext (lkp a.2.1 (Za l)) r (ix (Qa v.2.2.2.1) a.1) (ix (Qa v.2.2.2.1) a.2.2))).length ≤ 3000) (fun s => rows.length - s.1) (0, Qo) ⟨Nat.zero_le _, by simp⟩ ?_ (op (by repeat first | exact pn | refine pc 0 rfl ?_ | refine pc 1 rfl ?_)) ?_))))))))))))))))))
   · exact (ec 32 rfl en)
   rintro ⟨i, vi⟩ ⟨hi, hin⟩
   dsimp only at hi hin ⊢
   refine sq (rg (oP (Q5 oz oz) rfl (tn (nn (sq (tc oz (fun c33 => ?_) (fun c33 => ?_)))))))
   · refine sk (nn (sq (tb (sq ?_))))
     have hir : i < rows.length := by simpa using c33
     obtain ⟨r, hrr⟩ : ∃ r, at' rows (i : Int) = r := ⟨_, rfl⟩
     have hrl : r.length = _ := Qh1 l (k := k) (al := v.2.2.2.1) (by rw [hrows, ← hrr]; exact at_mem hir)
     have hvlk := K8 (v.2.2.2.1.take k)
     rw [List.length_take] at hvlk
     have hst := Qjl (fun r => ext (lkp a.2.1 (Za l)) r (ix (Qa v.2.2.2.1) a.1) (ix (Qa v.2.2.2.1) a.2.2)) hir
     rw [hrr] at hst
     rw [← hrl] at hlies
     have hl1 := hlies.f1
     have hl2 := hlies.t1
     have hl3 := hlies.t2
     refine rg (oP (Qj oz oz Tryz.underlying36 yko (by omega) (by omega)) rfl (oP (pL oz yko) rfl (av rfl rfl (tn (nn (sq ?_))))))
     rw [hrr]
     apply Xs (m := 14) (ns := [[(7, none)], [(10, none)], [(37, some 1)], [(36, some 0), (38, some 2)], [(14, none)], [(6, none)], [(10, none)], [(42, some 6)], [(41, some 5), (43, some 7)], [(6, none)], [(10, none)], [(46, some 10)], [(45, some 9), (47, some 11)], [(12, none)]]) (by kernel_rfl) (by kernel_rfl) (Ts := [_, _, _, _, _, _, _, _, _, _, _, _, _, _]) rfl
     case hops =>
      exact ⟨rmv rfl, rP (pf (oT rfl) yl2), rP (plb (oT rfl) (mA 2 rfl) la1 ylw), rP (V0 mkS Tryz.underlying168 zPt (oT rfl) (oT rfl)), rmv rfl, rmv rfl, rP (pf (oT rfl) ytp), rP (plb (oT rfl) (mA 2 rfl) la0 ylw), Zc rfl (aC (W2 _ _ (by omega)) yd4 (oc (oT rfl) (oc (oT rfl) oN)) pR) (fun _ _ _ _ h => h), rmv rfl, rP (pf (oT rfl) ypg), rP (plb (oT rfl) (mA 2 rfl) la2 ylw), Zc rfl (aC (W2 _ _ (by omega)) yd4 (oc (oT rfl) (oc (oT rfl) oN)) pR) (fun _ _ _ _ h => h), rmv rfl, trivial⟩
     case h =>
      rw [Qvd, hix1, hix2]
      refine oA (aC (Qth (lkp a.2.1 (Za l)) r (ix (Qa v.2.2.2.1) a.1) (ix (Qa v.2.2.2.1) a.2.2) g8_0 vi ((rows.take i).flatMap (fun r => ext (lkp a.2.1 (Za l)) r (ix (Qa v.2.2.2.1) a.1) (ix (Qa v.2.2.2.1) a.2.2))) hl1 hl2 hl3 (by omega) (by omega) (Qsc l (by omega) a.2.1)) yu4 (oc oz (oc oz (oc oz (oc oz (oc oz oN))))) (Yh 0 0 rfl rfl)) (Yh 0 0 rfl rfl) rfl rfl (fun p hp => ?_)
      refine oP (Zf oz) rfl (tn (nn (tc oz (fun c51 => ?_) (fun c51 => ?_))))
      · have hg : ¬ ((rows.take i).flatMap (fun r => ext (lkp a.2.1 (Za l)) r (ix (Qa v.2.2.2.1) a.1) (ix (Qa v.2.2.2.1) a.2.2))).length + ((fun r => ext (lkp a.2.1 (Za l)) r (ix (Qa v.2.2.2.1) a.1) (ix (Qa v.2.2.2.1) a.2.2)) r).length ≤ 3000 := by simpa [Wm] using c51
        refine sq (rg (ak rfl (ak rfl (tn (nn (tR (Qw (tt (tt (Qw (tt (Qw (tt (tt (Qw (tt ?_))))))))))))))))
        exact Yb .ret (.inl rfl) rfl ([], 5) (OT.conv oz (fun H u h => Jr h)) oz (fun _ _ h => h) (.inr (.inl ⟨hok, Qzs hka haa hrows hir hrr hg, rfl⟩)) (by exact pn)
      have hg : ((rows.take i).flatMap (fun r => ext (lkp a.2.1 (Za l)) r (ix (Qa v.2.2.2.1) a.1) (ix (Qa v.2.2.2.1) a.2.2))).length + ((fun r => ext (lkp a.2.1 (Za l)) r (ix (Qa v.2.2.2.1) a.1) (ix (Qa v.2.2.2.1) a.2.2)) r).length ≤ 3000 := by simpa [Wm] using c51
      refine sk (bn (nn (rg (oP (pad oz ot (by omega)) rfl (mv rfl rfl (tn (nn ?_)))))))
      exact tg (i + 1, p.1) ⟨by show i + 1 ≤ rows.length; omega, by rw [hst, List.length_append]; exact hg⟩ (by show rows.length - (i + 1) < rows.length - i; omega) ef (op (by rw [hst, ← hp hg]; exact (by repeat first | exact pn | refine pc 0 rfl ?_)))
   refine Qx (tx (tx (bh (nn ?_))))
   obtain rfl : i = rows.length := by simp only [decide_eq_false_iff_not] at c33; omega
   rw [List.take_length] at hin ⊢
   have hnx : Zr (Za l) (Qa v.2.2.2.1) (v.2.2.2.1.take (k + 1)) = rows.flatMap (fun r => ext (lkp a.2.1 (Za l)) r (ix (Qa v.2.2.2.1) a.1) (ix (Qa v.2.2.2.1) a.2.2)) := by rw [Qjm hka, haa, hrows]; rfl
   refine rg (oP (X9 oz (mA 0 rfl) y1z) rfl (av rfl rfl (tn (Xh (Qq 1 rfl) 8 oz (bn (nn (rg (oP (pad oz ot (by omega)) rfl (mv rfl rfl (tn (nn ?_)))))))))))
   exact tg (k + 1) ⟨by omega, Qsd hcaps (by rw [hnx]; exact hin)⟩ (by omega) (ea (ec 25 rfl (Qy (t := 8) (OT.eq oz (congrArg (SlT kT) hnx.symm)) en)) ef) (op (by repeat first | exact pn | refine pc 2 rfl ?_))
 refine Qx (tx (tx (bh (nn (sq ?_)))))
 obtain rfl : k = v.2.2.2.1.length := by simp only [decide_eq_false_iff_not] at c26; omega
 have hsm : Small (Zr (Za l) (Qa v.2.2.2.1) v.2.2.2.1) := ⟨by have := hcaps _ (Nat.le_refl _); rw [List.take_length] at this; omega, fun r hr => by have := Qkv l hal8 v.2.2.2.1.length r (by rw [List.take_length]; exact hr); omega⟩
 rw [List.take_length]
 refine rg (mv rfl rfl (oA (Zo (Qdt (K0 := noK) (n0 := 0) _ hsm) J1 y07 (oc oz oN) pR) pR rfl rfl (fun _ _ => ?_)))
 refine av rfl rfl (ak rfl (tn (nn (tR ?_))))
 exact Yb .ret (.inl rfl) rfl (Jm (Zr (Za l) (Qa v.2.2.2.1) v.2.2.2.1), 0) (OT.unfr2 oz) oz (fun _ _ h => h) (.inr (.inr ⟨hok, Qve hcaps, rfl⟩)) (by exact pn)
end Go.Proofs.YtklhdalppmjnaaaGreatDoor
namespace Go.Jn
open Go Go.Gw Go.Tu
abbrev Qh2 (xs : List Tp) : Prop := xs.Pairwise fun x y => X6 x y ≤ 0
def Qc4 (xs : List Tp) : List Int := (dd xs).map fun t => (xs.count t : Int)
theorem Qvf (xs : List Tp) : (Qc4 xs).length = (dd xs).length := by unfold Qc4; rw [List.length_map]
section
variable {xs : List Tp} {k : Nat}
theorem Qql (hs : Qh2 xs) {i j : Nat} (hi : i < j) (hj : j < xs.length) : X6 (at' xs (i : Int)) (at' xs (j : Int)) ≤ 0 := by
 rw [Q1 (show i < xs.length by omega), Q1 hj]
 exact List.pairwise_iff_getElem.1 hs i j (by omega) hj hi
theorem Qvg {a b : Tp} (h1 : X6 a b ≤ 0) (h2 : X6 b a ≤ 0) : a = b := by
 have := Vq a b
 exact U3.1 (by omega)
theorem Qse (hs : Qh2 xs) (k : Nat) : Qh2 (xs.take k) := hs.sublist (List.take_sublist _ _)
theorem Qvh (hs : Qh2 xs) : (dd xs).Nodup := (Qed hs).imp fun {a b} h e => by subst e; rw [We] at h; omega
theorem Qkw (h : k + 1 < xs.length) : at' xs (((k + 1 : Nat) : Int) - 1) = at' xs (k : Int) := by congr 1; omega
theorem Qgt : ∀ {k : Nat}, k < xs.length → dd (xs.take (k + 1)) ≠ [] ∧ at' (dd (xs.take (k + 1))) (((dd (xs.take (k + 1))).length : Int) - 1) = at' xs (k : Int)
 | 0, h => by
  have e : xs.take (0 + 1) = [at' xs ((0 : Nat) : Int)] := by rw [Q1 h, List.take_succ_eq_append_getElem h]; simp
  rw [e, Qkp (by simp)]
  exact ⟨by simp, rfl⟩
 | k + 1, h => by
  obtain ⟨h1, h2⟩ := Qgt (k := k) (by omega)
  have hst := Qee (xs := xs) (m := k + 1) (by omega) h
  rw [Qkw h] at hst
  split at hst
  · rename_i he
    rw [hst]; exact ⟨h1, h2.trans he⟩
  rw [hst]
  refine ⟨by simp, ?_⟩
  rw [List.length_append, List.length_singleton]
  have e : (((dd (xs.take (k + 1))).length + 1 : Nat) : Int) - 1 = ((dd (xs.take (k + 1))).length : Int) := by omega
  rw [e, Q1 (by simp)]
  simp
theorem Qdl {t : Tp} (h : k < xs.length) : (xs.take (k + 1)).count t = (xs.take k).count t + if at' xs (k : Int) = t then 1 else 0 := by
 rw [Q1 h, List.take_succ_eq_append_getElem h, List.count_append]
 congr 1
 rw [List.count_singleton]
 simp
theorem Qzt (hs : Qh2 xs) (h : k < xs.length) (hne : k = 0 ∨ at' xs ((k : Int) - 1) ≠ at' xs (k : Int)) : dd (xs.take (k + 1)) = dd (xs.take k) ++ [at' xs (k : Int)] ∧ Qc4 (xs.take (k + 1)) = Qc4 (xs.take k) ++ [1] := by
 have hno : at' xs (k : Int) ∉ xs.take k := by
  intro hm
  obtain ⟨i, hi, he⟩ := List.getElem_of_mem hm
  rw [List.length_take] at hi
  have hik : i < k := by omega
  have he2 : at' xs (i : Int) = at' xs (k : Int) := by
   rw [List.getElem_take] at he
   rw [Q1 (show i < xs.length by omega)]; exact he
  rcases hne with h0 | h0
  · omega
  have e1 : ((k : Int) - 1) = ((k - 1 : Nat) : Int) := by omega
  rw [e1] at h0
  refine h0 (Qvg (Qql hs (by omega) h) ?_)
  rcases Nat.lt_or_ge i (k - 1) with h1 | h1
  · rw [← he2]; exact Qql hs h1 (by omega)
  have : i = k - 1 := by omega
  subst this
  rw [← he2, We]; exact Int.le_refl _
 have hdd : dd (xs.take (k + 1)) = dd (xs.take k) ++ [at' xs (k : Int)] := by
  rcases Nat.eq_zero_or_pos k with h0 | h0
  · subst h0
    rw [Q1 h, List.take_succ_eq_append_getElem h]
    simp only [List.take_zero, List.nil_append]
    rw [Qkp (by simp)]; rfl
  have hst := Qee (xs := xs) (m := k) h0 h
  rw [if_neg (hne.resolve_left (by omega))] at hst
  exact hst
 refine ⟨hdd, ?_⟩
 unfold Qc4
 rw [hdd, List.map_append]
 have c0 : (xs.take k).count (at' xs (k : Int)) = 0 := List.count_eq_zero.2 hno
 congr 1
 · refine List.map_congr_left fun t ht => ?_
   rw [Qdl h, if_neg (show ¬ at' xs (k : Int) = t from fun e => hno (by rw [e]; exact Qho.1 ht))]; rfl
 simp [Qdl h, c0]
theorem Qh3 (hs : Qh2 xs) (h : k + 1 < xs.length) (he : at' xs (k : Int) = at' xs ((k + 1 : Nat) : Int)) : dd (xs.take (k + 1 + 1)) = dd (xs.take (k + 1)) ∧
 Qc4 (xs.take (k + 1 + 1)) = (Qc4 (xs.take (k + 1))).set ((dd (xs.take (k + 1))).length - 1) (at' (Qc4 (xs.take (k + 1))) (((dd (xs.take (k + 1))).length : Int) - 1) + 1) := by
 have hst := Qee (xs := xs) (m := k + 1) (by omega) h
 rw [Qkw h, if_pos he] at hst
 refine ⟨hst, ?_⟩
 obtain ⟨hn, hl⟩ := Qgt (xs := xs) (k := k) (by omega)
 have hnd := Qvh (Qse hs (k + 1))
 unfold Qc4
 rw [hst]
 generalize hD : dd (xs.take (k + 1)) = D at hn hl hnd
 have hlen : 0 < D.length := by cases D with
  | nil => exact absurd rfl hn
  | cons a l => simp
 have hi : ((D.length : Int) - 1) = ((D.length - 1 : Nat) : Int) := by omega
 rw [hi] at hl ⊢
 have hlt : D.length - 1 < D.length := by omega
 rw [Q1 hlt] at hl
 rw [Q1 (by rw [List.length_map]; exact hlt), List.getElem_map]
 apply List.ext_getElem
 · simp
 intro i h1 h2
 rw [List.length_map] at h1
 rw [List.getElem_map, Qdl h, List.getElem_set]
 by_cases hii : D.length - 1 = i
 · subst hii
   rw [if_pos rfl, if_pos (by rw [← he, hl])]
   omega
 rw [if_neg hii, if_neg, List.getElem_map]
 · simp
 intro e
 rw [← he, ← hl] at e
 exact hii ((List.getElem_inj hnd).1 e)
end
theorem Qvi {all rs : List Tp} (hp : rs.Perm all) (hs : Qh2 rs) : dd rs = Jm all ∧ Qc4 rs = Qej all := by
 have h1 := Quw hp hs
 refine ⟨h1, ?_⟩
 unfold Qc4 Qej
 rw [h1]
 exact List.map_congr_left fun t _ => by rw [hp.count_eq]
theorem Qsf (l : List Tp) : Jm (Jm l) = Jm l := (Qbw (Xj l).1 fun x => Iff.rfl).symm
end Go.Jn
namespace Go.Jn
open Go Go.Gw Go.Tu
theorem Qzu {v : Vw} {l : List Ed} {r : List Tp × Int} (h : Qkq v l r) (h0 : r.2 ≠ 0) : Qdj v l ([], [], r.2) := by
 rcases h with ⟨h1, rfl⟩ | ⟨h1, h2, rfl⟩ | ⟨h1, h2, rfl⟩
 · exact .inl ⟨h1, rfl⟩
 · exact .inr (.inl ⟨h1, h2, rfl⟩)
 exact absurd rfl h0
theorem Qzv {v : Vw} {l : List Ed} {r : List Tp × Int} (h : Qkq v l r) (h0 : r.2 = 0) : okV v = true ∧ ¬ Kw l v.2.2.2.1 ∧ r.1 = Jm (Zr (Za l) (Qa v.2.2.2.1) v.2.2.2.1) := by
 rcases h with ⟨h1, rfl⟩ | ⟨h1, h2, rfl⟩ | ⟨h1, h2, rfl⟩
 · cases h0
 · cases h0
 exact ⟨h1, h2, rfl⟩
theorem Qoz {v : Vw} {l : List Ed} {rows : List Tp} (hok : okV v = true) (hn : ¬ Kw l v.2.2.2.1) (hr : rows = Jm (Zr (Za l) (Qa v.2.2.2.1) v.2.2.2.1)) :
 rows.length ≤ 3000 ∧ (∀ r ∈ rows, r.length = (Qa v.2.2.2.1).length) ∧ v.2.2.1.length ≤ 6 ∧ (Qa v.2.2.2.1).length ≤ 16 ∧ ∀ o ∈ v.2.2.1, o ∈ Qa v.2.2.2.1 := by
 obtain ⟨_, h1, h2, h3⟩ := Qku (v := v) (by rw [hok]; rfl)
 have hvl := K8 v.2.2.2.1
 refine ⟨?_, fun r hrm => ?_, h1, by omega, fun o ho => ?_⟩
 · have h4 : ¬ 3000 < (Zr (Za l) (Qa v.2.2.2.1) (v.2.2.2.1.take v.2.2.2.1.length)).length := fun e => hn ⟨_, Nat.le_refl _, e⟩
   rw [List.take_length] at h4
   have := Uf (Zr (Za l) (Qa v.2.2.2.1) v.2.2.2.1)
   rw [hr]; omega
 · rw [hr] at hrm
   have := ((Xj _).2 r).1 hrm
   have h5 := Qh1 l (al := v.2.2.2.1) (k := v.2.2.2.1.length) (r := r) (by rw [List.take_length]; exact this)
   rwa [List.take_length] at h5
 have h6 := hok
 unfold okV Qhy at h6
 simp only [Bool.and_eq_true, List.all_eq_true] at h6
 simpa using h6.2.1 o ho
theorem Qsg (xs : List Tp) (i : Int) : 0 ≤ at' (Qc4 xs) i ∧ at' (Qc4 xs) i ≤ xs.length := by
 unfold at'
 rw [List.getD_eq_getElem?_getD]
 cases e : (Qc4 xs)[i.toNat]? with
 | none => exact ⟨Int.le_refl _, Int.natCast_nonneg _⟩
 | some x =>
  unfold Qc4 at e
  rw [List.getElem?_map] at e
  cases e2 : (dd xs)[i.toNat]? with
  | none => rw [e2] at e; cases e
  | some t =>
   rw [e2] at e
   cases e
   have := List.count_le_length (a := t) (l := xs)
   simp only [Option.getD_some]; omega
theorem Qzw {rs : List Tp} {k : Nat} {t : Tp} (h : k < rs.length) (ht : at' rs (k : Int) = t) (hc : (decide ((0 : Int) < (dd (rs.take k)).length) && decide (X6 (at' (dd (rs.take k)) (((dd (rs.take k)).length : Int) - 1)) t = 0)) = true) : ∃ k', k = k' + 1 ∧ at' rs (k' : Int) = at' rs ((k' + 1 : Nat) : Int) := by
 simp only [Bool.and_eq_true, decide_eq_true_eq] at hc
 match k, h, ht, hc with
 | 0, h, ht, hc => simp [dd] at hc
 | k' + 1, h, ht, hc => exact ⟨k', rfl, (Qgt (by omega)).2.symm.trans ((U3.1 hc.2).trans ht.symm)⟩
theorem Q25 {rs : List Tp} {k : Nat} {t : Tp} (h : k < rs.length) (ht : at' rs (k : Int) = t) (hc : (decide ((0 : Int) < (dd (rs.take k)).length) && decide (X6 (at' (dd (rs.take k)) (((dd (rs.take k)).length : Int) - 1)) t = 0)) = false) : k = 0 ∨ at' rs ((k : Int) - 1) ≠ at' rs (k : Int) := by
 match k, h, ht, hc with
 | 0, _, _, _ => exact .inl rfl
 | k' + 1, h, ht, hc =>
  right
  rw [Qkw h]
  intro e
  obtain ⟨h1, h2⟩ := Qgt (xs := rs) (k := k') (by omega)
  have h3 : 0 < (dd (rs.take (k' + 1))).length := by cases hd : dd (rs.take (k' + 1)) with
   | nil => exact absurd hd h1
   | cons a l => simp
  have h4 : X6 (at' (dd (rs.take (k' + 1))) (((dd (rs.take (k' + 1))).length : Int) - 1)) t = 0 := U3.2 (h2.trans (e.trans ht))
  have h5 : decide ((0 : Int) < (dd (rs.take (k' + 1))).length) = true := decide_eq_true (by omega)
  rw [h4, h5] at hc
  exact absurd hc (by decide)
end Go.Jn
namespace Go.Proofs.YtklhdalppmjnaaaGreatDoor
open Go Go.Gw Go.So Go.Tu Go.Jn
/-- slices.Clip[[]int,int] -/
theorem Qxy (xs : List Int) : Ct Tryz.prog 64 [Yz noK 0 kI xs] ([]) Unit (fun _ => SlT kI xs) (fun _ => []) (fun _ => True) := by
 refine Qn Tryz.func64 rfl rfl ?_
 intro H w
 refine sq (rg (ak rfl (tn (nn (sq (rg (mv rfl rfl (mv rfl rfl (Zt 4 (OT.fresh oz) (oP (pls oz Tryz.underlying50) rfl (mv rfl rfl (Zt 6 (OT.fresh oz) (oP (pls oz Tryz.underlying50) rfl (oP (Qd5 oz oz oz Tryz.underlying50 ynm) rfl (av rfl rfl (tn (nn (tR ?_))))))))))))))))))
 exact Qi .ret (.inl rfl) rfl () (OT.fresh (OT.unclip oz)) trivial (by exact pn)
/-- rhizome/join.Result -/
theorem Qj6 (v : Vw) (l : List Ed) (ho : v.2.2.1.length ≤ maxLen) (ha : v.2.2.2.1.length ≤ maxLen) (hm : l.length ≤ 1000000) : Ct Tryz.prog 36 [kV.T v, SlT kE l] ([]) (List Tp × List Int × Int) (fun r => Y1 [SlT kT r.1, SlT kI r.2.1, I64 r.2.2]) (fun _ => []) (fun r => Qdj v l r) := by
 refine Qn Tryz.func36 rfl rfl ?_
 intro H w
 have ho0 := ho; have ha0 := ha; unfold maxLen at ho ha
 refine sq (rg (oA (Xf (d := kV) oz) pR rfl rfl (fun g0_0 _ => ?_)))
 refine ak rfl (ak rfl (ak rfl (tn (nn (sq (rg (oP (plv oz (mA 0 rfl) y4q) rfl (mv rfl rfl (oA (aC (Q1h _ _ ho0 ha0 (by omega)) y5r (oc oz (oc oz oN)) pR) pR rfl rfl (fun r1_2 hr1_2 => ?_))))))))))
 refine mv rfl rfl (oP (Qd oz rfl) rfl (oP (Qd oz rfl) rfl (av rfl rfl (av rfl rfl (tn (nn (sq (sq (rg (mv rfl rfl (oP (Yj oz ot) rfl (tn (nn (tc oz (fun c28 => ?_) (fun c28 => ?_)))))))))))))))
 · refine sq (rg (mv rfl rfl (ak rfl (ak rfl (av rfl rfl (tn (nn (tR (tt ?_)))))))))
   exact Qfe .ret (.inl rfl) rfl ([], [], r1_2.2) (OT.conv oz (fun H u h => Jr h)) (OT.conv oz (fun H u h => Jr h)) oz (fun _ _ h => h) (Qzu hr1_2 (by simpa using c28)) (by exact pn)
 obtain ⟨hok, hnm, hr1⟩ := Qzv hr1_2 (by simpa using c28)
 obtain ⟨rows, hrw⟩ : ∃ x, r1_2.1 = x := ⟨_, rfl⟩
 rw [hrw] at hr1
 obtain ⟨hrn, hrl, hol, hvl, hout⟩ := Qoz hok hnm hr1
 have hal8 := (Qku (v := v) (by rw [hok]; rfl)).2.2.2
 refine sk (nn (sq ?_))
 rw [hrw]
 refine rg (oP (plv (oT rfl) (mA 0 rfl) y4q) rfl (oA (aC (Qbb _ (by omega)) yew (oc (oT rfl) oN) pR) pR rfl rfl (fun _ _ => ?_)))
 refine av rfl rfl (tn (nn (sq (rg (ak rfl (tn (nn (sq (sq (Xg 51 kT (rg (mv rfl rfl (oP (pls oz Tryz.underlying36) rfl (oP (Qm ot) rfl (tn (nn (tb (Qt (σ := Nat × Value) (e4 2 9 32 33 rfl en) (fun s => [(34, I64 (s.1 : Int)), (10, IsV s.2)]) (fun s => [Qh 51 kT s.2 ((rows.take s.1).map (proj (Qa v.2.2.2.1) v.2.2.1)), Qb g0_0 25 kV v]) (fun s => s.1 ≤ rows.length) (fun s => rows.length - s.1) (0, Qo) (Nat.zero_le _) ?_ (op (by repeat first | exact pn | refine pc 0 rfl ?_)) ?_))))))))))))))))))
 · exact (e2 34 10 rfl en)
 rintro ⟨i, va⟩ hi
 dsimp only at hi ⊢
 refine sq (rg (oP (Q5 oz oz) rfl (tn (nn (sq (tc oz (fun c35 => ?_) (fun c35 => ?_)))))))
 · refine sk (nn (sq (tb (sq ?_))))
   have hir : i < rows.length := by simpa using c35
   obtain ⟨row, hrow⟩ : ∃ r, at' rows (i : Int) = r := ⟨_, rfl⟩
   have hrwl := hrl row (by rw [← hrow]; exact at_mem hir)
   have hst2 := Qah (proj (Qa v.2.2.2.1) v.2.2.1) hir
   rw [hrow] at hst2
   refine rg (oP (Qj oz oz Tryz.underlying36 yko (by omega) (by omega)) rfl (oP (pL oz yko) rfl (av rfl rfl (tn (nn (sq ?_))))))
   rw [hrow]
   refine rg (ak rfl (tn (nn (sq (sq (Xg 3 kI (rg (oP (pf oz yss) rfl (oP (plb oz (mA 2 rfl) lv2 ye4) rfl (oP (pls oz Tryz.underlying22) rfl (oP (Qm ot) rfl (tn (nn (tb (Qt (σ := Nat × Value) (e8 2 9 10 12 32 33 34 39 rfl (ec 40 rfl en)) (fun s => [(41, I64 (s.1 : Int)), (13, IsV s.2)]) (fun s => [Qh 3 kI s.2 ((v.2.2.1.take s.1).map (fun o => env (Qa v.2.2.2.1) row o)), Qh 51 kT va ((rows.take i).map (proj (Qa v.2.2.2.1) v.2.2.1)), Qb g0_0 25 kV v]) (fun s => s.1 ≤ v.2.2.1.length) (fun s => v.2.2.1.length - s.1) (0, Qo) (Nat.zero_le _) ?_ (op (by repeat first | exact pn | refine pc 0 rfl ?_)) ?_)))))))))))))))
   · exact (e2 41 13 rfl en)
   rintro ⟨j, vt⟩ hj
   dsimp only at hj ⊢
   refine sq (rg (oP (Q5 oz oz) rfl (tn (nn (sq (tc oz (fun c42 => ?_) (fun c42 => ?_)))))))
   · refine sk (nn (sq (tb (sq ?_))))
     have hjo : j < v.2.2.1.length := by simpa using c42
     obtain ⟨o, hoo⟩ : ∃ o, at' v.2.2.1 (j : Int) = o := ⟨_, rfl⟩
     have hoV := hout o (by rw [← hoo]; exact at_mem hjo)
     have hix := Qdk hoV
     have hixl := Qqf hoV
     have hst := Qah (fun o => env (Qa v.2.2.2.1) row o) hjo
     rw [hoo] at hst
     refine rg (oP (Qj oz oz Tryz.underlying22 ylw (by omega) (by omega)) rfl (oP (pL oz ylw) rfl (av rfl rfl (tn (nn ?_)))))
     rw [hoo]
     refine rg (mv rfl rfl (mv rfl rfl (mv rfl rfl (mv rfl rfl (oA (aC (W2 _ _ (by omega)) yd4 (oc (oT rfl) (oc (oT rfl) oN)) pR) pR rfl rfl (fun _ _ => ?_))))))
     refine oP (Qj oz oz Tryz.underlying51 ynm (by omega) (by omega)) rfl ?_
     rw [hix]
     refine oP (pL oz ynm) rfl (oA (Q7 (d := kI) (v0 := 0) ye1 ynm zI (show 1 * 1 ≤ 16777216 from by decide) (by decide) (Qv rfl rfl (by decide) oz Qc)) pR rfl rfl (fun _ _ => ?_))
     refine oA (Q0 oz (pA 0 rfl) oz ye1 (by (simp; omega)) (by (simp; omega))) (pA 0 rfl) rfl rfl (fun v13_8 _ => ?_)
     refine av rfl rfl (tn (bn (nn (rg (oP (pad oz ot (by omega)) rfl (mv rfl rfl (tn (nn ?_))))))))
     exact tg (j + 1, v13_8) (by show j + 1 ≤ _; omega) (by show v.2.2.1.length - (j + 1) < v.2.2.1.length - j; omega) ef (op (by rw [hst]; exact (by repeat first | exact pn | refine pc 0 rfl ?_)))
   refine Qx (tx (tx (bh (nn ?_))))
   obtain rfl : j = v.2.2.1.length := by simp only [decide_eq_false_iff_not] at c42; omega
   rw [List.take_length]
   refine rg (mv rfl rfl (mv rfl rfl (Xh (pA 0 rfl) 56 oz (oA (Q7 (d := kT) (v0 := []) yiy yko zT (show 1 * 1 ≤ 16777216 from by decide) (by decide) (Qv rfl rfl (by decide) oz Qc)) pR rfl rfl (fun _ _ => ?_)))))
   refine oA (Q0 oz (pA 0 rfl) oz yiy (by (simp; omega)) (by (simp [maxLen]; omega))) (pA 0 rfl) rfl rfl (fun v15_3 _ => ?_)
   refine av rfl rfl (tn (bn (nn (rg (oP (pad oz ot (by omega)) rfl (mv rfl rfl (tn (nn ?_))))))))
   exact tg (i + 1, v15_3) (by show i + 1 ≤ rows.length; omega) (by show rows.length - (i + 1) < rows.length - i; omega) ef (op (by rw [hst2]; exact (by repeat first | exact pn | refine pc 0 rfl ?_)))
 refine Qx (tx (tx (bh (nn (sq ?_)))))
 obtain rfl : i = rows.length := by simp only [decide_eq_false_iff_not] at c35; omega
 rw [List.take_length]
 obtain ⟨all, hall⟩ : ∃ a, rows.map (proj (Qa v.2.2.2.1) v.2.2.1) = a := ⟨_, rfl⟩
 rw [hall]
 have hallen : all.length ≤ 1000000 := by rw [← hall, List.length_map]; omega
 refine rg (mv rfl rfl (oA (aC (Qxw _ _ hallen) yfb (oc oz (oc OT.func oN)) (pA 0 rfl)) (pA 0 rfl) rfl rfl (fun rs hrs => ?_)))
 refine tn (nn (sq ?_))
 have hrsl : rs.length ≤ 1000000 := by rw [hrs.1.length_eq]; exact hallen
 refine Xh (pA 0 rfl) 10 oz (rg (ak rfl (tn (nn (sq (rg (ak rfl (tn (nn (sq (sq (Xg 3 kI (Xg 51 kT ?_)))))))))))))
 refine rg (mv rfl rfl (oP (pls oz Tryz.underlying36) rfl (oP (Qm ot) rfl (tn (nn (tb (Qt (σ := Nat × Value × Value) (e2 62 63 rfl en) (fun s => [(64, I64 (s.1 : Int)), (16, IsV s.2.1), (17, IsV s.2.2)]) (fun s => [Qh 51 kT s.2.1 (dd (rs.take s.1)), Qh 3 kI s.2.2 (Qc4 (rs.take s.1)), Qb g0_0 25 kV v]) (fun s => s.1 ≤ rs.length) (fun s => rs.length - s.1) (0, Qo, Qo) (Nat.zero_le _) ?_ (op (by repeat first | exact pn | refine pc 0 rfl ?_)) ?_)))))))
 · exact (e2 64 16 rfl (ec 17 rfl en))
 rintro ⟨k, vo, vc⟩ hk
 dsimp only at hk ⊢
 refine sq (rg (oP (Q5 oz oz) rfl (tn (nn (sq (tc oz (fun c65 => ?_) (fun c65 => ?_)))))))
 · refine sk (nn (sq (tb (sq ?_))))
   have hkr : k < rs.length := by simpa using c65
   obtain ⟨t, ht⟩ : ∃ t, at' rs (k : Int) = t := ⟨_, rfl⟩
   have hdl := Qux (rs.take k)
   rw [List.length_take] at hdl
   have hcl := Qvf (rs.take k)
   have hcb := Qsg (rs.take k) (((dd (rs.take k)).length : Int) - 1)
   rw [List.length_take] at hcb
   refine rg (oP (Qj oz oz Tryz.underlying36 yko (by omega) (by omega)) rfl (oP (pL oz yko) rfl (av rfl rfl (tn (nn (sq (sq ?_)))))))
   rw [ht]
   refine rg (mv rfl rfl (oP (Xr oz (mA 0 rfl) Tryz.underlying36) rfl (av rfl rfl (tn (nn (sq (rg (mv rfl rfl (oP (Y3 oz ot) rfl (mv rfl rfl (oG rfl rfl rfl (gm oz) (fun hg => by (have hg1 := hg.2; (try simp only [cq2] at hg1); exact Qm oz)) rfl ?_)))))))))))
   refine oG rfl rfl rfl (gm oz) (fun hg => by (have hg1 := hg.2; (try simp only [cq2] at hg1); exact Qm oz)) rfl ?_
   refine oG rfl rfl rfl (gm oz) (fun hg => by (have hg1 := hg.2; (try simp only [cq2] at hg1); exact Kb (gu oz hg) ot (by omega))) rfl ?_
   refine oG rfl rfl rfl (gm oz) (fun hg => by (have hg1 := hg.2; (try simp only [cq2] at hg1); exact pio (gu oz hg) (mA 0 rfl) (gu oz hg) Tryz.underlying36 yko (by omega) (by omega))) rfl ?_
   refine oG rfl rfl rfl (gm oz) (fun hg => by (have hg1 := hg.2; (try simp only [cq2] at hg1); exact plo (gu oz hg) (mA 0 rfl) (by omega) (by omega) yko)) rfl ?_
   refine oG rfl rfl rfl (gm oz) (fun hg => by (have hg1 := hg.2; (try simp only [cq2] at hg1); exact Qm oz)) rfl ?_
   refine Zw () rfl rfl rfl (gm oz) (fun hg => by (have hg1 := hg.2; (try simp only [cq2] at hg1); exact aC (Qg2 _ _) yuu (oc (gu oz hg) (oc (gu oz hg) oN)) pR)) rfl (fun _ _ => ?_)
   refine oG rfl rfl rfl (gm oz) (fun hg => by (have hg1 := hg.2; (try simp only [cq2] at hg1); exact Zs (gu oz hg) ot)) rfl ?_
   refine oP (Q2 oz oz) rfl (tn (nn (tc oz (fun c81 => ?_) (fun c81 => ?_))))
   · obtain ⟨k', rfl, hkk⟩ := Qzw hkr ht c81
     have hst := Qh3 hrs.2 hkr hkk
     simp only [Bool.and_eq_true, decide_eq_true_eq] at c81
     have hn1 : (((dd (rs.take (k' + 1))).length : Int) - 1).toNat = (dd (rs.take (k' + 1))).length - 1 := by omega
     refine sq (rg (mv rfl rfl (mv rfl rfl (oP (Kb oz ot (by omega)) rfl (oP (pio oz (mA 1 rfl) oz Tryz.underlying50 ynm (by omega) (by omega)) rfl (oP (plo oz (mA 1 rfl) (by omega) (by omega) ynm) rfl (oP (pad oz ot (by omega)) rfl (oP (pio oz (mA 1 rfl) oz Tryz.underlying50 ynm (by omega) (by omega)) rfl (oA (Kv oz oz (pA 1 rfl) (by omega) (by omega) ynm) (pA 1 rfl) rfl rfl (fun _ _ => ?_))))))))))
     refine tn (nn (Qx (tx (bh (nn (rg (oP (pad oz ot (by omega)) rfl (mv rfl rfl (tn (nn ?_))))))))))
     exact tg (k' + 1 + 1, vo, vc) (by show k' + 1 + 1 ≤ rs.length; omega) (by show rs.length - (k' + 1 + 1) < rs.length - (k' + 1); omega) ef (op (by rw [hst.1, hst.2, ← hn1]; exact (by repeat first | exact pn | refine pc 0 rfl ?_ | refine pc 1 rfl ?_)))
   have hst := Qzt hrs.2 hkr (Q25 hkr ht c81)
   rw [ht] at hst
   refine sk (nn (rg (mv rfl rfl (mv rfl rfl (oA (Q7 (d := kT) (v0 := []) yiy yko zT (show 1 * 1 ≤ 16777216 from by decide) (by decide) (Qv rfl rfl (by decide) oz Qc)) pR rfl rfl (fun _ _ => ?_))))))
   refine oA (Q0 oz (pA 0 rfl) oz yiy (by (simp; omega)) (by (simp [maxLen]; omega))) (pA 0 rfl) rfl rfl (fun v26_3 _ => ?_)
   refine mv rfl rfl (oA (Q7 (d := kI) (v0 := 0) y9t ynm zI (show 1 * 1 ≤ 16777216 from by decide) (by decide) (Qv rfl rfl (by decide) ot Qc)) pR rfl rfl (fun _ _ => ?_))
   refine oA (Q0 oz (pA 1 rfl) oz y9t (by (simp; omega)) (by (simp [maxLen]; omega))) (pA 1 rfl) rfl rfl (fun v26_6 _ => ?_)
   refine av rfl rfl (av rfl rfl (tn (bn (nn (rg (oP (pad oz ot (by omega)) rfl (mv rfl rfl (tn (nn ?_)))))))))
   exact tg (k + 1, v26_3, v26_6) (by show k + 1 ≤ rs.length; omega) (by show rs.length - (k + 1) < rs.length - k; omega) ef (op (by rw [hst.1, hst.2]; exact (by repeat first | exact pn | refine pc 0 rfl ?_ | refine pc 1 rfl ?_)))
 refine Qx (tx (tx (bh (nn (sq ?_)))))
 obtain rfl : k = rs.length := by simp only [decide_eq_false_iff_not] at c65; omega
 obtain ⟨hD, hC⟩ := Qvi hrs.1 hrs.2
 rw [List.take_length, hD, hC]
 have hsma : Small all := ⟨hallen, fun x hx => by
  rw [← hall] at hx
  obtain ⟨r, _, rfl⟩ := List.mem_map.1 hx
  unfold proj; rw [List.length_map]; omega⟩
 have hsm := hsma.setR
 refine rg (mv rfl rfl (Xh (pA 0 rfl) 97 oz (oA (Zo (Qdt (K0 := noK) (n0 := 0) _ hsm) J1 y07 (oc oz oN) pR) pR rfl rfl (fun _ _ => ?_))))
 refine mv rfl rfl (Kx J1 (fun g => Ua) (pA 0 rfl) 99 oz (oA (aC (Qxy _) yhb (oc oz oN) pR) pR rfl rfl (fun _ _ => ?_)))
 refine av rfl rfl (av rfl rfl (ak rfl (tn (nn (tR ?_)))))
 exact Qfe .ret (.inl rfl) rfl (Jm all, Qej all, 0) (OT.eq (OT.unfr2 oz) (congrArg (SlT kT) (Qsf all))) oz oz (fun _ _ h => h) (.inr (.inr ⟨hok, hnm, by unfold Vg; rw [← hr1, hall]⟩)) (by exact pn)
end Go.Proofs.YtklhdalppmjnaaaGreatDoor
namespace Go.Jn
open Go Go.Gw Go.Tu
abbrev ats (v : Vw) : List Atm := v.2.2.2.1
abbrev outs (v : Vw) : List Lab := v.2.2.1
theorem Qh4 {α : Type} [DecidableEq α] {l m : List α} (h1 : l.Nodup) (h2 : m.Nodup) (h : ∀ x, x ∈ l ↔ x ∈ m) : l.Perm m := (List.perm_ext_iff_of_nodup h1 h2).2 h
theorem Qcq {α β : Type} {f : α → β} {l : List α} (hl : l.Nodup) (hf : ∀ a ∈ l, ∀ b ∈ l, f a = f b → a = b) : (l.map f).Nodup := by
 induction l with
 | nil => exact List.nodup_nil
 | cons a l ih =>
  obtain ⟨h1, h2⟩ := List.nodup_cons.1 hl
  rw [List.map_cons]
  refine List.nodup_cons.2 ⟨fun h => ?_, ih h2 fun x hx y hy => hf x (List.mem_cons_of_mem _ hx) y (List.mem_cons_of_mem _ hy)⟩
  obtain ⟨b, hb, e⟩ := List.mem_map.1 h
  have := hf b (List.mem_cons_of_mem _ hb) a List.mem_cons_self e
  subst this; exact h1 hb
section
variable {v w : Vw} {l l' : List Ed}
end
theorem Qcr {α : Type} [DecidableEq α] {l m : List α} (h1 : l.Nodup) (h : ∀ x ∈ l, x ∈ m) (h2 : m.Nodup) : l.length ≤ m.length := by
 have hp : l.Perm (m.filter fun x => decide (x ∈ l)) := Qh4 h1 (h2.sublist List.filter_sublist) fun x => by
  rw [List.mem_filter]; simp only [decide_eq_true_eq]; exact ⟨fun hx => ⟨h x hx, hx⟩, fun hx => hx.2⟩
 rw [hp.length_eq]; exact List.length_filter_le _ _
section
variable {v : Vw} {l : List Ed} {m : Ed}
end
end Go.Jn
namespace Go.Jn
open Go Go.Gw Go.Tu
def Q4y (b : UInt8) : UInt8 := UInt8.ofNat (97 + (b.toNat - 97 + 13) % 26)
def Q2f : Lab → Lab
 | [] => []
 | b :: t => Q4y b :: t
def tA (a : Atm) : Atm := (Q2f a.1, a.2.1, Q2f a.2.2)
section
variable {v w : Vw} {l : List Ed}
structure Q55 (v w : Vw) : Prop where
 nm : w.1 = v.1
 kd : w.2.1 = v.2.1
 out : outs w = outs v
 lb : w.2.2.2.2 = v.2.2.2.2
 at_ : ats w = ats v ++ (ats v).map tA
 few : (ats v).length ≤ 3
 ok : okV v = true
 no : ∀ x ∈ (ats v).map tA, ∀ y ∈ ats v, x.1 ≠ y.1 ∧ x.1 ≠ y.2.2 ∧ x.2.2 ≠ y.1 ∧ x.2.2 ≠ y.2.2
theorem Qb3 {α β : Type} (f : α → List β) (n : Nat) : ∀ (l : List α), (∀ x ∈ l, (f x).length = n) → (l.flatMap f).length = l.length * n
 | [], _ => by simp
 | a :: l, h => by
  rw [List.flatMap_cons, List.length_append, h a List.mem_cons_self, Qb3 f n l fun x hx => h x (List.mem_cons_of_mem _ hx), List.length_cons, Nat.succ_mul, Nat.add_comm]
end
end Go.Jn
namespace Go.Jn
open Go Go.Gw Go.Tu
end Go.Jn
namespace Go.Jn
open Go Go.Gw Go.Tu
def Qqm (v : Vw) (l : List Ed) : Bool := decide ((l.length : Int) ≤ 25) && decide ((v.2.2.2.1.length : Int) ≤ 12) && decide ((v.2.2.1.length : Int) ≤ 12)
end Go.Jn
namespace Go.Gw
open Go Go.ChangeShapes Go.WideShapes Go.RowKit
theorem Qvj {H : Type} {enc : TypeId × Value → H} {a : Assume} {C : Checked} {os : Os} {f : FuncId} {fn : Func} {s : ChangeSpec} {conds : List PathCond} {apart fresh handsOn again : Bool} {X : World → Array Value → Prop}
 (hX : ∀ (w w' : World) (args : Array Value), w.heap = w'.heap → X w args → X w' args)
 (own : ownKnob C.prog.godebug = none) (started : os.Started) (noInit : C.prog.inits.idxOf? f = none) (hfn : C.prog.funcs[f]? = some fn)
 (witness : ∃ (w : World) (tape : Tape) (i : Input), w.os = os ∧ (w.forCall tape i).Shaped C.prog ∧ i.vars = [] ∧ Input.okWide C.prog (w.forCall tape i) .any w.heap.size f i ∧
  ((s.pre enc C.prog fn conds apart (w.forCall tape i).memory i.args ∧ X (w.forCall tape i).memory i.args) ∧ sizedMet enc C.prog fn (OpenSpec.ofChange s) apart (w.forCall tape i).memory i.args) ∧ a.holds C.prog (lone (Frame.enter C.prog f i.args .normal) [] (w.forCall tape i)))
 (contract : ∀ (W : World) (base : Nat) (args : Array Value) (ds gs : List (DataW H)) (before : List MemPlace), W.ShapedOpen C.prog →
  (∀ (j : Nat) t v, fn.params[j]? = some t → args[j]? = some v → Value.okWide C.prog W .any base t v) →
  DataW.Whole enc C.prog fn.params.toList s.vars apart W args.toList ds gs before →
  conds.all (PathCond.test C.prog ⟨fn.params.toList, ds, s.plain.varTypes C.prog, gs⟩) = true →
  (DataW.weightsEach C.prog (fn.params.toList ++ s.plain.varTypes C.prog) (ds ++ gs)).all (· ≤ reachBytes) = true → X W args →
  Calls C.prog f args W fun e W' => ∃ v, e = .returned v ∧ s.post enc C.prog fn apart fresh handsOn again W args v W') :
 ReturnsInHanded a C os f .any (fun w args => (s.pre enc C.prog fn conds apart w args ∧ X w args) ∧ sizedMet enc C.prog fn (OpenSpec.ofChange s) apart w args) (s.post enc C.prog fn apart fresh handsOn again) := by
 refine returnsInHanded_of_calls own started noInit witness ?_
 intro w tape i _ hsh _ hok hpre _
 obtain ⟨_, _, _, fn', hfn', _, _, _, _, hval⟩ := hok
 have e : fn' = fn := Option.some.inj (hfn'.symm.trans hfn)
 subst e
 obtain ⟨⟨⟨ds, gs, before, hw, hc⟩, hx⟩, hz⟩ := hpre
 have hw' := DataW.Whole.of_heap (w' := w.forCall tape i) (by rfl) hw
 refine (contract (w.forCall tape i) w.heap.size i.args ds gs before hsh hval hw' hc (hz.weights hw) (hX _ _ _ (by rfl) hx)).mono fun e W' ⟨v, he, hp⟩ => ?_
 subst he
 exact ChangeSpec.post_blind hp
theorem Q5m {P : Program} {f : FuncId} {As : List Ty} {b : Bool} (W : World) (h : CtM (U2 W) 0 P f As [] Unit (fun _ => IsV (.bool b)) (fun _ => []) (fun _ => True)) {args : List Value} (ha : Kc (U2 W) As args) :
 Calls P f args.toArray W fun e W' => e = .returned (.bool b) ∧ Below W.heap.size W W' := by
 refine (h (U2 W) W args (Sub.refl _) (Nat.zero_le _) (Qrq W) ha ⟨fun _ h => by simp at h, by simp [X8], fun g hg => by simp [X8] at hg⟩).mono fun e W' hp => ?_
 obtain ⟨r, v, H', he, _, s, hv, _⟩ := hp
 have hv' : v = .bool b := hv
 subst hv'
 exact ⟨he, s.os, s.tape, s.output, s.size, fun k hk => s.keep k hk (by simp [X8])⟩
def Qfp {α : Type} (P : Program) (t : TypeId) (d : Kd α) (good : α → Prop) : Prop :=
 ∀ (Hh : Type) (enc : TypeId × Value → Hh) (w : World) (fuel : Nat) (cs : List Value) (x : DataW Hh × List MemPlace), DataW.trod enc P w 0 (fun _ => true) true fuel t cs = some x → (∀ n ∈ x.1.weights P t, n ≤ reachBytes) → ∃ v, d.K (U2 w) v cs ∧ good v
theorem Opn.w {α : Type} {P : Program} {t : TypeId} {d : Kd α} {good : α → Prop} (h : Opn P t d good) : Qfp P t d good := fun Hh enc w fuel cs x hx _ => h Hh enc w fuel cs x hx
theorem Q5n {P : Program} {t : TypeId} (ht : P.underlying t = some .string) : Qfp P t kS (fun l => l.length ≤ reachBytes) := fun Hh enc w fuel cs x h hw => by
 obtain ⟨n, rfl, hx, hs⟩ := DataW.trod_string ht h
 refine ⟨n.data.toList, ?_, ?_⟩
 · show _ = [Value.string (bs n.data.toList)]
   rw [Q2d]
 subst hx
 exact hw _ (by simp [DataW.weights])
end Go.Gw
namespace Go.Gw
open Go
def Qkx (l : List Oper) (ps : List Nat) (i : Nat) (c : List Bool) : Bool := (ps.zip c).all fun x => cond x.2 (!((X0 l []).getD x.1 0).testBit i && !(Nat.beq i x.1) && (ps.zip c).all fun y => y.2 || !((X0 l []).getD x.1 0).testBit y.1) (!((X0 l []).getD i 0).testBit x.1)
def Qh5 : Nat → List (List Bool)
 | 0 => [[]]
 | n + 1 => (Qh5 n).flatMap fun c => [false :: c, true :: c]
def Qvk (l : List Oper) (ps : List Nat) (i : Nat) : List (List Bool) := (Qh5 ps.length).filter (Qkx l ps i)
def Qvl (ps : List Nat) (i : Nat) (c : List Bool) : List Bool := List.zipWith (fun p x => x || Nat.beq i p) ps c
def Q26 (P : List Bool → Prop) : List (List Bool) → Prop
 | [] => True
 | c :: cs => P c ∧ Q26 P cs
def Q27 (P : Nat → Prop) : List Nat → Prop
 | [] => True
 | c :: cs => P c ∧ Q27 P cs
theorem Qmg {P : Nat → Prop} : ∀ {cs : List Nat}, Q27 P cs → ∀ c ∈ cs, P c
 | _ :: _, h, _, .head _ => h.1
 | _ :: _, h, c, .tail _ hc => Qmg h.2 c hc
theorem Qmh {P : List Bool → Prop} : ∀ {cs : List (List Bool)}, Q26 P cs → ∀ c ∈ cs, P c
 | _ :: _, h, _, .head _ => h.1
 | _ :: _, h, c, .tail _ hc => Qmh h.2 c hc
theorem Qen : ∀ c : List Bool, c ∈ Qh5 c.length
 | [] => .head _
 | x :: c => List.mem_flatMap.2 ⟨c, Qen c, by cases x <;> simp⟩
theorem Qvm (ps : List Nat) (b : Nat → Bool) : ps.zip (ps.map b) = ps.map fun p => (p, b p) := by
 induction ps with
 | nil => rfl
 | cons p ps ih => simp only [List.map_cons, List.zip_cons_cons, ih]
theorem Qsh (ps : List Nat) (i : Nat) (b : Nat → Bool) : Qvl ps i (ps.map b) = ps.map fun p => b p || Nat.beq i p := by
 unfold Qvl
 induction ps with
 | nil => rfl
 | cons p ps ih => simp only [List.map_cons, List.zipWith_cons_cons, ih]
def OpS (C : Cx) (Γ : Env) {ρ : Type} (Lf : List Bool → ρ → List It) (ps : List Nat) (all : List Oper) (ops : Array Oper) (Ts : ρ → List Ty) (ψ : List Bool → ρ → Prop) (ups : Nat → ρ → ρ → Prop) (i : Nat) (o : Oper) (n : Vp) : Prop :=
 (∃ cs, Qvk all ps i = cs ∧ Q26 (fun c => ∀ r, ψ c r → Qup C (Qab Γ (Ts r) n) (Lf c r) (fun r' => Lf (Qvl ps i c) r') (fun r' => ψ (Qvl ps i c) r' ∧ cond (ps.elem i) (ups i r r') (r' = r)) ops o (fun r' => (Ts r').getD i Yu)) cs) ∧
 (Q27 (fun p => (((X0 all []).getD i 0).testBit p || Nat.beq i p) = false → ∀ r r', ups p r r' → (Ts r).getD i Yu = (Ts r').getD i Yu) ps)
def Qgu (C : Cx) (Γ : Env) {ρ : Type} (Lf : List Bool → ρ → List It) (ps : List Nat) (all : List Oper) (ops : Array Oper) (Ts : ρ → List Ty) (ψ : List Bool → ρ → Prop) (ups : Nat → ρ → ρ → Prop) : Nat → List Oper → List Vp → Prop
 | i, o :: l, n :: ns => OpS C Γ Lf ps all ops Ts ψ ups i o n ∧ Qgu C Γ Lf ps all ops Ts ψ ups (i + 1) l ns
 | _, _, [] => True
 | _, [], _ :: _ => False
theorem Qeo {C : Cx} {Γ : Env} {ρ : Type} {Lf : List Bool → ρ → List It} {ps : List Nat} {all : List Oper} {ops : Array Oper} {Ts : ρ → List Ty} {ψ : List Bool → ρ → Prop} {ups : Nat → ρ → ρ → Prop} : ∀ {n : Nat} {l : List Oper} {ns : List Vp}, Qgu C Γ Lf ps all ops Ts ψ ups n l ns → ∀ i, i < ns.length → ∃ o, l[i]? = some o ∧ OpS C Γ Lf ps all ops Ts ψ ups (n + i) o (ns.getD i [])
 | n, o :: l, m :: ns, h, 0, _ => ⟨o, rfl, h.1⟩
 | n, o :: l, m :: ns, h, i + 1, hi => by
  obtain ⟨o', h1, h2⟩ := Qeo h.2 i (by simpa using hi)
  exact ⟨o', by simpa using h1, by rw [Nat.add_right_comm, Nat.add_assoc] at h2; simpa using h2⟩
 | _, [], [], _, i, hi => by simp at hi
 | _, _ :: _, [], _, i, hi => by simp at hi
theorem Qh6 {C : Cx} {Γ : Env} {ρ : Type} {Lf : List Bool → ρ → List It} {ps : List Nat} {all : List Oper} {ops : Array Oper} {Ts : ρ → List Ty} {ψ : List Bool → ρ → Prop} {ups : Nat → ρ → ρ → Prop} {l : List Oper} {ns : List Vp} (h : Qgu C Γ Lf ps all ops Ts ψ ups 0 l ns) (i : Nat) (hi : i < ns.length) : ∃ o, l[i]? = some o ∧ OpS C Γ Lf ps all ops Ts ψ ups i o (ns.getD i []) := by
 have := Qeo h i hi
 simpa using this
theorem Zh {C : Cx} {Γ : Env} {L R : List It} {ops : Array Oper} {J : List It} {o : Oper} {ρ ρ0 : Type} {T : ρ0 → Ty} {I : ρ0 → List It} {φ : ρ0 → Prop} {ψ : ρ → Prop} {T' : ρ → Ty} {L' : ρ → List It} (g : ρ0 → ρ) (hg : o.guard = none) (hp : Yp C Γ L o J ρ0 T I φ) (hL : List.Perm L (J ++ R)) (hL' : ∀ r, List.Perm (I r ++ R) (L' (g r))) (hψ : ∀ r, φ r → ψ (g r)) (hT : ∀ r, φ r → ∀ H v, (T r).p H v → (T' (g r)).p H v) : Qup C Γ L L' ψ ops o T' := fun a w H f s ow Q K hK =>
 Zg (L' := fun r => L' (g r)) (ψ := fun r => ψ (g r)) (T' := fun r => T' (g r)) hg hp hL hL' hψ hT a w H f s ow Q K fun r v w' H' hφ => hK (g r) v w' H' hφ
section
variable {C : Cx} {Γ : Env} {L : List It} {Q : Exit → Act → World → Prop} {l : List Oper} {ns : List Vp} {ρ : Type} {Ts : ρ → List Ty} {ψ : List Bool → ρ → Prop} {ups : Nat → ρ → ρ → Prop} {m : Nat}
structure Q4z {ρ : Type} (C : Cx) (Γ : Env) (Lf : List Bool → ρ → List It) (ps : List Nat) (l : List Oper) (Ts : ρ → List Ty) (ψ : List Bool → ρ → Prop) (m : Nat) (r : ρ) (b : Nat → Bool) (a : Act) (w : World) (H : FH) : Prop where
 defers : a.defers = []
 size : a.tmps.size = C.N
 st : St C.M C.H0 C.w0 H w
 ow : Xu C.ok w H (Lf (ps.map b) r)
 phi : ψ (ps.map b) r
 old : ∀ t T, find Γ t = some T → (∀ k, k < l.length → Z3 l k = some t → b k = false) → T.p H (a.tmps.getD t undef)
 got : ∀ k t, k < m → b k = true → Z3 l k = some t → ((Ts r).getD k Yu).p H (a.tmps.getD t undef)
theorem Qa4 {Lf : List Bool → ρ → List It} {r : ρ} {ps : List Nat} {i : Nat} {b : Nat → Bool} {a : Act} {w : World} {H : FH} (hI : Q4z C Γ Lf ps l Ts ψ m r b a w H) (him : i < m) (hlen : m ≤ l.length) (hi : b i = false) (hm : ∀ j, ((X0 l []).getD i 0).testBit j = true → b j = true) (hcl : ∀ k, k < l.length → b k = true → ∀ j, ((X0 l []).getD k 0).testBit j = true → b j = true) (hlt : ∀ j, ((X0 l []).getD i 0).testBit j = true → j < i) :
 ∀ {n : Vp}, J0 l (X0 l []) i n = true → Fits C.N (Qab Γ (Ts r) n) H a
 | [], _ => ⟨hI.defers, hI.size, fun t T h => by cases h⟩
 | (t, none) :: nr, h => by
  simp only [J0, Bool.and_eq_true] at h
  refine Yq ?_ (Qa4 hI him hlen hi hm hcl hlt h.2)
  cases hf : find Γ t with
  | none => exact trivial
  | some T =>
   refine hI.old t T hf fun k hk hd => ?_
   have h1 := List.all_eq_true.1 h.1 k (List.mem_range.2 hk)
   simp only [hd, beq_self_eq_true, Bool.not_true, Bool.false_or, Bool.or_eq_true] at h1
   rcases h1 with h1 | h1
   · rw [Nat.eq_of_beq_eq_true h1]; exact hi
   cases hb : b k with
   | false => rfl
   | true => have := hcl k hk hb i h1; rw [hi] at this; cases this
 | (t, some j) :: nr, h => by
  simp only [J0, Bool.and_eq_true, beq_iff_eq] at h
  refine Yq ?_ (Qa4 hI him hlen hi hm hcl hlt h.2)
  exact hI.got j t (by have := hlt j h.1.2; omega) (hm j h.1.2) h.1.1
theorem Qky {id : Nat} {ps : List Nat} {Lf : List Bool → ρ → List It} (r0 : ρ) (hψ0 : ψ (ps.map fun _ => false) r0) (hp : ps.all (fun p => Nat.ble (p + 1) m) = true) (hm : C.P.follows .mixedOrders = true) (hok : Qf6 C.N l m ns = true) (hT : ∀ r, (Ts r).length = m) (hops : Qgu C Γ Lf ps l l.toArray Ts ψ ups 0 l ns) (h : ∀ r, ψ (ps.map fun _ => true) r → Tr C (U1 (l.take m) (Ts r) Γ) (Lf (ps.map fun _ => true) r) (wpList C.P l.toArray Q (l.drop m))) : Tr C Γ (Lf (ps.map fun _ => false) r0) ((Code.region id l.toArray true).wp C.P Q) := by
 simp only [Qf6, Bool.and_eq_true, decide_eq_true_eq] at hok
 obtain ⟨⟨⟨hok1, hnd⟩, hnl⟩, hml⟩ := hok
 have hml : m ≤ l.length := Nat.le_of_ble_eq_true hml
 have hpm : ∀ p ∈ ps, p < m := fun p hp' => Nat.le_of_ble_eq_true (List.all_eq_true.1 hp p hp')
 have hrow : ∀ k o, l[k]? = some o → (∀ e ∈ Jx o, e < k) ∧ (o.dst.all fun d => decide (d < C.N)) = true ∧ (k < m → J0 l (X0 l []) k (ns.getD k []) = true) ∧ (m ≤ k → ∀ j, j < k → ((X0 l []).getD k 0).testBit j = true) := by
  intro k o ho
  have hk := (List.getElem?_eq_some_iff.1 ho).1
  have h1 := List.all_eq_true.1 hok1 k (List.mem_range.2 hk)
  rw [ho] at h1
  simp only [Bool.and_eq_true, List.all_eq_true, decide_eq_true_eq] at h1
  refine ⟨h1.1.1, h1.1.2, fun hkm => ?_, fun hkm j hj => ?_⟩
  · have h2 := h1.2; rw [if_pos hkm] at h2; exact h2
  have h2 := h1.2; rw [if_neg (by omega)] at h2; exact List.all_eq_true.1 h2 j (List.mem_range.2 hj)
 have hpos : ∀ k o, l[k]? = some o → ∀ e ∈ Jx o, e < k := fun k o ho => (hrow k o ho).1
 have hlt : ∀ i, i < l.length → ∀ j, ((X0 l []).getD i 0).testBit j = true → j < i := by
  intro i
  induction i using Nat.strongRecOn with
  | _ i ih =>
   intro hi j hj
   have ho : l[i]? = some l[i] := List.getElem?_eq_getElem hi
   have hm' := U9 l [] i _ ho
   simp only [List.length_nil, Nat.zero_add] at hm'
   rw [List.getD_eq_getElem?_getD, hm', Option.getD_some] at hj
   obtain ⟨e, he, h⟩ := Qaa hj
   have hei := hpos i _ ho e he
   rcases h with rfl | h
   · exact hei
   rw [List.getD_eq_getElem?_getD, List.getElem?_take, if_pos hei, ← List.getD_eq_getElem?_getD] at h
   have := ih e hei (by omega) j h
   omega
 intro a w H f s ow
 refine wp_region_any hm ?_
 have main : ∀ (fuel : Nat) (listed : Array Bool) (a : Act) (w : World) (H : FH) (r : ρ), listed.size = l.length → ((List.range l.length).filter fun i => !listed.getD i true).length ≤ fuel →
  (∀ i, m ≤ i → i < l.length → listed.getD i true = false) → Qas l (fun j => listed.getD j false) → Q4z C Γ Lf ps l Ts ψ m r (fun j => listed.getD j false) a w H → wpAny C.P .any l.toArray Q fuel listed a w := by
  intro fuel
  induction fuel with
  | zero =>
   intro listed a w H r hs hf hsuf hc hI
   have hall : ∀ i, i < l.length → listed.getD i true = true := by
    intro i hi
    cases hb : listed.getD i true with
    | true => rfl
    | false =>
     have : i ∈ (List.range l.length).filter fun i => !listed.getD i true := List.mem_filter.2 ⟨List.mem_range.2 hi, by rw [hb]; rfl⟩
     have h0 : (List.range l.length).filter (fun i => !listed.getD i true) = [] := List.eq_nil_of_length_eq_zero (by omega)
     rw [h0] at this; cases this
   have hmn : m = l.length := by
    rcases Nat.lt_or_ge m l.length with h1 | h1
    · have h2 := hsuf m (Nat.le_refl _) h1; rw [hall m h1] at h2; cases h2
    omega
   have hpd : (ps.map fun j => listed.getD j false) = ps.map fun _ => true := List.map_congr_left fun p hp' => by
    have := hall p (by have := hpm p hp'; omega); have h8 : p < listed.size := by have := hpm p hp'; omega
    simp [Array.getD_eq_getD_getElem?, Array.getElem?_eq_getElem h8] at this ⊢; exact this
   refine Vb (m := m) (b := listed) hpos (fun k h1 h2 => (hrow k _ (List.getElem?_eq_getElem h2)).2.2.2 h1) 0 l.length listed a w (by omega) (Nat.le_refl _) hs (by omega) hall (fun i h1 h2 => by omega) ?_
   refine (by have h5 := h r (hpd ▸ hI.phi); rw [hmn] at h5; exact h5 : Tr C (U1 (l.take l.length) (Ts r) Γ) (Lf (ps.map fun _ => true) r) (wpList C.P l.toArray Q (l.drop l.length))) a w H ⟨hI.defers, hI.size, fun t T e => ?_⟩ hI.st (by have := hI.ow; rw [hpd] at this; exact this)
   rw [List.take_length] at e
   rcases Jg l (Ts r) Γ t T (by rw [hT, hmn]) e with ⟨k, hk, hd, rfl⟩ | ⟨h1, h2⟩
   · exact hI.got k t (by omega) (by have := hall k hk; have h8 : k < listed.size := by omega
                                     simp [Array.getD_eq_getD_getElem?, Array.getElem?_eq_getElem h8] at this ⊢; exact this) hd
   exact hI.old t T h1 fun k hk hd => absurd hd (h2 k hk)
  | succ fuel ih =>
   intro listed a w H r hs hf hsuf hc hI
   by_cases hpre : ∀ i, i < m → listed.getD i true = true
   · -- the open part is done
     have hpd : (ps.map fun j => listed.getD j false) = ps.map fun _ => true := List.map_congr_left fun p hp' => by
      have := hpre p (hpm p hp'); have h8 : p < listed.size := by have := hpm p hp'; omega
      simp [Array.getD_eq_getD_getElem?, Array.getElem?_eq_getElem h8] at this ⊢; exact this
     refine Vb (m := m) (b := listed) hpos (fun k h1 h2 => (hrow k _ (List.getElem?_eq_getElem h2)).2.2.2 h1) (fuel + 1) m listed a w (Nat.le_refl _) hml hs ?_ hpre hsuf ?_
     · have : (List.range' m (l.length - m)).length ≤ ((List.range l.length).filter fun i => !listed.getD i true).length := by
        refine List.Sublist.length_le (l₁ := List.range' m (l.length - m)) ?_
        have e1 : (List.range l.length).filter (fun i => !listed.getD i true) = List.range' m (l.length - m) := by
         have e2 : List.range l.length = List.range' 0 m ++ List.range' m (l.length - m) := by
          rw [List.range_eq_range', show l.length = m + (l.length - m) from by omega, ← List.range'_append]
          simp
         rw [e2, List.filter_append]
         have e3 : (List.range' 0 m).filter (fun i => !listed.getD i true) = [] := by
          rw [List.filter_eq_nil_iff]
          intro i hi
          have := (List.mem_range'_1.1 hi).2
          rw [hpre i (by omega)]; simp
         have e4 : (List.range' m (l.length - m)).filter (fun i => !listed.getD i true) = List.range' m (l.length - m) := by
          rw [List.filter_eq_self]
          intro i hi
          have := List.mem_range'_1.1 hi
          rw [hsuf i (by omega) (by omega)]; rfl
         rw [e3, e4, List.nil_append]
        rw [e1]
        exact List.Sublist.refl _
       rw [List.length_range'] at this
       omega
     refine h r (hpd ▸ hI.phi) a w H ⟨hI.defers, hI.size, fun t T e => ?_⟩ hI.st (by have := hI.ow; rw [hpd] at this; exact this)
     rcases Jg (l.take m) (Ts r) Γ t T (by rw [hT, List.length_take]; omega) e with ⟨k, hk, hd, rfl⟩ | ⟨h1, h2⟩
     · rw [List.length_take] at hk
       refine hI.got k t (by omega) ?_ (by unfold Z3 at hd ⊢; rw [List.getElem?_take, if_pos (by omega)] at hd; exact hd)
       have := hpre k (by omega)
       have h8 : k < listed.size := by omega
       simp [Array.getD_eq_getD_getElem?, Array.getElem?_eq_getElem h8] at this ⊢; exact this
     refine hI.old t T h1 fun k hk hd => ?_
     rcases Nat.lt_or_ge k m with h3 | h3
     · exact absurd (by unfold Z3 at hd ⊢; rw [List.getElem?_take, if_pos h3]; exact hd) (h2 k (by rw [List.length_take]; omega))
     have := hsuf k h3 hk
     have h8 : k < listed.size := by omega
     simp [Array.getD_eq_getD_getElem?, Array.getElem?_eq_getElem h8] at this ⊢; exact this
   refine ⟨fun hr => ?_, fun i hi => ?_⟩
   · -- something is always ready
     exfalso
     have hex : ∃ i, i < l.length ∧ listed.getD i true = false := by
      apply Classical.byContradiction
      intro hno
      refine hpre fun i hi => ?_
      cases hb : listed.getD i true with
      | true => rfl
      | false => exact absurd ⟨i, by omega, hb⟩ hno
     have hmin : ∀ n i, i < n → i < l.length → listed.getD i true = false → ∃ j, j < l.length ∧ listed.getD j true = false ∧ ∀ k, k < j → listed.getD k true = true := by
      intro n
      induction n with
      | zero => intro i h; omega
      | succ n ihn =>
       intro i hi hl hb
       by_cases hk : ∀ k, k < i → listed.getD k true = true
       · exact ⟨i, hl, hb, hk⟩
       have : ∃ k, k < i ∧ listed.getD k true = false := by
        apply Classical.byContradiction
        intro hno
        refine hk fun k hki => ?_
        cases hbk : listed.getD k true with
        | true => rfl
        | false => exact absurd ⟨k, hki, hbk⟩ hno
       obtain ⟨k, hk1, hk2⟩ := this
       exact ihn k (by omega) (by omega) hk2
     obtain ⟨i, hi, hb⟩ := hex
     obtain ⟨j, hj1, hj2, hj3⟩ := hmin (i + 1) i (by omega) hi hb
     have : j ∈ Region.ready .any l.toArray listed := by
      unfold Region.ready
      rw [List.mem_filter]
      refine ⟨by simpa using hj1, ?_⟩
      rw [hj2]
      have ho : l[j]? = some l[j] := List.getElem?_eq_getElem hj1
      simp only [List.getElem?_toArray, ho, Option.map_some, Option.getD_some, Bool.not_false, Bool.true_and]
      rw [← Array.all_toList, List.all_eq_true]
      intro e he
      by_cases hbe : Region.binds .any e = true
      · have hmem : e.on ∈ Jx l[j] := List.mem_map.2 ⟨e, List.mem_filter.2 ⟨he, hbe⟩, rfl⟩
        have h3 := hj3 e.on (hpos j _ ho _ hmem)
        have h4 : e.on < listed.size := by have := hpos j _ ho _ hmem; omega
        simp [Array.getD_eq_getD_getElem?, Array.getElem?_eq_getElem h4] at h3 ⊢
        simp [h3]
      simp [hbe]
     rw [hr] at this; cases this
   unfold Region.ready at hi
   rw [List.mem_filter] at hi
   obtain ⟨hi1, hi2⟩ := hi
   have hil : i < l.length := by simpa using hi1
   simp only [Bool.and_eq_true, Bool.not_eq_true'] at hi2
   have ho : l[i]? = some l[i] := List.getElem?_eq_getElem hil
   have hr : ∀ e ∈ Jx l[i], (fun j => listed.getD j false) e = true := by
    intro e he
    obtain ⟨ed, hed, rfl⟩ := List.mem_map.1 he
    rw [List.mem_filter] at hed
    have h4 := hi2.2
    simp only [List.getElem?_toArray, ho, Option.map_some, Option.getD_some, ← Array.all_toList, List.all_eq_true] at h4
    have h5 := h4 ed hed.1
    simpa [hed.2] using h5
   have hbi : (fun j => listed.getD j false) i = false := by
    have h8 : i < listed.size := by omega
    have := hi2.1
    simp [Array.getD_eq_getD_getElem?, Array.getElem?_eq_getElem h8] at this ⊢; exact this
   have hmk := Ub hc ho hr
   have him : i < m := by
    rcases Nat.lt_or_ge i m with h1 | h1
    · exact h1
    exfalso
    refine hpre fun j hj => ?_
    have := hmk j ((hrow i _ ho).2.2.2 h1 j (by omega))
    have h8 : j < listed.size := by omega
    simp [Array.getD_eq_getD_getElem?, Array.getElem?_eq_getElem h8] at this ⊢; exact this
   obtain ⟨o, ho2, hop⟩ := Qh6 hops i (by omega)
   have hoo : o = l[i] := by rw [ho] at ho2; exact (Option.some.inj ho2).symm
   subst hoo
   have hcl : ∀ k, k < l.length → listed.getD k false = true → ∀ j, ((X0 l []).getD k 0).testBit j = true → listed.getD j false = true := fun k hk hb j hj => Va hc (k + 1) k (by omega) hk hb j hj
   have hfit := Qa4 hI him hml hbi hmk hcl (hlt i hil) ((hrow i _ ho).2.2.1 him)
   have hfl : Qkx l ps i (ps.map fun j => listed.getD j false) = true := by
    unfold Qkx
    rw [Qvm, List.all_map, List.all_eq_true]
    intro p hp'
    show cond (listed.getD p false) _ _ = true
    cases hbp : listed.getD p false with
    | false =>
     simp only [cond_false, Bool.not_eq_true']
     cases hq : ((X0 l []).getD i 0).testBit p with
     | false => rfl
     | true => have h8 := hmk p hq; exact absurd (h8.symm.trans hbp) (by simp)
    | true =>
     simp only [cond_true, Bool.and_eq_true, Bool.not_eq_true']
     refine ⟨⟨?_, ?_⟩, ?_⟩
     · cases hq : ((X0 l []).getD p 0).testBit i with
       | false => rfl
       | true => have h8 := hcl p (by have := hpm p hp'; omega) hbp i hq; exact absurd (h8.symm.trans hbi) (by simp)
     · cases hq : Nat.beq i p with
       | false => rfl
       | true => have h8 := Nat.eq_of_beq_eq_true hq; subst h8; exact absurd (hbp.symm.trans hbi) (by simp)
     rw [List.all_map, List.all_eq_true]
     intro q hq'
     show (listed.getD q false || !((X0 l []).getD p 0).testBit q) = true
     cases hq : ((X0 l []).getD p 0).testBit q with
     | false => simp
     | true => rw [show listed.getD q false = true from hcl p (by have := hpm p hp'; omega) hbp q hq]; rfl
   obtain ⟨⟨cs, hcs, hall⟩, hcoh⟩ := hop
   have hcm : (ps.map fun j => listed.getD j false) ∈ cs := by
    rw [← hcs]
    refine List.mem_filter.2 ⟨?_, hfl⟩
    have := Qen (ps.map fun j => listed.getD j false)
    rwa [List.length_map] at this
   have hnew : (ps.map fun p => (listed.setIfInBounds i true).getD p false) = Qvl ps i (ps.map fun j => listed.getD j false) := by
    rw [Qsh]
    refine List.map_congr_left fun p _ => ?_
    simp only [Array.getD_eq_getD_getElem?, Array.getElem?_setIfInBounds]
    by_cases hip : i = p
    · subst hip; simp [show i < listed.size from by omega]
    have : Nat.beq i p = false := by
     cases hb : Nat.beq i p with
     | false => rfl
     | true => exact absurd (Nat.eq_of_beq_eq_true hb) hip
    simp [hip, this]
   have hop2 := (Qmh hall _ hcm r hI.phi) a w H hfit hI.st hI.ow Q (wpAny C.P .any l.toArray Q fuel (listed.setIfInBounds i true)) ?_
   · unfold wpOp
     have : l.toArray[i]? = some l[i] := by simp
     rw [this]
     simp only
     split
     · rename_i hw; rw [if_pos hw] at hop2; exact .inl hop2
     rename_i hw; rw [if_neg hw] at hop2; exact hop2
   intro r' v w' H' hφ' hsub hst' how' hv
   refine ih _ _ w' H' r' (by simpa using hs) ?_ ?_ ?_ ?_
   · have : ((List.range l.length).filter fun j => !(listed.setIfInBounds i true).getD j true).length < ((List.range l.length).filter fun j => !listed.getD j true).length := by
      have hsub : (List.range l.length).filter (fun j => !(listed.setIfInBounds i true).getD j true) = ((List.range l.length).filter fun j => !listed.getD j true).filter (fun j => !(Nat.beq i j)) := by
       rw [List.filter_filter]
       apply List.filter_congr
       intro j hj
       simp only [Array.getD_eq_getD_getElem?, Array.getElem?_setIfInBounds]
       by_cases hij : i = j
       · subst hij; simp [show i < listed.size from by omega]
       have : Nat.beq i j = false := by
        cases hb : Nat.beq i j with
        | false => rfl
        | true => exact absurd (Nat.eq_of_beq_eq_true hb) hij
       simp [hij, this]
      rw [hsub]
      have hmem : i ∈ (List.range l.length).filter fun j => !listed.getD j true := List.mem_filter.2 ⟨List.mem_range.2 hil, by rw [hi2.1]; rfl⟩
      exact List.length_filter_lt_length_iff_exists.2 ⟨i, hmem, by simp⟩
     omega
   · intro j hj hjl
     have := hsuf j hj hjl
     simp only [Array.getD_eq_getD_getElem?] at this
     simp only [Array.getD_eq_getD_getElem?, Array.getElem?_setIfInBounds]
     simp [show ¬ i = j from by omega, this]
   · intro k o' ho' hb' e he
     simp only [Array.getD_eq_getD_getElem?, Array.getElem?_setIfInBounds] at hb' ⊢
     by_cases hie : i = e
     · subst hie; simp [show i < listed.size from by omega]
     simp only [if_neg hie]
     have h8 : ∀ e, (listed[e]?).getD false = listed.getD e false := fun e => by simp [Array.getD_eq_getD_getElem?]
     rw [h8]
     by_cases hik : i = k
     · subst hik
       have : l[i] = o' := by rw [ho] at ho'; exact Option.some.inj ho'
       subst this
       exact hr e he
     simp only [if_neg hik] at hb'
     rw [h8] at hb'
     exact hc k o' ho' hb' e he
   have hdd : ∀ t, (a.put l[i].dst v).tmps.getD t undef = if l[i].dst = some t then v else a.tmps.getD t undef := by
    intro t
    cases hd : l[i].dst with
    | none => simp [Act.put]
    | some d =>
     rw [Qbo]
     have hdN : d < C.N := by
      have := (hrow i _ ho).2.1
      rw [hd] at this; simpa using this
     by_cases hdt : d = t
     · subst hdt; simp [hI.size, hdN]
     simp [hdt]
   refine ⟨?_, ?_, hst', ?_, ?_, ?_, ?_⟩
   · cases hd : l[i].dst <;> simp [Act.put, hI.defers]
   · cases hd : l[i].dst <;> simp [Act.put, hI.size]
   · rw [hnew]; exact how'
   · rw [hnew]; exact hφ'.1
   · intro t T hf hall
     have hbt : ∀ k, k < l.length → Z3 l k = some t → listed.getD k false = false ∧ k ≠ i := by
      intro k hk hd
      have := hall k hk hd
      simp only [Array.getD_eq_getD_getElem?, Array.getElem?_setIfInBounds] at this ⊢
      by_cases hik : i = k
      · subst hik; simp [show i < listed.size from by omega] at this
      simp [hik] at this; exact ⟨this, fun e => hik e.symm⟩
     have hne : ¬ l[i].dst = some t := fun e => (hbt i hil (by simp [Z3, ho, e])).2 rfl
     rw [hdd, if_neg hne]
     exact T.mono hsub (hI.old t T hf fun k hk hd => (hbt k hk hd).1)
   intro k t hkm hb hd
   rw [hdd]
   simp only [Array.getD_eq_getD_getElem?, Array.getElem?_setIfInBounds] at hb
   by_cases hik : i = k
   · subst hik
     have : l[i].dst = some t := by simpa [Z3, ho] using hd
     rw [if_pos this]
     exact hv
   simp only [if_neg hik] at hb
   have hb' : listed.getD k false = true := by simpa [Array.getD_eq_getD_getElem?] using hb
   have hne : ¬ l[i].dst = some t := by
    intro e
    have h1 : (l.take m)[i]? = some l[i] := by rw [List.getElem?_take, if_pos him]; exact ho
    have hkl : k < l.length := by omega
    have h2 : (l.take m)[k]? = some l[k] := by rw [List.getElem?_take, if_pos hkm]; exact List.getElem?_eq_getElem hkl
    have h3 : l[k].dst = some t := by simpa [Z3, List.getElem?_eq_getElem hkl] using hd
    exact hik (Yg.nodup_filterMap hnd h1 h2 e h3)
   rw [if_neg hne]
   have hgot := hI.got k t hkm hb' hd
   have hcohk : (Ts r).getD k Yu = (Ts r').getD k Yu := by
    have hφ2 := hφ'.2
    cases hip : ps.elem i with
    | false => rw [hip] at hφ2; rw [show r' = r from hφ2]
    | true =>
     rw [hip] at hφ2
     obtain ⟨o3, _, hop3⟩ := Qh6 hops k (by omega)
     refine Qmg hop3.2 i (List.elem_iff.1 hip) ?_ r r' hφ2
     rw [Bool.or_eq_false_iff]
     refine ⟨?_, ?_⟩
     · cases hq : ((X0 l []).getD k 0).testBit i with
       | false => rfl
       | true => have h8 := hcl k (by omega) hb' i hq; exact absurd (h8.symm.trans hbi) (by simp)
     cases hq : Nat.beq k i with
     | false => rfl
     | true => exact absurd (Nat.eq_of_beq_eq_true hq).symm hik
   rw [← hcohk]
   exact ((Ts r).getD k Yu).mono hsub hgot
 refine main l.length (Array.replicate l.length false) a { w with drawn := w.drawn + 1 } H r0 (by simp) (by
  refine Nat.le_trans (List.length_filter_le _ _) (by simp)) (fun i _ hi => by simp [Array.getD_eq_getD_getElem?, hi]) ?_ ?_ |> fun h => by simpa using h
 · intro k o ho hb e he
   simp [Array.getD_eq_getD_getElem?, Array.getElem?_replicate] at hb
   split at hb <;> simp at hb
 have e0 : (ps.map fun j => (Array.replicate l.length false).getD j false) = ps.map fun _ => false := List.map_congr_left fun p _ => by simp only [Array.getD_eq_getD_getElem?, Array.getElem?_replicate]; split <;> rfl
 refine ⟨f.defers, f.size, ⟨s.sub, fun k o e => s.on k o e, s.os, s.tape, s.output, s.size, s.keep, s.new⟩, ?_, by rw [e0]; exact hψ0, fun t T hf _ => f.get t T hf, fun k t _ hb => ?_⟩
 · rw [e0]
   exact ⟨fun i hi => i.st (w := w) (w' := { w with drawn := w.drawn + 1 }) (fun _ _ => rfl) (Sub.refl _) (ow.all i hi), ow.nodup, ow.own⟩
 simp [Array.getD_eq_getD_getElem?, Array.getElem?_replicate] at hb
 split at hb <;> simp at hb
end
end Go.Gw
namespace Go.Gw
open Go
section
variable {C : Cx} {Γ : Env} {L R : List It}
variable {dst : Option Tmp} {ty : TypeId} {pos : String} {after : Array Edge} {guard : Option (Nat × Bool)} {x y z : Operand}
def Qqn (v : Value) : Value := match v with
 | .slice (some a) _ _ => .pointer (some a)
 | .slice none _ _ => .pointer none
 | _ => undef
theorem Qvn {t el : TypeId} {v : Value} {xs : List Int} (hx : OT C.N Γ x (IsV v)) (hm : Qh el (Jw .u8) v xs ∈ L) (h0 : xs = [] → v = Qo) : Pure C Γ L ⟨dst, .call ⟨.builtin .unsafeSliceData, #[x], #[t]⟩, ty, pos, after, guard⟩ (IsV (Qqn v)) := fun a w H f s ow => by
 have hv : a.eval x = v := hx a H f
 obtain ⟨inner, ⟨h2, h3⟩, hR⟩ := ow.all _ hm
 rcases h3 with ⟨rfl, h4⟩ | ⟨g, cap, cur, rfl, _, _, hc, _⟩
 · exact ⟨.pointer none, by simp [execOp, resolve, invoke, builtin, hv, Lib.run_unsafeSliceData_nil], rfl⟩
 have hne : xs ≠ [] := fun e => by cases h0 e
 have hl : 0 < xs.length := List.length_pos_iff.2 hne
 exact ⟨.pointer (some ⟨g, 0, none⟩), by simp [execOp, resolve, invoke, builtin, hv, Lib.run_unsafeSliceData_row (P := C.P) (w := w) #[t] ty ⟨g, 0, none⟩ xs.length cap (by omega)], rfl⟩
theorem Qkz {w : World} {g n k : Nat} (hk : k ≠ g) : (w.freeze ⟨g, 0, none⟩ n).heap[k]? = w.heap[k]? := by
 unfold World.freeze
 split
 · rfl
 simp only [Array.getElem?_modify]; rw [if_neg (Ne.symm hk)]
theorem Qmi {w : World} {g n : Nat} : (w.freeze ⟨g, 0, none⟩ n).heap.size = w.heap.size := by
 unfold World.freeze
 split
 · rfl
 simp
theorem Qep {pt it el : TypeId} {v : Value} {l : List UInt8} (hx : OT C.N Γ x (IsV (Qqn v))) (hy : OT C.N Γ y (I64 (l.length : Int))) (hp : List.Perm L (Qh el (Jw .u8) v (Yk l) :: R)) (ht : C.P.underlying pt = some (.pointer el)) (hc : C.P.cellsOf el = 1) :
 Yp C Γ L ⟨dst, .call ⟨.builtin .unsafeString, #[x, y], #[pt, it]⟩, ty, pos, after, guard⟩ [Qh el (Jw .u8) v (Yk l)] Unit (fun _ => BsT l) (fun _ => []) (fun _ => True) := by
 intro a w H f s ow Q K hK
 have o' := ow.perm hp
 obtain ⟨inner, hown, hR⟩ := o'.all _ List.mem_cons_self
 have hxv : a.eval x = Qqn v := hx a H f
 have hyv : a.eval y = .int .i64 l.length := hy a H f
 by_cases hl : l = []
 · subst hl
   obtain ⟨q, hq⟩ : ∃ q, Qqn v = .pointer q := by
    rcases hown.2 with ⟨rfl, _⟩ | ⟨g, cap, cur, rfl, _⟩
    · exact ⟨_, rfl⟩
    exact ⟨_, rfl⟩
   have hrun : (execOp a.eval ⟨dst, .call ⟨.builtin .unsafeString, #[x, y], #[pt, it]⟩, ty, pos, after, guard⟩).run C.P w = .ok (.value (.string (bs []))) w := by
    have h1 := Lib.run_unsafeString_none (P := C.P) w pt it ty q
    have e1 : a.eval x = .pointer q := hxv.trans hq
    have e2 : a.eval y = .int .i64 0 := hyv
    simp [execOp, resolve, invoke, builtin, e1, e2, h1]
    rfl
   simp only [Oper.wp, hrun, Oper.upon_value]
   exact hK () _ _ H trivial (Y4 (row := none) s.on ⟨rfl, rfl, rfl, Nat.le_refl _, fun k hk hne => rfl⟩ fun k hk => by cases hk) rfl Xu.nil
 have hlp : 0 < l.length := List.length_pos_iff.2 hl
 have hlen : (Yk l).length = l.length := by simp
 rcases hown.2 with ⟨rfl, h0⟩ | ⟨g, cap, cur, rfl, _, hg, hnc, hcm, hcs, htake⟩
 · omega
 have hblk := o'.own g (Xn (i := Qh el (Jw .u8) (.slice (some ⟨g, 0, none⟩) (Yk l).length cap) (Yk l)) List.mem_cons_self rfl)
 have hcell := hown.cells (g := g) rfl
 have hrun : (execOp a.eval ⟨dst, .call ⟨.builtin .unsafeString, #[x, y], #[pt, it]⟩, ty, pos, after, guard⟩).run C.P w = .ok (.value (.string (bs l))) (w.freeze ⟨g, 0, none⟩ l.length) := by
  have h1 := Lib.run_unsafeString_row (P := C.P) w pt it ty el ht hc g cur.size (by simp [World.shape?, hg]) l hl (by have : (Jw IntKind.u8).sz = 1 := rfl; rw [this] at hcs; omega) (by unfold maxLen at hcm; omega) (fun j b hb => by
   refine hcell j _ ?_
   have h9 : (Jw IntKind.u8).K H ((b.toNat : Nat) : Int) ((inner.drop (j * 1)).take 1) := hR.2 j _ (by simp [hb])
   have h10 : (inner.drop (j * 1)).take 1 = [Value.int .u8 b.toNat] := h9
   rw [Nat.mul_one] at h10
   have h11 := congrArg List.head? h10
   simpa [List.head?_take, List.head?_drop] using h11)
  have e1 : a.eval x = .pointer (some ⟨g, 0, none⟩) := hxv
  simp [execOp, resolve, invoke, builtin, e1, hyv, h1]
 simp only [Oper.wp, hrun, Oper.upon_value]
 refine hK () _ _ H trivial (Y4 (row := some g) s.on ⟨?_, ?_, ?_, by rw [Qmi]; exact Nat.le_refl _, fun k hk hne => Qkz fun e => hne (by rw [e])⟩ fun k hk => by cases hk; exact ⟨hblk.2.1, Xn (i := Qh el (Jw .u8) (.slice (some ⟨g, 0, none⟩) (Yk l).length cap) (Yk l)) List.mem_cons_self rfl⟩) rfl Xu.nil
 all_goals (unfold World.freeze; split <;> rfl)
end
abbrev Qfq : Kd (Value × Value) := Xo Q3 Q3
theorem lb0 {t : Value × Value} : Qf Qfq Q3 0 t t.1 (fun y => (y, t.2)) := Qf.fst
theorem lb1 {t : Value × Value} : Qf Qfq Q3 1 t t.2 (fun y => (t.1, y)) := Qf.snd (a := Q3)
end Go.Gw
namespace Go.Gw
open Go
section
variable {C : Cx} {Γ : Env} {L R : List It} {α : Type} {d : Kd α}
variable {dst : Option Tmp} {ty : TypeId} {pos : String} {after : Array Edge} {guard : Option (Nat × Bool)} {x y z : Operand}
theorem Qjn {w : World} {H : FH} {g : Nat} {t : TypeId} {v : α} (h : (Qb g t d v).p w H) : w.shape? g = some (t, d.sz) := by
 obtain ⟨cs, h1, h2⟩ := h
 simp [World.shape?, h2, d.len h1]
theorem Qk0 {s u t : TypeId} {g : Nat} {v : α} (hx : OT C.N Γ x (IsV (pt g 0))) (hm : Qb g t d v ∈ L) (hs : C.P.underlying s = some (.pointer t)) (hd : C.P.underlying u = some .unsafePointer) (hz : (C.P.info? t).map (fun j => Nat.beq j.size 0) = some false) (h0 : 0 < d.sz) : Pure C Γ L ⟨dst, .convert s u x, ty, pos, after, guard⟩ (IsV (pt g 0)) := fun a w H f s' ow => by
 have hv : a.eval x = pt g 0 := hx a H f
 obtain ⟨j, hj, hjs⟩ := Option.map_eq_some_iff.1 hz
 have h1 := Lib.run_to_unsafe (P := C.P) w ⟨g, 0, none⟩ hs hd hj (fun e => by rw [e] at hjs; cases hjs) (Qjn (ow.all _ hm)) h0
 exact ⟨pt g 0, by simp only [execOp, hv, Sem.run_bind, h1, Result.andThen_ok]; rfl, rfl⟩
theorem Qh7 {s u t : TypeId} {g : Nat} {v : α} (hx : OT C.N Γ x (IsV (pt g 0))) (hm : Qb g t d v ∈ L) (hs : C.P.underlying s = some .unsafePointer) (hd : C.P.underlying u = some (.pointer t)) (hz : (C.P.info? t).isSome = true) (hl : liesAt C.P C.P.depth t (d.sz / C.P.cellsOf t) 0 t 1 = true) : Pure C Γ L ⟨dst, .convert s u x, ty, pos, after, guard⟩ (IsV (pt g 0)) := fun a w H f s' ow => by
 have hv : a.eval x = pt g 0 := hx a H f
 obtain ⟨j, hj⟩ := Option.isSome_iff_exists.1 hz
 have h1 := Lib.run_from_unsafe (P := C.P) w ⟨g, 0, none⟩ hs hd hj (Qjn (ow.all _ hm)) hl
 exact ⟨pt g 0, by simp only [execOp, hv, Sem.run_bind, h1, Result.andThen_ok]; rfl, rfl⟩
theorem Qsi {f : FuncId} {fn : Func} {e : Array Value → Sem Value} {v u : Value} {ats : Array TypeId} (hx : OT C.N Γ x (IsV v)) (hf : C.P.funcs[f]? = some fn) (hname : (fn.name == "runtime.NumGoroutine") = false) (hb : fn.body.isNone = true) (hn : Extern.findNext fn = none) (he : Extern.find fn = some e) (hu : ∀ w, (e #[v]).run C.P w = .ok u w) : Pure C Γ L ⟨dst, .call ⟨.value (.func f), #[x], ats⟩, ty, pos, after, guard⟩ (IsV u) := fun a w H fi s ow => by
 have hv : a.eval x = v := hx a H fi
 refine ⟨u, ?_, rfl⟩
 rw [execOp_call_go]
 simp only [List.map_toArray, List.map_cons, List.map_nil, hv]
 rw [run_callFunc_extern hf hname hb hn he]
 show ((e #[v]).run C.P w).andThen _ = _
 rw [hu]; rfl
theorem Qgi {t t2 el : TypeId} {g : Nat} (hx : OT C.N Γ x (IsV (pt g 0))) (hy : OT C.N Γ y (IsV (pt g 0))) (ht : C.P.underlying t = some (.pointer el)) (hz : (C.P.info? el).isSome = true) (hc : ∀ v, y ≠ .const v) : Pure C Γ L ⟨dst, .binOp .neq t x y t2, ty, pos, after, guard⟩ (Xe false) := fun a w H f s ow => by
 have h1 : a.eval x = pt g 0 := hx a H f
 have h2 : a.eval y = pt g 0 := hy a H f
 obtain ⟨j, hj⟩ := Option.isSome_iff_exists.1 hz
 have h3 := Lib.run_neq_ptr_same (P := C.P) w (tp := t) ⟨g, 0, none⟩ ht hj
 have hg : (eqGuard .neq t x y (pt g 0) (pt g 0)).run C.P w = .ok () w := by simp [eqGuard]
 refine ⟨.bool false, ?_, rfl⟩
 simp only [execOp, h1, h2, Sem.run_bind, hg, Result.andThen_ok]
 show ((binOp .neq t (.pointer (some ⟨g, 0, none⟩)) (.pointer (some ⟨g, 0, none⟩))).run C.P w).andThen _ = _
 rw [h3]; rfl
end
end Go.Gw
namespace Go.Gw
open Go
theorem Qeq {C : Cx} {Γ : Env} {L : List It} {dst : Option Tmp} {ty : TypeId} {pos : String} {after : Array Edge} {guard : Option (Nat × Bool)} {x : Operand} {t : TypeId} {v : Value} {D : TypeDesc} (hx : OT C.N Γ x (IsV v)) (ht : C.P.underlying t = some D) (hn : (match D with | .interface _ => false | _ => true) = true) : Pure C Γ L ⟨dst, .makeInterface t x, ty, pos, after, guard⟩ (IsV (.iface t v)) := fun a w H f s ow => by
 have hv : a.eval x = v := hx a H f
 refine ⟨.iface t v, ?_, rfl⟩
 cases D <;> first | (exact Bool.noConfusion hn) | simp [execOp, Instr.makeInterface, run_underlying ht, hv]
section
variable {Γ : Env} {L J : List It} {α : Type} {d : Kd α}
theorem Qi6 {fn : Func} {ρ : Type} {T : ρ → Ty} {I : ρ → List It} {φ : ρ → Prop} {P : Program} {N : Nat} {H0 : FH} {w0 : World} (e : Exit) (he : e = .ret ∨ e = .normal) {t u u2 : Nat} {tt t' : TypeId} {b : Nat} {v : α} {B B2 : Ty} (hres : fn.results = #[.cell t tt, .tmp u, .tmp u2]) (r : ρ) (hx : OT N Γ (.tmp t) (IsV (pt b 0))) (hm : Qb b t' d v ∈ L) (ht : Xy P tt d.agg d.sz = true) (hB : OT N Γ (.tmp u) B) (hB2 : OT N Γ (.tmp u2) B2) (hT : ∀ H v', (Y1 [d.T v, B, B2]).p H v' → (T r).p H v') (hφ : φ r) (hI : ∃ R, List.Perm L (I r ++ R)) :
 Tr ⟨P, N, fun g => g ∈ X8 J, H0, w0⟩ Γ L (bodyPost P fn (post J H0 w0 ρ T I φ) e) :=
 V7 e he r hφ hI fun a w H f s ow => by
  have hv : a.eval (.tmp t) = pt b 0 := hx a H f
  obtain ⟨cs, hK, hb⟩ := ow.all _ hm
  have hl := d.len hK
  have hload := K6 (P := P) (w := w) (t := tt) (agg := d.agg) (cs := cs) (g := b) (off := 0) (by rw [hl]; exact ht) (fun h => by rw [hl]; exact d.szone h) hb (fun i u h => by simpa using h)
  refine ⟨.tuple [mkV d.agg cs, a.eval (.tmp u), a.eval (.tmp u2)].toArray, ?_, hT _ _ ⟨_, rfl, d.toT hK, hB a H f, hB2 a H f, trivial⟩⟩
  simp only [Act.eval] at hv
  simp only [Array.getD_eq_getD_getElem?] at hv
  simp [results, hres, hv, asAddr, hload, pt, Act.eval]
end
end Go.Gw
namespace Go.Gw
open Go Go.MapKept
open Go.ChangeMaps (setBlock)
structure MS where
 es : Array MapEntry
 clock : Nat
structure IS where
 since : Nat
 seen : Array Nat
 c0 : Nat
theorem Qmj {β : Type} {l : List β} (hn : l.Nodup) {i j : Nat} (hi : i < l.length) (hj : j < l.length) (h : l[i] = l[j]) : i = j := by
 rcases Nat.lt_trichotomy i j with h1 | h1 | h1
 · exact absurd h (List.pairwise_iff_getElem.1 hn i j hi hj h1)
 · exact h1
 exact absurd h.symm (List.pairwise_iff_getElem.1 hn j i hj hi h1)
section
variable {κ α : Type}
def Ju (g : Nat) (enc : κ → Value) (V : α → Ty) (m : List (κ × α)) (s : MS) : It where
 blk := some g
 p := fun w H => w.heap[g]? = some (.map s.es s.clock) ∧ J2 enc V H m s.es s.clock
 st := fun hb hs ⟨h1, h2⟩ => ⟨(hb g rfl).trans h1, h2.mono hs⟩
def K4 (r g : Nat) (i : IS) : It where
 blk := some r
 p := fun w H => w.heap[r]? = some (.mapIter (some g) i.since i.seen i.c0)
 st := fun hb hs h => (hb r rfl).trans h
structure Jk (m : List (κ × α)) (s : MS) (i : IS) (todo : List κ) (cur : Option κ) : Prop where
 old : ∀ e ∈ s.es.toList, e.born < i.since
 le : i.since ≤ i.c0
 lc : i.since ≤ s.clock
 nd : todo.Nodup
 sub : ∀ k ∈ todo, k ∈ keys m
 left : ∀ (j : Nat) (e : MapEntry) (k : κ), s.es.toList[j]? = some e → (keys m)[j]? = some k → (i.seen.contains e.born = false ↔ k ∈ todo)
 at_ : ∀ k, cur = some k → i.c0 = s.clock ∧ ∃ (j : Nat) (e : MapEntry) (seen : Array Nat), s.es.toList[j]? = some e ∧ (keys m)[j]? = some k ∧ i.seen = seen.push e.born
def Qvo (b : Bool) : Ty := ⟨fun _ v => ∃ l, v = .tuple (Array.mk (.bool b :: l)), fun _ h => h⟩
end
section
variable {C : Cx} {Γ : Env} {L R : List It} {dst : Option Tmp} {ty : TypeId} {pos : String} {after : Array Edge} {guard : Option (Nat × Bool)} {x y z : Operand} {Q : Act → World → Prop}
variable {κ α : Type} [DecidableEq κ] {t kt et : TypeId} {K : Kd κ} {enc : κ → Value} {V : α → Ty} {m : List (κ × α)} {g r : Nat} {k : κ} {s : MS} {i : IS} {todo : List κ} {cur : Option κ}
theorem W7 (hp : List.Perm L (Qg g enc V m :: R)) (h : ∀ s, Tr C Γ (Ju g enc V m s :: R) Q) : Tr C Γ L Q := by
 intro a w H f st ow
 have o' := ow.perm hp
 obtain ⟨es, clock, hb, hR⟩ := o'.all _ List.mem_cons_self
 exact h ⟨es, clock⟩ a w H f st (o'.swap1 (J := Ju g enc V m ⟨es, clock⟩) rfl ⟨hb, hR⟩)
theorem Uv (hp : List.Perm L (Ju g enc V m s :: R)) (h : Tr C Γ (Qg g enc V m :: R) Q) : Tr C Γ L Q := by
 intro a w H f st ow
 have o' := ow.perm hp
 obtain ⟨hb, hR⟩ := o'.all _ List.mem_cons_self
 exact h a w H f st (o'.swap1 (J := Qg g enc V m) rfl ⟨s.es, s.clock, hb, hR⟩)
theorem Z0 (ht : C.P.underlying t = some (.map kt et)) (hx : OT C.N Γ x (IsV (mp g))) (hm : Ju g enc V m s ∈ L) :
 Yp C Γ L ⟨dst, .range t x, ty, pos, after, guard⟩ [] (Nat × IS) (fun r => IsV (pt r.1 0)) (fun r => [K4 r.1 g r.2]) (fun r => Jk m s r.2 (keys m) none) := by
 intro a w H f st ow Q K hK
 obtain ⟨hb, hR⟩ := ow.all _ hm
 have hv : a.eval x = .map (some g) := hx a H f
 have hrun : (execOp a.eval ⟨dst, .range t x, ty, pos, after, guard⟩).run C.P w = .ok (.value (pt w.heap.size 0)) (w.alloc (.mapIter (some g) s.clock #[] s.clock)) := by
  have := run_range_map (P := C.P) w t kt et g s.es s.clock ht hb
  simp only [execOp, hv, Sem.run_bind, this, Result.andThen]
  rfl
 simp only [Oper.wp, hrun, Oper.upon_value]
 refine hK (w.heap.size, ⟨s.clock, #[], s.clock⟩) _ _ H ?_ (Wc st.on _) rfl (Kp (J := K4 w.heap.size g ⟨s.clock, #[], s.clock⟩) (heap_alloc_new w _) (.inr rfl) (by simp) st.on)
 exact ⟨fun e he => hR.lt e he, Nat.le_refl _, Nat.le_refl _, hR.nd, fun k h => h, fun j e k h1 h2 => ⟨fun _ => List.mem_of_getElem? h2, fun _ => by simp⟩, fun k h => by cases h⟩
theorem Z1 (hx : OT C.N Γ x (IsV (pt r 0))) (hm : Ju g enc V m s ∈ L) (hp : List.Perm L (K4 r g i :: R)) (ho : Jk m s i todo cur) :
 Yp C Γ L ⟨dst, .next x false, ty, pos, after, guard⟩ [K4 r g i] (IS × Option κ) (fun q => Qvo q.2.isSome) (fun q => [K4 r g q.1]) (fun q => match q.2 with
  | none => todo = [] ∧ Jk m s q.1 todo none
  | some k => k ∈ todo ∧ Jk m s q.1 (todo.erase k) (some k)) := by
 intro a w H f st ow Q K hK
 obtain ⟨hb, hR⟩ := ow.all _ hm
 have o' := ow.perm hp
 have hr : w.heap[r]? = some (.mapIter (some g) i.since i.seen i.c0) := o'.all _ List.mem_cons_self
 have hown := o'.own r (Xn (i := K4 r g i) List.mem_cons_self rfl)
 have hxv : a.eval x = pt r 0 := hx a H f
 have hlt : r < w.heap.size := (Array.getElem?_eq_some_iff.1 hr).1
 rcases run_next_at (P := C.P) w ty r g i.since i.c0 i.seen s.es s.clock hr hb ho.old ho.le with ⟨h0, hrun⟩ | ⟨e, he, w1, hw1, hrun⟩
 · have htodo : todo = [] := by
    refine List.eq_nil_iff_forall_not_mem.2 fun k hk => ?_
    obtain ⟨j, hj, hkj⟩ := List.getElem_of_mem (ho.sub k hk)
    have hjl : j < s.es.toList.length := by have h9 := hR.len; simp [keys] at hj; simp; omega
    have hl := (ho.left j s.es.toList[j] k (List.getElem?_eq_getElem hjl) (by rw [List.getElem?_eq_getElem hj, hkj])).2 hk
    have : s.es.toList[j] ∈ (leftOf s.es i.seen).toList := by
     unfold leftOf
     rw [Array.toList_filter, List.mem_filter]
     exact ⟨List.getElem_mem hjl, by rw [hl]; rfl⟩
    have h1 := List.length_pos_of_mem this
    rw [Array.length_toList] at h1
    omega
   have hrun2 : (execOp a.eval ⟨dst, .next x false, ty, pos, after, guard⟩).run C.P w = .ok (.value (.tuple #[.bool false])) w := by
    simp only [execOp, hxv, Sem.run_bind, show (pt r 0) = Value.pointer (some ⟨r, 0, none⟩) from rfl, hrun, Result.andThen]
    rfl
   simp only [Oper.wp, hrun2, Oper.upon_value]
   refine hK (i, none) _ _ H ⟨htodo, ho.old, ho.le, ho.lc, ho.nd, ho.sub, ho.left, fun k h => by cases h⟩ (Y4 (row := none) st.on ⟨rfl, rfl, rfl, by simp, fun k hk hne => rfl⟩ fun k hk => by cases hk) ⟨[], rfl⟩ ?_
   exact Js (I := K4 r g i) (J := K4 r g i) rfl rfl hr o' (by simp)
 unfold leftOf at he
 rw [Array.toList_filter, List.mem_filter] at he
 obtain ⟨he1, he2⟩ := he
 obtain ⟨j, hj, hej⟩ := List.getElem_of_mem he1
 have hje : s.es.toList[j]? = some e := by rw [List.getElem?_eq_getElem hj, hej]
 have hjk : j < (keys m).length := by have h9 := hR.len; simp [keys]; simp at hj; omega
 obtain ⟨k, hk⟩ : ∃ k, (keys m)[j]? = some k := ⟨_, List.getElem?_eq_getElem hjk⟩
 have hkt : k ∈ todo := (ho.left j e k hje hk).1 (by simpa using he2)
 have hheap1 : w1.heap = w.heap := by rcases hw1 with rfl | rfl <;> rfl
 have hrun2 : (execOp a.eval ⟨dst, .next x false, ty, pos, after, guard⟩).run C.P w = .ok (.value (.tuple #[.bool true, e.key, e.val])) (setBlock w1 r (.mapIter (some g) i.since (i.seen.push e.born) s.clock)) := by
  simp only [execOp, hxv, Sem.run_bind, show (pt r 0) = Value.pointer (some ⟨r, 0, none⟩) from rfl, hrun, Result.andThen]
  rfl
 simp only [Oper.wp, hrun2, Oper.upon_value]
 have hset : (setBlock w1 r (.mapIter (some g) i.since (i.seen.push e.born) s.clock)).heap = w.heap.setIfInBounds r (.mapIter (some g) i.since (i.seen.push e.born) s.clock) := by show w1.heap.setIfInBounds _ _ = _; rw [hheap1]
 refine hK (⟨i.since, i.seen.push e.born, s.clock⟩, some k) _ _ H ⟨hkt, ho.old, ho.lc, ho.lc, ho.nd.erase k, fun k' h => ho.sub k' (List.mem_of_mem_erase h), fun j' e' k' h1 h2 => ?_, fun k' h => ?_⟩ (Y4 (row := some r) st.on ⟨?_, ?_, ?_, ?_, fun k' hk' hne => ?_⟩ fun k' hk' => by cases hk'; exact ⟨hown.2.1, Xn (i := K4 r g i) List.mem_cons_self rfl⟩) ⟨[e.key, e.val], rfl⟩ ?_
 · have hl := ho.left j' e' k' h1 h2
   rw [ho.nd.mem_erase_iff]
   by_cases hjj : j' = j
   · subst hjj
     rw [hje] at h1; cases h1
     rw [hk] at h2; cases h2
     simp
   have hbn : e'.born ≠ e.born := fun hbe => by
    refine hjj ?_
    have a1 : j' < (s.es.toList.map (·.born)).length := by rw [List.length_map]; exact (List.getElem?_eq_some_iff.1 h1).1
    have a2 : j < (s.es.toList.map (·.born)).length := by rw [List.length_map]; exact hj
    refine Qmj hR.bn a1 a2 ?_
    rw [List.getElem_map, List.getElem_map, (List.getElem?_eq_some_iff.1 h1).2, hej]; exact hbe
   have hkk : k' ≠ k := fun hke => by
    refine hjj ?_
    have a1 : j' < (keys m).length := (List.getElem?_eq_some_iff.1 h2).1
    refine Qmj hR.nd a1 hjk ?_
    rw [(List.getElem?_eq_some_iff.1 h2).2, (List.getElem?_eq_some_iff.1 hk).2]; exact hke
   have hc : (i.seen.push e.born).contains e'.born = i.seen.contains e'.born := by
    rw [Bool.eq_iff_iff]
    simp [Array.contains_iff_mem, Array.mem_push, hbn]
   rw [hc, hl]
   exact ⟨fun h => ⟨hkk, h⟩, fun h => h.2⟩
 · cases h
   exact ⟨rfl, j, e, i.seen, hje, hk, rfl⟩
 · rcases hw1 with rfl | rfl <;> rfl
 · rcases hw1 with rfl | rfl <;> rfl
 · rcases hw1 with rfl | rfl <;> rfl
 · rw [hset]; simp
 · have : k' ≠ r := fun e => hne (by rw [e])
   rw [hset]; simp [Array.getElem?_setIfInBounds, Ne.symm this]
 exact Js (I := K4 r g i) (J := K4 r g ⟨i.since, i.seen.push e.born, s.clock⟩) rfl rfl (by show (setBlock _ _ _).heap[r]? = _; rw [hset]; simp [hlt]) o' (by rw [hset]; simp)
theorem J6 {b : Bool} (hx : OT C.N Γ x (Qvo b)) : Pure C Γ L ⟨dst, .extract x 0, ty, pos, after, guard⟩ (Xe b) := fun a w H f s ow => by
 obtain ⟨l, hv⟩ := hx a H f
 exact ⟨.bool b, by simp [execOp, Instr.extract, hv], rfl⟩
theorem Ye {D : Ty} {v : α} (hx : OT C.N Γ x (IsV (pt r 0))) (hr : K4 r g i ∈ L) (hm : Ju g enc V m s ∈ L) (ho : Jk m s i todo (some k)) (hl : lkp k m = some v) (hD : ∀ H, D.p H (enc k)) :
 Pure C Γ L ⟨dst, .entry x, ty, pos, after, guard⟩ (Y1 [D, V v]) := fun a w H f st ow => by
 obtain ⟨hb, hR⟩ := ow.all _ hm
 have hr1 : w.heap[r]? = some (.mapIter (some g) i.since i.seen i.c0) := ow.all _ hr
 have hxv : a.eval x = pt r 0 := hx a H f
 obtain ⟨hc, j, e, seen, h1, h2, h3⟩ := ho.at_ k rfl
 obtain ⟨v', h4, h5, h6⟩ := hR.at_ h1 h2
 have hvv : v' = v := by have := Qhf hR.nd h4; rw [hl] at this; exact (Option.some.inj this).symm
 subst hvv
 rw [h3, hc] at hr1
 have hrun := run_entry_at (P := C.P) w r g i.since seen s.es s.clock e hr1 hb (List.mem_of_getElem? h1) hR.bn
 refine ⟨.tuple #[e.key, e.val], ?_, [e.key, e.val], rfl, ?_⟩
 · simp only [execOp, hxv, Sem.run_bind, show (pt r 0) = Value.pointer (some ⟨r, 0, none⟩) from rfl, hrun, Result.andThen]
   rfl
 exact ⟨by rw [h5]; exact hD H, h6, trivial⟩
theorem Qgj {ts : Array TypeId} (mk : Ky C.P kt K enc) (ht : C.P.underlying t = some (.map kt et)) (hts : ts[0]? = some t) (hx : OT C.N Γ x (IsV (mp g))) (hp : List.Perm L (Ju g enc V m s :: R)) (hy : OT C.N Γ y (K.T k)) :
 Yp C Γ L ⟨dst, .call ⟨.builtin .delete, #[x, y], ts⟩, ty, pos, after, guard⟩ [Ju g enc V m s] MS (fun _ => Yu) (fun s' => [Ju g enc V (dlk k m) s']) (fun s' => ∀ i todo cur, Jk m s i todo cur → k ∉ todo → Jk (dlk k m) s' i todo none) := by
 intro a w H f st ow Q K' hK
 have o' := ow.perm hp
 obtain ⟨hb, hR⟩ := o'.all _ List.mem_cons_self
 have hown := o'.own g (Xn (i := Ju g enc V m s) List.mem_cons_self rfl)
 have hxv : a.eval x = .map (some g) := hx a H f
 have hyv : a.eval y = enc k := mk.val (hy a H f)
 have hfin : ∀ s' : MS, (execOp a.eval ⟨dst, .call ⟨.builtin .delete, #[x, y], ts⟩, ty, pos, after, guard⟩).run C.P w = .ok (.value (.tuple #[])) (K1 w g s'.es s'.clock) → J2 enc V H (dlk k m) s'.es s'.clock → (∀ i todo cur, Jk m s i todo cur → k ∉ todo → Jk (dlk k m) s' i todo none) → (Oper.mk dst (.call ⟨.builtin .delete, #[x, y], ts⟩) ty pos after guard).wp C.P a w K' Q := fun s' hrun hR' hφ => by
  simp only [Oper.wp, hrun, Oper.upon_value]
  refine hK s' _ _ H hφ (Qde st.on hown.2.1 (Xn (i := Ju g enc V m s) List.mem_cons_self rfl) _ _) trivial ?_
  exact Js (I := Ju g enc V m s) (J := Ju g enc V (dlk k m) s') rfl rfl ⟨Ue hb, hR'⟩ o' (by simp)
 rcases Qae (k := k) mk hR w with ⟨h1, h2⟩ | ⟨j, e, v, h1, h2, h3, h4, h5⟩
 · refine hfin s ?_ (by rw [J5 h2]; exact hR) fun i todo cur ho hk => by rw [J5 h2]; exact ⟨ho.old, ho.le, ho.lc, ho.nd, ho.sub, ho.left, fun k h => by cases h⟩
   have hr : (Builtin.delete_ ts ty #[.map (some g), enc k]).run C.P w = .ok (.tuple #[]) (K1 w g s.es s.clock) := by simp [Builtin.delete_, hts, run_underlying ht, MapKept.run_getObj_map hb, mk.chk, h1, MapKept.run_setObj_map _ hb, Result.andThen]
   simp [execOp, resolve, invoke, builtin, hxv, hyv, hr, Result.andThen]
 have hj : j < m.length := (List.getElem?_eq_some_iff.1 h3).1
 have hl : (s.es.eraseIdxIfInBounds j).toList = s.es.toList.eraseIdx j := by
  unfold Array.eraseIdxIfInBounds
  rw [dif_pos (by rw [hR.len]; exact hj)]; simp
 have hkd : keys (dlk k m) = (keys m).eraseIdx j := by rw [Qck hR.nd h3]; unfold keys; rw [W6]
 refine hfin ⟨s.es.eraseIdxIfInBounds j, s.clock⟩ ?_ (hR.erase_ h3) fun i todo cur ho hk => ⟨fun e he => ho.old e ?_, ho.le, ho.lc, ho.nd, fun k' h => ?_, fun j' e' k' h6 h7 => ?_, fun k h => by cases h⟩
 · have hr : (Builtin.delete_ ts ty #[.map (some g), enc k]).run C.P w = .ok (.tuple #[]) (K1 w g (s.es.eraseIdxIfInBounds j) s.clock) := by simp [Builtin.delete_, hts, run_underlying ht, MapKept.run_getObj_map hb, mk.chk, h1, MapKept.run_setObj_map _ hb, Result.andThen]
   simp [execOp, resolve, invoke, builtin, hxv, hyv, hr, Result.andThen]
 · have he : e ∈ (s.es.eraseIdxIfInBounds j).toList := he
   rw [hl] at he; exact (List.eraseIdx_sublist _ _).subset he
 · have h8 := ho.sub k' h
   have hne : k' ≠ k := fun e => hk (e ▸ h)
   obtain ⟨j2, hj2, hjk⟩ := List.getElem_of_mem h8
   obtain ⟨v2, hv2⟩ : ∃ v2, (k', v2) ∈ m := by
    obtain ⟨p, hp1, hp2⟩ := List.mem_map.1 h8
    exact ⟨p.2, by rw [← hp2]; exact hp1⟩
   have h9 : lkp k' (dlk k m) = lkp k' m := by rw [Ut hR.nd, if_neg (fun e => hne e.symm)]
   refine Classical.byContradiction fun hc => ?_
   have := Xx.2 hc
   rw [h9] at this
   exact Xx.1 this h8
 have h6 : (s.es.eraseIdxIfInBounds j).toList[j']? = some e' := h6
 rw [hl, List.getElem?_eraseIdx] at h6
 rw [hkd, List.getElem?_eraseIdx] at h7
 by_cases hjj : j' < j
 · rw [if_pos hjj] at h6 h7; exact ho.left j' e' k' h6 h7
 rw [if_neg hjj] at h6 h7; exact ho.left (j' + 1) e' k' h6 h7
end
end Go.Gw
namespace Go.Gw
open Go
section
variable {C : Cx} {Γ : Env} {L R J : List It} {Q : Exit → Act → World → Prop} {ops : Array Oper} {rest : List Oper}
theorem Ug {o : Oper} {T : Ty} {φ : Unit → Prop} {j d : Nat} {want b : Bool} {p : Prop} (hg : o.guard = some (j, want)) (hj : (ops[j]?).bind (·.dst) = some d) (hdN : decide (d < C.N) = true) (hb : OT C.N Γ (.tmp d) (GuT p (Xe b)))
 (hL : List.Perm L (J ++ R)) (hp : p ∧ b = want → Yp C Γ L o J Unit (fun _ => T) (fun _ => J) φ) (hd : Wb C.N o.dst = true) (h : Tr C (upd o.dst (GuT (p ∧ b = want) T) Γ) L (wpList C.P ops Q rest)) : Tr C Γ L (wpList C.P ops Q (o :: rest)) := by
 intro a w H f s ow
 have hw := Wq f hg hj hdN hb
 refine wpList_step fun K hK => ?_
 by_cases hc : p ∧ b = want
 · rw [if_pos (hw.2 hc)]
   refine hp hc a w H f s ow Q K fun r v w' H' hφ s' hv ho => hK _ _ ?_
   have ow' := ow.perm hL
   have hM : ∀ k, k ∈ X8 J → C.M k ∨ C.w0.heap.size ≤ k := fun k hk => (ow'.left.own k hk).2.2
   refine h _ w' H' ((f.mono s'.sub).put o.dst hd ⟨fun _ => hv, fun hn => absurd hc hn⟩) (s.trans s' hM) (Xu.perm ?_ hL.symm)
   refine Xu.append (ho.mono fun g _ hg => ?_) (ow'.right.st s' fun g hg hj => ow'.apart g hj hg) fun g hg hr => ?_
   · rcases hg with hg | hg
     · exact hM g hg
     exact .inr (Nat.le_trans s.size hg)
   rcases (ho.own g hg).2.2 with h1 | h1
   · exact ow'.apart g h1 hr
   have := (ow'.right.own g hr).1; omega
 rw [if_neg (fun e => hc (hw.1 e))]
 exact hK _ _ (h _ w H (f.put o.dst hd ⟨fun e => absurd e hc, fun _ => rfl⟩) s ow)
theorem Qqo {o : Oper} {T : Ty} {j d : Nat} {want b : Bool} {p : Prop} (hg : o.guard = some (j, want)) (hj : (ops[j]?).bind (·.dst) = some d) (hdN : decide (d < C.N) = true) (hb : OT C.N Γ (.tmp d) (GuT p (Xe b)))
 (h : p ∧ b = want → Qok C Γ L L ops { o with guard := none } T) : Qok C Γ L L ops o (GuT (p ∧ b = want) T) := fun a w H f s ow Q K hK => by
 have hw := Wq f hg hj hdN hb
 by_cases hc : p ∧ b = want
 · rw [if_pos (hw.2 hc)]
   have := h hc a w H f s ow Q K fun v w' H' hs s' o' hv => hK v w' H' hs s' o' ⟨fun _ => hv, fun hn => absurd hc hn⟩
   rw [if_pos (by simp [Region.wanted])] at this
   exact this
 rw [if_neg (fun e => hc (hw.1 e))]
 exact hK undef w H (Sub.refl _) s ow ⟨fun e => absurd e hc, fun _ => rfl⟩
end
end Go.Gw
namespace Go.Vl
open Go Go.Gw
theorem Q40 (r : Int) : IntKind.u8.wrap r = r % 256 := by
 simp [IntKind.wrap, IntKind.bits, IntKind.signed]
abbrev enc (r : Int) : List UInt8 := Lib.encodeRune r
end Go.Vl
namespace Go.Vl
open Go Go.Gw
theorem wrap64 {x : Int} (h0 : 0 ≤ x) (h1 : x < 18446744073709551616) : IntKind.u64.wrap x = x := by
 simp [IntKind.wrap, IntKind.bits, IntKind.signed]; omega
theorem Q2g {x y : Nat} (hx : x < 18446744073709551616) (hy : y < 18446744073709551616) : Qg5 .xor .u64 (x : Int) (y : Int) = ((x ^^^ y : Nat) : Int) := by
 have h : x ^^^ y < 2 ^ 64 := Nat.xor_lt_two_pow hx hy
 show IntKind.u64.wrap (((BitVec.ofInt 64 (x : Int)) ^^^ (BitVec.ofInt 64 (y : Int))).toNat : Int) = _
 rw [BitVec.toNat_xor, ofInt_u64 x hx, ofInt_u64 y hy]
 exact wrap64 (by omega) (by omega)
theorem Q5u {x y : Nat} (hx : x < 18446744073709551616) (hy : y < 18446744073709551616) : Qg5 .or .u64 (x : Int) (y : Int) = ((x ||| y : Nat) : Int) := by
 have h : x ||| y < 2 ^ 64 := Nat.or_lt_two_pow hx hy
 show IntKind.u64.wrap (((BitVec.ofInt 64 (x : Int)) ||| (BitVec.ofInt 64 (y : Int))).toNat : Int) = _
 rw [BitVec.toNat_or, ofInt_u64 x hx, ofInt_u64 y hy]
 exact wrap64 (by omega) (by omega)
end Go.Vl
namespace Go.Proofs.YtklhdalppmjnaaaGreatDoor
open Go Go.Gw Go.So Go.Tu
variable {K0 : FH} {n0 : Nat}
abbrev kFF (K0 : FH) (n0 : Nat) : Kd (List Tp) := kfr K0 n0 (kF K0 n0)
abbrev kDF (K0 : FH) (n0 : Nat) : Kd Dl := Xo (kFF K0 n0) (kFF K0 n0)
theorem Q30 : Xw Tryz.prog 38 (kDF K0 n0) ([], []) := ⟨.agg #[Qo, Qo], by kernel_rfl, fun H => ⟨[Qo, Qo], ⟨[Qo], [Qo], ⟨Qo, rfl, ⟨none, 0, rfl, by simp, by simp, fun h => by simp at h⟩, trivial, trivial⟩, ⟨Qo, rfl, ⟨none, 0, rfl, by simp, by simp, fun h => by simp at h⟩, trivial, trivial⟩, rfl⟩, rfl⟩⟩
theorem Qc0 (a b : List Tp) (ha : Small a) (hb : Small b) (ra : Xa a = true) (rb : Xa b = true) : Ct Tryz.prog 43 [SlT kT a, SlT kT b] [] Unit (fun _ => Y1 [SlT kT (Qs a b), SlT kT (Y5 a b), SlT kT (Qs b a)]) (fun _ => []) (fun _ => True) := by
 have h := Qxx a b ha.1 hb.1
 rw [Qcn (Jt.1 ra) (Jt.1 rb)] at h; exact h
theorem Q2p (a b : List Tp) : (!([a, b].any fun l => !Xa l)) = (Xa a && Xa b) := by cases h1 : Xa a <;> cases h2 : Xa b <;> simp [h1, h2]
theorem Q2q (a b c : List Tp) : (!([a, b, c].any fun l => !Xa l)) = (Xa a && Xa b && Xa c) := by cases h1 : Xa a <;> cases h2 : Xa b <;> cases h3 : Xa c <;> simp [h1, h2, h3]
theorem Q2r (a b c d : List Tp) : (!([a, b, c, d].any fun l => !Xa l)) = (Xa a && Xa b && Xa c && Xa d) := by cases h1 : Xa a <;> cases h2 : Xa b <;> cases h3 : Xa c <;> cases h4 : Xa d <;> simp [h1, h2, h3, h4]

/-- rhizome/tuple.sets$1 -/
theorem Qxz (x : List Tp) : Ct Tryz.prog 73 [SlT kT x] ([]) Unit (fun _ => Xe (!Xa x)) (fun _ => []) (fun _ => True) := by
 refine Qn Tryz.func73 rfl rfl ?_
 intro H w
 refine sq (rg (ak rfl (tn (nn (sq (rg (mv rfl rfl (oA (aC (Qtg _) ygf (oc oz oN) pR) pR rfl rfl (fun _ _ => ?_)))))))))
 refine oP (Zf oz) rfl (av rfl rfl (tn (nn (tR ?_))))
 exact Qi .ret (.inl rfl) rfl () oz trivial (by exact pn)
/-- slices.IndexFunc[[][]rhizome/api.Tuple,[]rhizome/api.Tuple] -/
theorem Q1i (xs : List (List Tp)) (fv : Value) (p : List Tp → Bool) (hm : xs.length ≤ 1000000) (hfv : ∀ x, CtV Tryz.prog fv [kL.T x] [] Unit (fun _ => Xe (p x)) (fun _ => []) (fun _ => True)) : Ct Tryz.prog 109 [SlT kL xs, IsV fv] ([]) Int (fun r => I64 r) (fun _ => []) (fun r => (decide (0 ≤ r)) = xs.any p) := by
 refine Qn Tryz.func109 rfl rfl ?_
 intro H w
 refine sq (rg (ak rfl (tn (nn (sq (sq (rg (mv rfl rfl (oP (pls oz Tryz.underlying146) rfl (oP (Qm ot) rfl (tn (nn (tb (Qt (σ := Nat) (e2 0 1 rfl (ec 7 rfl en)) (fun k => [(8, I64 (k : Int))]) (fun k => []) (fun k => k ≤ xs.length ∧ (xs.drop k).any p = xs.any p) (fun k => xs.length - k) 0 ⟨Nat.zero_le _, rfl⟩ ?_ (op (by exact pn)) ?_))))))))))))))
 · exact (ec 8 rfl en)
 · rintro k ⟨hk, hk2⟩
   refine sq (rg (oP (Q5 oz oz) rfl (tn (nn (sq (tc oz (fun c9 => ?_) (fun c9 => ?_)))))))
   · try simp only [cq] at c9
     refine sk (nn (sq (tb (sq (rg (mv rfl rfl (av rfl rfl (tn (nn (sq ?_))))))))))
     have hst := Ql6 (l := xs) (p := p) (k := k) (by omega)
     refine rg (mv rfl rfl (mv rfl rfl (mv rfl rfl (oP (Qj oz oz Tryz.underlying146 y1z (by omega) (by omega)) rfl (oP (pL oz y1z) rfl (oA (Z6 oz (hfv _) (oc oz oN) pR) pR rfl rfl (fun _ _ => ?_)))))))
     refine tn (nn (tc oz (fun c16 => ?_) (fun c16 => ?_)))
     · try simp only [cq] at c16
       refine sq (rg (mv rfl rfl (av rfl rfl (tn (nn (tR (Qw (tt (tt (Qw (tt ?_)))))))))))
       exact Qi .ret (.inl rfl) rfl (k : Int) oz (by rw [← hk2, hst, c16, Bool.true_or]; simp) (by exact pn)
     try simp only [cq] at c16
     refine sk (bn (nn (rg (oP (pad oz ot (by omega)) rfl (mv rfl rfl (tn (nn ?_)))))))
     exact tg (k + 1) ⟨by omega, by rw [← hk2, hst, c16, Bool.false_or]⟩ (by omega) ef (op (by exact pn))
   try simp only [cq] at c9
   refine Qx (tx (tx (bh (nn (sq (rg (ak rfl (tn (nn (tR ?_))))))))))
   exact Qi .ret (.inl rfl) rfl (-1) oz (by rw [← hk2, List.drop_of_length_le (by omega)]; rfl) (by exact pn)
/-- slices.ContainsFunc[[][]rhizome/api.Tuple,[]rhizome/api.Tuple] -/
theorem Q1j (xs : List (List Tp)) (fv : Value) (p : List Tp → Bool) (hm : xs.length ≤ 1000000) (hfv : ∀ x, CtV Tryz.prog fv [kL.T x] [] Unit (fun _ => Xe (p x)) (fun _ => []) (fun _ => True)) : Ct Tryz.prog 72 [SlT kL xs, IsV fv] ([]) Unit (fun _ => Xe (xs.any p)) (fun _ => []) (fun _ => True) := by
 refine Qn Tryz.func72 rfl rfl ?_
 intro H w
 refine sq (rg (ak rfl (tn (nn (sq (rg (mv rfl rfl (mv rfl rfl (oA (aC (Q1i _ _ p (by assumption) (by assumption)) yzo (oc oz (oc oz oN)) pR) pR rfl rfl (fun r1_2 hr1_2 => ?_))))))))))
 refine oP (Vi oz ot) rfl (av rfl rfl (tn (nn (tR ?_))))
 exact Qi .ret (.inl rfl) rfl () (OT.val oz (congrArg Value.bool hr1_2)) trivial (by exact pn)
/-- rhizome/tuple.sets -/
theorem Qlk (xs : List (List Tp)) (hm : xs.length ≤ 1000000) : Ct Tryz.prog 42 [SlT kL xs] ([]) Unit (fun _ => Xe (!(xs.any fun l => !Xa l))) (fun _ => []) (fun _ => True) := by
 refine Qn Tryz.func42 rfl rfl ?_
 intro H w
 refine sq (rg (ak rfl (tn (nn (sq (rg (mv rfl rfl (oA (aC (Q1j _ _ (fun l => !Xa l) (by assumption) (fun x => CtV.of0 (Qxz x) (by kernel_rfl))) y0k (oc oz (oc OT.func oN)) pR) pR rfl rfl (fun _ _ => ?_)))))))))
 refine oP (Zf oz) rfl (av rfl rfl (tn (nn (tR ?_))))
 exact Qi .ret (.inl rfl) rfl () oz trivial (by exact pn)
/-- rhizome/tuple.Diff -/
theorem Q1k (a b : List Tp) (hs : Small a) (hb : Small b) : CtM K0 n0 Tryz.prog 214 [SlT kT a, SlT kT b] ([]) Unit (fun _ => Y1 [(kDF K0 n0).T (Qbg a b).1, I64 (Qbg a b).2]) (fun _ => []) (fun _ => True) := by
 refine Vy Tryz.func214 rfl rfl ?_
 intro H w hK hn
 refine sq (rg (oA (Qz ((Q30 (K0 := K0) (n0 := n0)))) pR rfl rfl (fun g0_0 _ => ?_)))
 refine ak rfl (tn (nn (sq (sq (rg (mv rfl rfl (mv rfl rfl (oA (Q7 (d := kL) (v0 := []) yx4 y1z z40 (show 2 * 1 ≤ 16777216 from by decide) (by decide) (Qv rfl rfl (by decide) oz (Qv rfl rfl (by decide) oz Qc))) pR rfl rfl (fun _ _ => ?_)))))))))
 refine oA (aC (Qlk [a, b] (by simp)) y9u (oc oz oN) pR) pR rfl rfl (fun _ _ => ?_)
 refine oP (Zf oz) rfl (tn (nn (tc oz (fun c13 => ?_) (fun c13 => ?_))))
 · rw [Q2p] at c13
   have hd : Qbg a b = (([], []), 1) := by rw [Qbg, if_neg (by rw [Bool.not_eq_true'] at c13; rw [c13]; simp)]
   refine sq (rg (oP (Zb (d := kDF K0 n0) (v0 := ([], [])) (ps := [(0, 1), (1, 1)]) (Q30 (K0 := K0) (n0 := n0)) (by kernel_rfl) rfl Qc) rfl (oA (asv oz oz (pA 0 rfl) yh2) (pA 0 rfl) rfl rfl (fun _ _ => ?_))))
   refine ak rfl (tn (nn (tR (tt ?_))))
   exact Zl .ret (.inl rfl) rfl () oz (mA 0 rfl) yh2 oz (fun _ _ h => (by rw [hd]; exact h)) trivial (by exact pn)
 rw [Q2p] at c13
 have hc : (Xa a && Xa b) = true := by simpa using c13
 have hd : Qbg a b = ((Qs b a, Qs a b), 0) := by rw [Qbg, if_pos hc]
 obtain ⟨hra, hrb⟩ := Bool.and_eq_true_iff.1 hc
 refine sk (nn (sq (rg (mv rfl rfl (mv rfl rfl (oA (aC (Qc0 a b hs hb hra hrb) yb7 (oc oz (oc oz oN)) pR) pR rfl rfl (fun _ _ => ?_)))))))
 refine mv rfl rfl (oP (Qd oz rfl) rfl (oP (Qd oz rfl) rfl (oP (Qd oz rfl) rfl (av rfl rfl (av rfl rfl (av rfl rfl (tn (nn (sq (rg (mv rfl rfl (oA (Zo (Qpl (Qs b a) (hb.without a)) (Qc8 hK hn) ykz (oc oz oN) pR) pR rfl rfl (fun v4_1 _ => ?_)))))))))))))
 refine mv rfl rfl (oA (Zo (Qpl (Qs a b) (hs.without b)) (Qc8 hK hn) ykz (oc oz oN) pR) pR rfl rfl (fun v4_3 _ => ?_))
 refine Kx (Qc8 hK hn) (fun g => Ua) (pA 1 rfl) 23 oz (Kx (Qc8 hK hn) (fun g => Ua) (pA 0 rfl) 25 oz (oP (Zb (d := kDF K0 n0) (v0 := ([], [])) (ps := [(0, 1), (1, 1)]) (Q30 (K0 := K0) (n0 := n0)) (by kernel_rfl) rfl (Qk rfl (Qf.fst (a := kFF K0 n0) (b := kFF K0 n0)) oz (Qk rfl (Qf.snd (a := kFF K0 n0) (b := kFF K0 n0)) oz Qc))) rfl (oA (asv oz oz (pA 0 rfl) yh2) (pA 0 rfl) rfl rfl (fun _ _ => ?_))))
 refine ak rfl (tn (nn (tR ?_)))
 exact Zl .ret (.inl rfl) rfl () oz (mA 0 rfl) yh2 oz (fun _ _ h => (by rw [hd]; exact h)) trivial (by exact pn)
end Go.Proofs.YtklhdalppmjnaaaGreatDoor
namespace Go.Proofs.YtklhdalppmjnaaaGreatDoor
open Go Go.Gw Go.So Go.Tu
variable {K0 : FH} {n0 : Nat}
/-- slices.Grow[[]rhizome/api.Tuple,rhizome/api.Tuple] -/
theorem Q1l (n : Nat) (hm : n ≤ 1000000) : Ct Tryz.prog 110 [IsV Qo, I64 (n : Int)] ([]) Value (fun r => IsV r) (fun r => [Qh 51 kT r []]) (fun _ => True) := by
 refine Qn Tryz.func110 rfl rfl ?_
 intro H w
 refine sq (rg (ak rfl (tn (nn (sq (sq (rg (mv rfl rfl (oP (Q5 oz ot) rfl (tn (nn (tc oz (fun c6 => ?_) (fun c6 => ?_)))))))))))))
 · try simp only [cq] at c6
   exact absurd c6 (by omega) --done
 · try simp only [cq] at c6
   refine sk (nn (sq (sq (rg (mv rfl rfl (mv rfl rfl (oP (Qhe oz Tryz.underlying36) rfl (mv rfl rfl (oP (Qhd oz Tryz.underlying36) rfl (oP (Kb oz oz (by omega)) rfl (oP (Kb oz oz (by omega)) rfl (av rfl rfl (tn (nn (sq (rg (mv rfl rfl (oP (Y3 oz ot) rfl (tn (nn (tc oz (fun c16 => ?_) (fun c16 => ?_))))))))))))))))))))))
   · try simp only [cq] at c16
     refine rg (mv rfl rfl (mv rfl rfl (oP (Qhe oz Tryz.underlying36) rfl (oP (Qkm oz oz Tryz.underlying36 yko) rfl (mv rfl rfl (oA (Qfk (d := kT) (v0 := []) oz oz yiy Tryz.underlying3 yko z38 (by omega) (by omega) (by (simp [maxLen]; omega))) pR rfl rfl (fun v5_5 _ => ?_)))))))
     refine mv rfl rfl (oP (Qhd oz Tryz.underlying36) rfl (oA (Jh oz (pA 0 rfl) oz Tryz.underlying36 yko (by omega) (by omega)) (pA 0 rfl) rfl rfl (fun v5_8 _ => ?_)))
     refine av rfl rfl (tn (nn (sq (rg (mv rfl rfl (av rfl rfl (tn (nn (tR ?_)))))))))
     exact Qi .ret (.inl rfl) rfl v5_8 oz trivial (by repeat first | exact pn | refine pc 0 rfl ?_)
   try simp only [cq] at c16
   refine Xg 51 kT (sk (nn (sq (rg (mv rfl rfl (av rfl rfl (tn (nn (tR ?_)))))))))
   exact Qi .ret (.inl rfl) rfl Qo oz trivial (by repeat first | exact pn | refine pc 0 rfl ?_)
/-- slices.Concat[[]rhizome/api.Tuple,rhizome/api.Tuple] -/
theorem Qti (ls : List (List Tp)) (hm : ls.length ≤ 1000000) (hf : ls.flatten.length ≤ 1000000) : Ct Tryz.prog 75 [SlT kL ls] ([]) Unit (fun _ => SlT kT ls.flatten) (fun _ => []) (fun _ => True) := by
 refine Qn Tryz.func75 rfl rfl ?_
 intro H w
 refine sq (rg (ak rfl (tn (nn (sq (rg (ak rfl (tn (nn (sq (sq (rg (mv rfl rfl (oP (pls oz Tryz.underlying146) rfl (oP (Qm ot) rfl (tn (nn (tb (Qt (σ := Nat) (e2 0 9 rfl (ec 10 rfl en)) (fun k => [(11, I64 (k : Int)), (3, I64 ((ls.take k).flatten.length : Int))]) (fun k => []) (fun k => k ≤ ls.length) (fun k => ls.length - k) 0 (Nat.zero_le _) ?_ (op (by exact pn)) ?_)))))))))))))))))))
 · exact (e2 11 3 rfl en)
 · rintro k hk
   refine sq (rg (oP (Q5 oz oz) rfl (tn (nn (sq (tc oz (fun c12 => ?_) (fun c12 => ?_)))))))
   · try simp only [cq] at c12
     refine sk (nn (sq (tb (sq ?_))))
     have hfl := Qp9 ls (k + 1)
     have htf := Qjh (ls := ls) (k := k) (by omega)
     rw [htf, List.length_append] at hfl
     refine rg (oP (Qj oz oz Tryz.underlying146 y1z (by omega) (by omega)) rfl (oP (pL oz y1z) rfl (av rfl rfl (tn (nn (sq (rg (mv rfl rfl (mv rfl rfl (oP (pls oz Tryz.underlying36) rfl (oP (pad oz oz (by omega)) rfl (av rfl rfl (tn (nn (sq (rg (mv rfl rfl (oP (Q5 oz ot) rfl (tn (nn (tc oz (fun c20 => ?_) (fun c20 => ?_))))))))))))))))))))))
     · try simp only [cq] at c20
       exact absurd c20 (by omega) --done
     try simp only [cq] at c20
     refine sk (bn (nn (rg (oP (pad oz ot (by omega)) rfl (mv rfl rfl (tn (nn ?_)))))))
     exact tg (k + 1) (by omega) (by omega) (ea (ec 11 rfl (Qy (t := 3) (OT.val oz (congrArg (Value.int _) (by rw [htf, List.length_append]; omega))) en)) ef) (op (by exact pn))
   try simp only [cq] at c12
   refine Qx (tx (tx (bh (nn (sq ?_)))))
   obtain rfl : k = ls.length := by omega
   rw [List.take_length]
   refine rg (mv rfl rfl (oA (aC (Q1l ls.flatten.length hf) yxc (oc ot (oc oz oN)) pR) pR rfl rfl (fun v9_1 _ => ?_)))
   refine av rfl rfl (tn (nn (sq (sq (rg (mv rfl rfl (oP (pls oz Tryz.underlying146) rfl (oP (Qm ot) rfl (tn (nn (tb (Qt (σ := Nat × Value) (e2 25 26 rfl en) (fun s => [(27, I64 (s.1 : Int)), (6, IsV s.2)]) (fun s => [Qh 51 kT s.2 (ls.take s.1).flatten]) (fun s => s.1 ≤ ls.length) (fun s => ls.length - s.1) (0, v9_1) (Nat.zero_le _) ?_ (op (by repeat first | exact pn | refine pc 0 rfl ?_)) ?_))))))))))))
   · exact (e2 27 6 rfl en)
   rintro ⟨k2, v⟩ hk2
   dsimp only at hk2 ⊢
   refine sq (rg (oP (Q5 oz oz) rfl (tn (nn (sq (tc oz (fun c28 => ?_) (fun c28 => ?_)))))))
   · try simp only [cq] at c28
     refine sk (nn (sq (tb (sq ?_))))
     have hfl2 := Qp9 ls (k2 + 1)
     have htf2 := Qjh (ls := ls) (k := k2) (by omega)
     rw [htf2, List.length_append] at hfl2
     refine rg (oP (Qj oz oz Tryz.underlying146 y1z (by omega) (by omega)) rfl (oP (pL oz y1z) rfl (av rfl rfl (tn (nn (rg (mv rfl rfl (mv rfl rfl (oA (Q0 oz (pA 0 rfl) oz yiy (by omega) (by (simp [maxLen] at *; omega))) (pA 0 rfl) rfl rfl (fun v13_2 _ => ?_))))))))))
     refine av rfl rfl (tn (bn (nn (rg (oP (pad oz ot (by omega)) rfl (mv rfl rfl (tn (nn ?_))))))))
     exact tg (k2 + 1, v13_2) (by show k2 + 1 ≤ ls.length; omega) (by omega) ef (op (by rw [htf2]; exact (by repeat first | exact pn | refine pc 0 rfl ?_)))
   try simp only [cq] at c28
   refine Qx (tx (tx (bh (nn (sq ?_)))))
   obtain rfl : k2 = ls.length := by omega
   rw [List.take_length]
   refine Xh (pA 0 rfl) 6 oz (rg (mv rfl rfl (av rfl rfl (tn (nn (tR ?_))))))
   exact Qi .ret (.inl rfl) rfl () oz trivial (by exact pn)
/-- rhizome/tuple.union -/
theorem Qiz (a b : List Tp) (hab : Small (a ++ b)) : CtM K0 n0 Tryz.prog 44 [SlT kT a, SlT kT b] ([]) Unit (fun _ => Yz K0 n0 (kF K0 n0) (Qc9 a b)) (fun _ => []) (fun _ => True) := by
 refine Vy Tryz.func44 rfl rfl ?_
 intro H w hK hn
 have hflat : [a, b].flatten = a ++ b := by simp
 have hfl : [a, b].flatten.length ≤ 1000000 := by rw [hflat]; exact hab.1
 refine sq (rg (ak rfl (tn (nn (sq (rg (mv rfl rfl (mv rfl rfl (oA (Q7 (d := kL) (v0 := []) yx4 y1z z40 (show 2 * 1 ≤ 16777216 from by decide) (by decide) (Qv rfl rfl (by decide) oz (Qv rfl rfl (by decide) oz Qc))) pR rfl rfl (fun _ _ => ?_))))))))))
 refine oA (aC (Qti [a, b] (by simp) hfl) y43 (oc oz oN) pR) pR rfl rfl (fun _ _ => ?_)
 rw [hflat]
 refine oA (Zo (Qdt (a ++ b) hab) (Qc8 hK hn) y07 (oc oz oN) pR) pR rfl rfl (fun _ _ => ?_)
 refine av rfl rfl (tn (nn (tR ?_)))
 exact Qi .ret (.inl rfl) rfl () oz trivial (by exact pn)
/-- rhizome/tuple.Empty -/
theorem Qx0 (x : Dl) (h1 : Small x.1) (h2 : Small x.2) : Ct Tryz.prog 25 [kD.T x] ([]) Unit (fun _ => Xe (decide ((x.1.length : Int) + x.2.length = 0))) (fun _ => []) (fun _ => True) := by
 refine Qn Tryz.func25 rfl rfl ?_
 intro H w
 have hl1 := h1.1
 have hl2 := h2.1
 refine sq (rg (oA (Xf (d := kD) oz) pR rfl rfl (fun g0_0 _ => ?_)))
 refine ak rfl (tn (nn (sq (rg (oP (pf oz ygo) rfl (oP (plb oz (mA 0 rfl) (Qf.fst (a := kL) (b := kL)) y1z) rfl (oP (pls oz Tryz.underlying36) rfl (oP (pf oz yan) rfl (oP (plb oz (mA 0 rfl) (Qf.snd (a := kL) (b := kL)) y1z) rfl (oP (pls oz Tryz.underlying36) rfl (oP (pad oz oz (by omega)) rfl (oP (Zs oz ot) rfl (av rfl rfl (tn (nn (tR ?_))))))))))))))))
 exact Qi .ret (.inl rfl) rfl () oz trivial (by exact pn)
/-- rhizome/tuple.Apply -/
theorem Qx1 (s : List Tp) (x : Dl) (hs : Few s) (h1 : Few x.1) (h2 : Few x.2) : CtM K0 n0 Tryz.prog 26 [SlT kT s, kD.T x] ([]) Unit (fun _ => Y1 [Yz K0 n0 (kF K0 n0) (Wu s x).1, I64 (Wu s x).2]) (fun _ => []) (fun _ => True) := by
 refine Vy Tryz.func26 rfl rfl ?_
 intro H w hK hn
 refine sq (rg (oA (Xf (d := kD) oz) pR rfl rfl (fun g0_0 _ => ?_)))
 refine ak rfl (ak rfl (tn (nn (sq (sq (rg (mv rfl rfl (oP (pf oz ygo) rfl (oP (plb oz (mA 0 rfl) (Qf.fst (a := kL) (b := kL)) y1z) rfl (oP (pf oz yan) rfl (oP (plb oz (mA 0 rfl) (Qf.snd (a := kL) (b := kL)) y1z) rfl (oA (Q7 (d := kL) (v0 := []) yx4 y1z z40 (show 3 * 1 ≤ 16777216 from by decide) (by decide) (Qv rfl rfl (by decide) oz (Qv rfl rfl (by decide) oz (Qv rfl rfl (by decide) oz Qc)))) pR rfl rfl (fun _ _ => ?_)))))))))))))
 refine oA (aC (Qlk [s, x.1, x.2] (by simp)) y9u (oc oz oN) pR) pR rfl rfl (fun _ _ => ?_)
 refine oP (Zf oz) rfl (tn (nn (tc oz (fun c19 => ?_) (fun c19 => ?_))))
 · rw [Q2q] at c19
   have hd : Wu s x = ([], 1) := by rw [Wu, if_pos (by rw [← c19]; cases Xa s <;> cases Xa x.1 <;> cases Xa x.2 <;> rfl)]
   refine sq (rg (ak rfl (ak rfl (tn (nn (tR (tt ?_)))))))
   exact Yb .ret (.inl rfl) rfl () (OT.eq (Qlj oz) (congrArg (Yz K0 n0 (kF K0 n0)) (by rw [hd]))) (OT.val oz (congrArg (Value.int _) (by rw [hd]))) (fun _ _ h => h) trivial (by exact pn)
 rw [Q2q] at c19
 obtain ⟨⟨ha, hb⟩, hc2⟩ : (Xa s = true ∧ Xa x.1 = true) ∧ Xa x.2 = true := by simpa using c19
 have hd0 : ¬ (!Xa s || !Xa x.1 || !Xa x.2) = true := by rw [ha, hb, hc2]; simp
 refine sk (nn (sq (sq (rg (mv rfl rfl (oP (pf oz ygo) rfl (oP (plb oz (mA 0 rfl) (Qf.fst (a := kL) (b := kL)) y1z) rfl (oA (aC (Qc0 s x.1 hs.small h1.small ha hb) yb7 (oc oz (oc oz oN)) pR) pR rfl rfl (fun _ _ => ?_)))))))))
 refine mv rfl rfl (oP (Qd oz rfl) rfl (oP (Qd oz rfl) rfl (oP (Qd oz rfl) rfl (av rfl rfl (av rfl rfl (av rfl rfl (tn (nn (sq (rg (mv rfl rfl (oP (pls oz Tryz.underlying36) rfl (oP (Y3 oz ot) rfl (tn (nn (tc oz (fun c30 => ?_) (fun c30 => ?_)))))))))))))))))
 · have hd : Wu s x = ([], 2) := by rw [Wu, if_neg hd0, if_pos ((K2 s x.1).1 (of_decide_eq_true c30))]
   refine sq (rg (ak rfl (ak rfl (tn (nn (tR (tt ?_)))))))
   exact Yb .ret (.inl rfl) rfl () (OT.eq (Qlj oz) (congrArg (Yz K0 n0 (kF K0 n0)) (by rw [hd]))) (OT.val oz (congrArg (Value.int _) (by rw [hd]))) (fun _ _ h => h) trivial (by exact pn)
 have hd1 : ¬ Jj x.1 s = true := fun e => of_decide_eq_false c30 ((K2 s x.1).2 e)
 refine sk (nn (sq (rg (mv rfl rfl (oP (pf oz yan) rfl (oP (plb oz (mA 0 rfl) (Qf.snd (a := kL) (b := kL)) y1z) rfl (oA (aC (Qc0 s x.2 hs.small h2.small ha hc2) yb7 (oc oz (oc oz oN)) pR) pR rfl rfl (fun _ _ => ?_))))))))
 refine mv rfl rfl (oP (Qd oz rfl) rfl (oP (Qd oz rfl) rfl (oP (Qd oz rfl) rfl (av rfl rfl (av rfl rfl (av rfl rfl (tn (nn (sq (sq (rg (mv rfl rfl (oP (pls oz Tryz.underlying36) rfl (oP (Y3 oz ot) rfl (tn (nn (tc oz (fun c41 => ?_) (fun c41 => ?_))))))))))))))))))
 · have hd : Wu s x = ([], 4) := by rw [Wu, if_neg hd0, if_neg hd1, if_pos (of_decide_eq_true c41)]
   refine sq (rg (ak rfl (ak rfl (tn (nn (tR (tt ?_)))))))
   exact Yb .ret (.inl rfl) rfl () (OT.eq (Qlj oz) (congrArg (Yz K0 n0 (kF K0 n0)) (by rw [hd]))) (OT.val oz (congrArg (Value.int _) (by rw [hd]))) (fun _ _ h => h) trivial (by exact pn)
 have hd : Wu s x = (Qc9 (Qs s x.2) x.1, 0) := by rw [Wu, if_neg hd0, if_neg hd1, if_neg (of_decide_eq_false c41)]
 refine sk (nn (sq (rg (mv rfl rfl (oP (pf oz ygo) rfl (oP (plb oz (mA 0 rfl) (Qf.fst (a := kL) (b := kL)) y1z) rfl (oA (Zo (Qiz (Qs s x.2) x.1 ((hs.without _).both h1)) (Qc8 hK hn) y4c (oc oz (oc oz oN)) pR) pR rfl rfl (fun _ _ => ?_))))))))
 refine av rfl rfl (ak rfl (tn (nn (tR ?_))))
 exact Yb .ret (.inl rfl) rfl () (OT.eq oz (congrArg (Yz K0 n0 (kF K0 n0)) (by rw [hd]))) (OT.val oz (congrArg (Value.int _) (by rw [hd]))) (fun _ _ h => h) trivial (by exact pn)
end Go.Proofs.YtklhdalppmjnaaaGreatDoor
namespace Go.Tu
open Go Go.Gw Go.So
theorem Qer {a b : List Tp} (h : ∀ z, z ∈ a → z ∉ b) : Jj a b = false := by
 rw [Bool.eq_false_iff]
 intro h1
 have h2 := (K2 b a).2 h1
 have h3 : 0 < (Y5 b a).length := by omega
 obtain ⟨z, hz⟩ := List.length_pos_iff_exists_mem.1 h3
 unfold Y5 at hz
 simp only [List.mem_filter, List.contains_iff_mem] at hz
 exact h z hz.2 hz.1
theorem Qk1 {a b : List Tp} (h : ∀ z, z ∈ a → z ∈ b) : Qs a b = [] := by
 unfold Qs
 rw [List.filter_eq_nil_iff]
 intro z hz
 simp [h z hz]
theorem Qk2 {a b s : List Tp} (hs : Ys s) (h : ∀ z, z ∈ s ↔ z ∈ a ∨ z ∈ b) : Qc9 a b = s := (Qbw hs fun z => by rw [h z, List.mem_append]).symm
theorem Qo0 {x y : List Tp} (hx : Ys x) (hy : Ys y) : Wu x (Qs y x, Qs x y) = (y, 0) := by
 have h1 : ¬ (!Xa x || !Xa (Qs y x) || !Xa (Qs x y)) = true := by
  rw [Jt.2 hx, Jt.2 (Yo hy), Jt.2 (Yo hx)]; simp
 have h2 : Jj (Qs y x) x = false := Qer fun z hz => (Xm.1 hz).2
 have h3 : Qs (Qs x y) x = [] := Qk1 fun z hz => (Xm.1 hz).1
 rw [Wu, if_neg h1, if_neg (by rw [h2]; simp), if_neg (by rw [h3]; simp)]
 rw [Qk2 hy fun z => ?_]
 simp only [Xm]
 by_cases c1 : z ∈ x <;> by_cases c2 : z ∈ y <;> simp [c1, c2]
theorem Qo1 {x y z : List Tp} (hx : Ys x) (hy : Ys y) (hz : Ys z) : Qbh (Qs y x, Qs x y) (Qs z y, Qs y z) = ((Qs z x, Qs x z), 0) := by
 have h1 : ¬ (!Xa (Qs y x) || !Xa (Qs x y) || !Xa (Qs z y) || !Xa (Qs y z)) = true := by
  rw [Jt.2 (Yo hy), Jt.2 (Yo hx), Jt.2 (Yo hz), Jt.2 (Yo hy)]; simp
 have h2 : ¬ (Jj (Qs y x) (Qs z y) || Jj (Qs x y) (Qs y z) || Jj (Qs y x) (Qs x y) || Jj (Qs z y) (Qs y z)) = true := by
  rw [Qer (fun u hu hv => (Xm.1 hv).2 (Xm.1 hu).1), Qer (fun u hu hv => (Xm.1 hu).2 (Xm.1 hv).1), Qer (fun u hu hv => (Xm.1 hv).2 (Xm.1 hu).1), Qer (fun u hu hv => (Xm.1 hu).2 (Xm.1 hv).1)]; simp
 rw [Qbh, if_neg h1, if_neg h2]
 have e1 : Qc9 (Qs (Qs y x) (Qs y z)) (Qs (Qs z y) (Qs x y)) = Qs z x := by
  refine Qk2 (Yo hz) fun u => ?_
  simp only [Xm]
  by_cases c1 : u ∈ x <;> by_cases c2 : u ∈ y <;> by_cases c3 : u ∈ z <;> simp [c1, c2, c3]
 have e2 : Qc9 (Qs (Qs x y) (Qs z y)) (Qs (Qs y z) (Qs y x)) = Qs x z := by
  refine Qk2 (Yo hx) fun u => ?_
  simp only [Xm]
  by_cases c1 : u ∈ x <;> by_cases c2 : u ∈ y <;> by_cases c3 : u ∈ z <;> simp [c1, c2, c3]
 rw [e1, e2]
abbrev psL (x y : Dl) : List Dl := [(x.1, y.1), (x.2, y.2), (x.1, x.2), (y.1, y.2)]
theorem Qvq (x y : Dl) : (psL x y).any (fun p => Jj p.1 p.2) = (Jj x.1 y.1 || Jj x.2 y.2 || Jj x.1 x.2 || Jj y.1 y.2) := by
 simp [psL, List.any, Bool.or_assoc]
theorem Q28 {x y : Dl} {q : Dl → Prop} (h1 : q (x.1, y.1)) (h2 : q (x.2, y.2)) (h3 : q (x.1, x.2)) (h4 : q (y.1, y.2)) {k : Nat} (hk : k < 4) : q (at' (psL x y) (k : Int)) := by
 match k, hk with
 | 0, _ => exact h1
 | 1, _ => exact h2
 | 2, _ => exact h3
 | 3, _ => exact h4
end Go.Tu
namespace Go.Tu
open Go Go.Gw Go.So
end Go.Tu
namespace Go.Proofs.YtklhdalppmjnaaaGreatDoor
open Go Go.Gw Go.So Go.Tu
variable {K0 : FH} {n0 : Nat}
theorem Q2s {H : FH} : kL.K H [] [Qo] := ⟨Qo, rfl, none, 0, rfl, by simp, by simp, fun h => by simp at h⟩
theorem Qx2 {H : FH} : (kP2 kL).K H ([], []) [Qo, Qo] := ⟨rfl, rfl, fun j x h => by
 match j, h with
 | 0, h => simp at h; subst h; exact Q2s
 | 1, h => simp at h; subst h; exact Q2s⟩
theorem z78 : Xw Tryz.prog 127 (kP2 kL) ([], []) := ⟨.agg #[Qo, Qo], by kernel_rfl, fun H => ⟨[Qo, Qo], Qx2, rfl⟩⟩
theorem z79 : Xw Tryz.prog 128 (Qdx 4 (kP2 kL)) (List.replicate 4 ([], [])) := ⟨.agg #[Qo, Qo, Qo, Qo, Qo, Qo, Qo, Qo], by kernel_rfl, fun H => ⟨[Qo, Qo, Qo, Qo, Qo, Qo, Qo, Qo], ⟨rfl, rfl, fun j x h => by
 match j, h with
 | 0, h => simp at h; subst h; exact Qx2
 | 1, h => simp at h; subst h; exact Qx2
 | 2, h => simp at h; subst h; exact Qx2
 | 3, h => simp at h; subst h; exact Qx2⟩, rfl⟩⟩

/-- rhizome/tuple.Then -/
theorem Q1m (x y : Dl) (h1 : Few x.1) (h2 : Few x.2) (h3 : Few y.1) (h4 : Few y.2) : Ct Tryz.prog 32 [kD.T x, kD.T y] ([]) Unit (fun _ => Y1 [kD.T (Qbh x y).1, I64 (Qbh x y).2]) (fun _ => []) (fun _ => True) := by
 refine Qn Tryz.func32 rfl rfl ?_
 intro H w
 refine sq (rg (oA (Xf (d := kD) oz) pR rfl rfl (fun g0_0 _ => ?_)))
 refine oA (Xf (d := kD) oz) pR rfl rfl (fun g0_1 _ => ?_)
 refine oA (Qz (z44)) pR rfl rfl (fun g0_2 _ => ?_)
 refine ak rfl (tn (nn (sq (sq (rg (oP (pf oz ygo) rfl (oP (plb oz (mA 2 rfl) (Qf.fst (a := kL) (b := kL)) y1z) rfl (oP (pf oz yan) rfl (oP (plb oz (mA 2 rfl) (Qf.snd (a := kL) (b := kL)) y1z) rfl (oP (pf oz ygo) rfl (oP (plb oz (mA 1 rfl) (Qf.fst (a := kL) (b := kL)) y1z) rfl (oP (pf oz yan) rfl (oP (plb oz (mA 1 rfl) (Qf.snd (a := kL) (b := kL)) y1z) rfl (oA (Q7 (d := kL) (v0 := []) yx4 y1z z40 (show 4 * 1 ≤ 16777216 from by decide) (by decide) (Qv rfl rfl (by decide) oz (Qv rfl rfl (by decide) oz (Qv rfl rfl (by decide) oz (Qv rfl rfl (by decide) oz Qc))))) pR rfl rfl (fun _ _ => ?_)))))))))))))))
 refine oA (aC (Qlk [x.1, x.2, y.1, y.2] (by simp)) y9u (oc oz oN) pR) pR rfl rfl (fun _ _ => ?_)
 refine oP (Zf oz) rfl (tn (nn (tc oz (fun c27 => ?_) (fun c27 => ?_))))
 · rw [Q2r] at c27
   have hd : Qbh x y = (([], []), 1) := by rw [Qbh, if_pos (by rw [← c27]; cases Xa x.1 <;> cases Xa x.2 <;> cases Xa y.1 <;> cases Xa y.2 <;> rfl)]
   refine sq (rg (oP (Zb (d := kD) (v0 := ([], [])) (ps := [(0, 1), (1, 1)]) z44 (by kernel_rfl) rfl Qc) rfl (oA (asv oz oz (pA 0 rfl) yh2) (pA 0 rfl) rfl rfl (fun _ _ => ?_))))
   refine ak rfl (tn (nn (tR (tt ?_))))
   exact Zl .ret (.inl rfl) rfl () oz (mA 0 rfl) yh2 oz (fun _ _ h => (by rw [hd]; exact h)) trivial (by exact pn)
 rw [Q2r] at c27
 obtain ⟨⟨⟨ra, rb⟩, rc⟩, rd⟩ : ((Xa x.1 = true ∧ Xa x.2 = true) ∧ Xa y.1 = true) ∧ Xa y.2 = true := by simpa using c27
 have hd0 : ¬ (!Xa x.1 || !Xa x.2 || !Xa y.1 || !Xa y.2) = true := by rw [ra, rb, rc, rd]; simp
 refine sk (nn (sq (sq (rg (oP (pf oz ygo) rfl (oP (plb oz (mA 2 rfl) (Qf.fst (a := kL) (b := kL)) y1z) rfl (oP (pf oz ygo) rfl (oP (plb oz (mA 1 rfl) (Qf.fst (a := kL) (b := kL)) y1z) rfl (oP (Xt (d := kP2 kL) (v0 := ([], [])) (agg := false) Tryz.underlying127 y1z z78 rfl (Qk rfl Qf.p0 oz (Qk rfl Qf.p1 oz Qc))) rfl (oP (pf oz yan) rfl (oP (plb oz (mA 2 rfl) (Qf.snd (a := kL) (b := kL)) y1z) rfl (oP (pf oz yan) rfl (oP (plb oz (mA 1 rfl) (Qf.snd (a := kL) (b := kL)) y1z) rfl (oP (Xt (d := kP2 kL) (v0 := ([], [])) (agg := false) Tryz.underlying127 y1z z78 rfl (Qk rfl Qf.p0 oz (Qk rfl Qf.p1 oz Qc))) rfl (oP (pf oz ygo) rfl (oP (plb oz (mA 2 rfl) (Qf.fst (a := kL) (b := kL)) y1z) rfl (oP (pf oz yan) rfl (oP (plb oz (mA 2 rfl) (Qf.snd (a := kL) (b := kL)) y1z) rfl (oP (Xt (d := kP2 kL) (v0 := ([], [])) (agg := false) Tryz.underlying127 y1z z78 rfl (Qk rfl Qf.p0 oz (Qk rfl Qf.p1 oz Qc))) rfl (oP (pf oz ygo) rfl (oP (plb oz (mA 1 rfl) (Qf.fst (a := kL) (b := kL)) y1z) rfl (oP (pf oz yan) rfl (oP (plb oz (mA 1 rfl) (Qf.snd (a := kL) (b := kL)) y1z) rfl ?_)))))))))))))))))))))))
 refine oP (Xt (d := kP2 kL) (v0 := ([], [])) (agg := false) Tryz.underlying127 y1z z78 rfl (Qk rfl Qf.p0 oz (Qk rfl Qf.p1 oz Qc))) rfl (oP (Xt (d := Qdx 4 (kP2 kL)) (v0 := List.replicate 4 ([], [])) (agg := true) Tryz.underlying128 yqh z79 rfl (Qv rfl rfl (by decide) oz (Qv rfl rfl (by decide) oz (Qv rfl rfl (by decide) oz (Qv rfl rfl (by decide) oz Qc))))) rfl (oP (Qm ot) rfl (tn (nn (tb (Zt (T := (Qdx 4 (kP2 kL)).T (psL x y)) 49 oz (Qt (σ := Nat) (e4 2 3 4 49 rfl en) (fun k => [(50, I64 (k : Int))]) (fun k => [Qb g0_0 38 kD x, Qb g0_1 38 kD y, Qb g0_2 38 kD ([], [])]) (fun k => k ≤ 4 ∧ ((psL x y).drop k).any (fun p => Jj p.1 p.2) = (psL x y).any (fun p => Jj p.1 p.2)) (fun k => 4 - k) 0 ⟨by omega, rfl⟩ ?_ (op (by repeat first | exact pn | refine pc 0 rfl ?_ | refine pc 1 rfl ?_ | refine pc 2 rfl ?_)) ?_)))))))
 · exact (ec 50 rfl en)
 rintro k ⟨hk, hk2⟩
 refine sq (rg (oP (Q5 oz ot) rfl (tn (nn (sq (tc oz (fun c51 => ?_) (fun c51 => ?_)))))))
 · have hk4 : k < 4 := by have := of_decide_eq_true c51; omega
   have hp : Few (at' (psL x y) (k : Int)).1 ∧ Few (at' (psL x y) (k : Int)).2 ∧ Xa (at' (psL x y) (k : Int)).1 = true ∧ Xa (at' (psL x y) (k : Int)).2 = true := Q28 (q := fun p => Few p.1 ∧ Few p.2 ∧ Xa p.1 = true ∧ Xa p.2 = true) ⟨h1, h3, ra, rc⟩ ⟨h2, h4, rb, rd⟩ ⟨h1, h2, ra, rb⟩ ⟨h3, h4, rc, rd⟩ hk4
   have hst := Ql6 (l := psL x y) (p := fun p => Jj p.1 p.2) (k := k) (by simp; omega)
   refine sk (nn (sq (tb (sq (rg (oP (Qd0 oz oz Tryz.underlying128 yqh (by omega) (by omega)) rfl (oA (Qz (z78)) pR rfl rfl (fun g5_1 _ => ?_))))))))
   refine oA (asv oz oz (pA 0 rfl) yqh) (pA 0 rfl) rfl rfl (fun _ _ => ?_)
   refine tn (nn (sq (rg (oP (Zj oz (mA 0 rfl) Tryz.underlying127 y1z) rfl (oP (Z7 oz (mA 0 rfl) y1z) rfl (oP (Zk oz (mA 0 rfl) Tryz.underlying127 y1z) rfl (oP (Z8 oz (mA 0 rfl) y1z) rfl (oA (aC (Qc0 (at' (psL x y) (k : Int)).1 (at' (psL x y) (k : Int)).2 hp.1.small hp.2.1.small hp.2.2.1 hp.2.2.2) yb7 (oc oz (oc oz oN)) pR) pR rfl rfl (fun _ _ => ?_)))))))))
   refine mv rfl rfl (oP (Qd oz rfl) rfl (oP (Qd oz rfl) rfl (oP (Qd oz rfl) rfl (av rfl rfl (av rfl rfl (av rfl rfl (tn (nn (sq (rg (mv rfl rfl (oP (pls oz Tryz.underlying36) rfl (oP (Y3 oz ot) rfl (tn (nn (tc oz (fun c64 => ?_) (fun c64 => ?_)))))))))))))))))
   · have hm := (K2 _ _).1 (of_decide_eq_true c64)
     rw [meet_comm] at hm
     have hd : Qbh x y = (([], []), 2) := by rw [Qbh, if_neg hd0, if_pos (by rw [← Qvq, ← hk2, hst, hm, Bool.true_or])]
     refine sq (rg (oP (Zb (d := kD) (v0 := ([], [])) (ps := [(0, 1), (1, 1)]) z44 (by kernel_rfl) rfl Qc) rfl (oA (asv oz oz (pA 3 rfl) yh2) (pA 3 rfl) rfl rfl (fun _ _ => ?_))))
     refine ak rfl (tn (nn (tR (Qw (tt (tt (Qw (tt ?_))))))))
     exact Zl .ret (.inl rfl) rfl () oz (mA 0 rfl) yh2 oz (fun _ _ h => (by rw [hd]; exact h)) trivial (by exact pn)
   have hm : Jj (at' (psL x y) (k : Int)).1 (at' (psL x y) (k : Int)).2 = false := by
    rw [meet_comm, Bool.eq_false_iff]; exact fun e => of_decide_eq_false c64 ((K2 _ _).2 e)
   refine sk (bn (nn (rg (oP (pad oz ot (by omega)) rfl (mv rfl rfl (tn (nn ?_)))))))
   exact tg (k + 1) ⟨by omega, by rw [← hk2, hst, hm, Bool.false_or]⟩ (by omega) ef (op (by repeat first | exact pn | refine pc 1 rfl ?_))
 have hk4 : k = 4 := by have := of_decide_eq_false c51; omega
 have hd : Qbh x y = ((Qc9 (Qs x.1 y.2) (Qs y.1 x.2), Qc9 (Qs x.2 y.1) (Qs y.2 x.1)), 0) := by rw [Qbh, if_neg hd0, if_neg (by rw [← Qvq, ← hk2, hk4]; simp)]
 refine Qx (tx (tx (bh (nn (sq (rg (oP (pf oz ygo) rfl (oP (plb oz (mA 0 rfl) (Qf.fst (a := kL) (b := kL)) y1z) rfl (oP (pf oz yan) rfl (oP (plb oz (mA 1 rfl) (Qf.snd (a := kL) (b := kL)) y1z) rfl (oA (aC (Qc0 x.1 y.2 h1.small h4.small ra rd) yb7 (oc oz (oc oz oN)) pR) pR rfl rfl (fun _ _ => ?_))))))))))))
 refine mv rfl rfl (oP (Qd oz rfl) rfl (oP (Qd oz rfl) rfl (oP (Qd oz rfl) rfl (av rfl rfl (av rfl rfl (av rfl rfl (tn (nn (sq (rg (oP (pf oz yan) rfl (oP (plb oz (mA 0 rfl) (Qf.snd (a := kL) (b := kL)) y1z) rfl (oP (pf oz ygo) rfl (oP (plb oz (mA 1 rfl) (Qf.fst (a := kL) (b := kL)) y1z) rfl (oA (aC (Qc0 x.2 y.1 h2.small h3.small rb rc) yb7 (oc oz (oc oz oN)) pR) pR rfl rfl (fun _ _ => ?_))))))))))))))))
 refine mv rfl rfl (oP (Qd oz rfl) rfl (oP (Qd oz rfl) rfl (oP (Qd oz rfl) rfl (av rfl rfl (av rfl rfl (av rfl rfl (tn (nn (sq (rg (mv rfl rfl (mv rfl rfl (oA (Zo (Qiz (K0 := noK) (n0 := 0) (Qs x.1 y.2) (Qs y.1 x.2) ((h1.without _).both (h3.without _))) J1 y4c (oc oz (oc oz oN)) pR) pR rfl rfl (fun _ _ => ?_))))))))))))))
 refine mv rfl rfl (mv rfl rfl (oA (Zo (Qiz (K0 := noK) (n0 := 0) (Qs x.2 y.1) (Qs y.2 x.1) ((h2.without _).both (h4.without _))) J1 y4c (oc oz (oc oz oN)) pR) pR rfl rfl (fun _ _ => ?_)))
 refine Zt 87 (OT.unfr2 oz) (Zt 90 (OT.unfr2 oz) (oP (Zb (d := kD) (v0 := ([], [])) (ps := [(0, 1), (1, 1)]) z44 (by kernel_rfl) rfl (Qk rfl (Qf.fst (a := kL) (b := kL)) oz (Qk rfl (Qf.snd (a := kL) (b := kL)) oz Qc))) rfl (oA (asv oz oz (pA 2 rfl) yh2) (pA 2 rfl) rfl rfl (fun _ _ => ?_))))
 refine ak rfl (tn (nn (tR ?_)))
 exact Zl .ret (.inl rfl) rfl () oz (mA 0 rfl) yh2 oz (fun _ _ h => (by rw [hd]; exact h)) trivial (by exact pn)
end Go.Proofs.YtklhdalppmjnaaaGreatDoor
namespace Go.Nt
open Go Go.Gw Go.Tu Go.Jn
def inI (n : Int) : Prop := -9223372036854775808 ≤ n ∧ n ≤ 9223372036854775807
def InT (t : Tp) : Prop := ∀ n ∈ t, inI n
def biN (n : Int) : Nat := ((n + 9223372036854775808) % 18446744073709551616).toNat
def be (m : Nat) : Nat → List UInt8
 | 0 => []
 | j + 1 => UInt8.ofNat (m / 256 ^ j % 256) :: be m j
def Ko (n : Int) : List UInt8 := 1 :: be (biN n) 8
def idB (t : Tp) : Lab := t.flatMap Ko
theorem Qvr (m : Nat) : ∀ j, (be m j).length = j
 | 0 => rfl
 | j + 1 => by rw [be, List.length_cons, Qvr m j]
theorem Wh (n : Int) : (Ko n).length = 9 := by rw [Ko, List.length_cons, Qvr]
theorem Qvs {m m' : Nat} : ∀ {j : Nat}, be m j = be m' j → m % 256 ^ j = m' % 256 ^ j
 | 0, _ => by simp [Nat.mod_one]
 | j + 1, h => by
  rw [be, be] at h
  obtain ⟨h1, h2⟩ := List.cons.inj h
  have h3 := Qvs h2
  have h4 := congrArg UInt8.toNat h1
  rw [UInt8.toNat_ofNat', UInt8.toNat_ofNat'] at h4
  have e : ∀ x : Nat, x % 256 ^ (j + 1) = 256 ^ j * (x / 256 ^ j % 256) + x % 256 ^ j := fun x => by
   rw [Nat.pow_succ, Nat.mod_mul]; omega
  have h5 : m / 256 ^ j % 256 = m' / 256 ^ j % 256 := by simpa using h4
  rw [e, e, h3, h5]
theorem Qh8 (n : Int) : biN n < 256 ^ 8 := by unfold biN; omega
theorem Qvt {a b : Int} (ha : inI a) (hb : inI b) (h : Ko a = Ko b) : a = b := by
 have h1 := Qvs (List.cons.inj h).2
 rw [Nat.mod_eq_of_lt (Qh8 a), Nat.mod_eq_of_lt (Qh8 b)] at h1
 unfold biN at h1; unfold inI at ha hb; omega
theorem Qes (a : Int) (t : Tp) : idB (a :: t) = Ko a ++ idB t := by simp [idB]
theorem Qzx (s t : Tp) : idB (s ++ t) = idB s ++ idB t := by simp [idB]
theorem W8 (t : Tp) : (idB t).length = 9 * t.length := by
 induction t with
 | nil => rfl
 | cons a t ih => rw [Qes, List.length_append, Wh, ih, List.length_cons]; omega
theorem Uw : ∀ {s t : Tp}, InT s → InT t → idB s = idB t → s = t
 | [], [], _, _, _ => rfl
 | [], b :: t, _, _, h => by have := congrArg List.length h; rw [W8, W8] at this; simp at this
 | a :: s, [], _, _, h => by have := congrArg List.length h; rw [W8, W8] at this; simp at this
 | a :: s, b :: t, hs, ht, h => by
  rw [Qes, Qes] at h
  obtain ⟨h1, h2⟩ := List.append_inj h (by rw [Wh, Wh])
  rw [Qvt (hs a List.mem_cons_self) (ht b List.mem_cons_self) h1, Uw (fun n hn => hs n (List.mem_cons_of_mem _ hn)) (fun n hn => ht n (List.mem_cons_of_mem _ hn)) h2]
def nv (al : List Atm) (k : Nat) : Nat := (Qa (al.take k)).length
def RwK (al : List Atm) (E : List Ed) (k : Nat) (t : Tp) : Prop := t.length = nv al k ∧ Sat E (Qa al) (al.take k) t
section
variable {al : List Atm} {E E' : List Ed} {k : Nat} {s t : Tp} {a : Atm} {e : Ed}
theorem Kk : t ∈ Zr (Za E) (Qa al) (al.take k) ↔ RwK al E k t := (Qfo E (al.take k) (K3 al k)).2 t
theorem Wx : (Zr (Za E) (Qa al) (al.take k)).Nodup := (Qfo E (al.take k) (K3 al k)).1
theorem V2 : RwK al E 0 t ↔ t = [] := by
 unfold RwK nv Sat
 simp [Qa]
theorem Qai (h : ∀ x ∈ E, x ∈ E') (hr : RwK al E k t) : RwK al E' k t := ⟨hr.1, fun b hb => h _ (hr.2 b hb)⟩
theorem Qdm (h : ∀ x, x ∈ E ↔ x ∈ E') : RwK al E k t ↔ RwK al E' k t := ⟨Qai fun x => (h x).1, Qai fun x => (h x).2⟩
theorem Qh9 (h : k < al.length) (ha : al[k] = a) : al.take (k + 1) = al.take k ++ [a] := by rw [List.take_succ_eq_append_getElem h, ha]
theorem Qdn (h : k < al.length) (ha : al[k] = a) : Qc3 (nv al k) (nv al (k + 1)) (ix (Qa al) a.1) (ix (Qa al) a.2.2) := by
 unfold nv
 exact Qur (Qby _) (by rw [Qh9 h ha, Qdh]) (K3 al (k + 1))
theorem Jv (h : k < al.length) (ha : al[k] = a) : RwK al E (k + 1) s ↔ s.length = nv al (k + 1) ∧ RwK al E k (s.take (nv al k)) ∧ (s.getD (ix (Qa al) a.1) 0, a.2.1, s.getD (ix (Qa al) a.2.2) 0) ∈ E := by
 have hV := K3 al k
 have hle : nv al k ≤ nv al (k + 1) := by
  unfold nv; rw [Qh9 h ha]; exact (Qfn _ _).length_le
 have key : ∀ b ∈ al.take k, ix (Qa al) b.1 < nv al k ∧ ix (Qa al) b.2.2 < nv al k := fun b hb => by
  have hm1 : b.1 ∈ Qa (al.take k) := Jd.2 ⟨b, hb, .inl rfl⟩
  have hm2 : b.2.2 ∈ Qa (al.take k) := Jd.2 ⟨b, hb, .inr rfl⟩
  exact ⟨by unfold ix; rw [Ki hV hm1]; exact List.idxOf_lt_length_of_mem hm1, by unfold ix; rw [Ki hV hm2]; exact List.idxOf_lt_length_of_mem hm2⟩
 unfold RwK Sat
 rw [Qh9 h ha]
 constructor
 · rintro ⟨h1, h2⟩
   refine ⟨h1, ⟨by rw [List.length_take]; omega, fun b hb => ?_⟩, h2 a (by simp)⟩
   have := h2 b (by simp [hb])
   obtain ⟨i1, i2⟩ := key b hb
   unfold env at this ⊢
   rw [getD_take i1, getD_take i2]; exact this
 rintro ⟨h1, ⟨h2, h3⟩, h4⟩
 refine ⟨h1, fun b hb => ?_⟩
 rcases List.mem_append.1 hb with hb | hb
 · have := h3 b hb
   obtain ⟨i1, i2⟩ := key b hb
   unfold env at this ⊢
   rw [getD_take i1, getD_take i2] at this; exact this
 have : b = a := by simpa using hb
 subst this; exact h4
def Qaj (o : Tp) (i : Nat) (x : Int) : Option Tp := if (if i = o.length then o ++ [x] else o).getD i 0 = x then some (if i = o.length then o ++ [x] else o) else none
def Kr (f t : Nat) (r : Tp) (p : Pr) : Option Tp := (Qaj r f p.1).bind fun o => Qaj o t p.2
theorem Qfr {o : Tp} {x : Int} : Qaj o o.length x = some (o ++ [x]) := by
 unfold Qaj; rw [if_pos rfl, if_pos Kj]
theorem Qfs {o : Tp} {i : Nat} {x : Int} (h : i < o.length) : Qaj o i x = if o.getD i 0 = x then some o else none := by
 unfold Qaj; rw [if_neg (show ¬ i = o.length by omega)]
theorem Vh {r : Tp} {m f t : Nat} {p : Pr} (hl : Qc3 r.length m f t) : Kr f t r p = some s ↔ s.length = m ∧ s.take r.length = r ∧ s.getD f 0 = p.1 ∧ s.getD t 0 = p.2 := by
 unfold Kr
 have tk : ∀ {f : Nat}, f < r.length → s.take r.length = r → s.getD f 0 = r.getD f 0 := fun h h2 => by
  have := getD_take (r := s) h
  rw [h2] at this; exact this.symm
 by_cases c1 : f < r.length
 · rw [Qfs c1]
   by_cases e1 : r.getD f 0 = p.1
   · rw [if_pos e1, Option.bind_some]
     by_cases c2 : t < r.length
     · rw [Qfs c2]
       have hm := hl.m1 c1 c2
       constructor
       · intro h
         split at h
         · rename_i e2
           cases h; exact ⟨hm.symm, by simp, e1, e2⟩
         cases h
       rintro ⟨h1, h2, h3, h4⟩
       have : s = r := by rw [List.take_of_length_le (by omega)] at h2; exact h2
       subst this
       rw [if_pos h4]
     have ht : t = r.length := by have := hl.t2 c1; omega
     subst ht
     have hm := hl.m2 c1 rfl
     rw [Qfr]
     constructor
     · intro h
       cases h
       exact ⟨by simp [hm], Qag, by rw [Qei c1]; exact e1, Kj⟩
     rintro ⟨h1, h2, h3, h4⟩
     have := Qqd h2 (by omega)
     rw [h4] at this; rw [this]
   rw [if_neg e1, Option.bind_none]
   constructor
   · intro h; cases h
   rintro ⟨h1, h2, h3, h4⟩
   exact absurd ((tk c1 h2).symm.trans h3) e1
 have hf : f = r.length := by have := hl.f1; omega
 subst hf
 rw [Qfr, Option.bind_some]
 by_cases c3 : t = r.length + 1
 · have hm := hl.m4 rfl c3
   have e : Qaj (r ++ [p.1]) t p.2 = some (r ++ [p.1] ++ [p.2]) := by
    have := Qfr (o := r ++ [p.1]) (x := p.2)
    rwa [List.length_append, List.length_singleton, ← c3] at this
   rw [e]
   have e2 : (r ++ [p.1] ++ [p.2]).getD t 0 = p.2 := by
    have := Kj (r := r ++ [p.1]) (b := p.2)
    rwa [List.length_append, List.length_singleton, ← c3] at this
   constructor
   · intro h
     cases h
     exact ⟨by simp [hm], by rw [List.append_assoc]; exact Qag, by rw [Qei (by simp), Kj], e2⟩
   rintro ⟨h1, h2, h3, h4⟩
   have := Q2e h2 (by omega)
   rw [h3, ← c3, h4] at this; rw [this]
 have ht : t ≤ r.length := by have := hl.t1; omega
 have hm := hl.m3 rfl ht
 rw [Qfs (by rw [List.length_append, List.length_singleton]; omega)]
 constructor
 · intro h
   split at h
   · rename_i e2
     cases h
     exact ⟨by simp [hm], Qag, Kj, e2⟩
   cases h
 rintro ⟨h1, h2, h3, h4⟩
 have hs := Qqd h2 (by omega)
 rw [h3] at hs
 rw [← hs, if_pos h4]
def Qk3 (f t : Nat) (r : Tp) (p : Pr) : Prop := if f < r.length then p.1 = r.getD f 0 else if t < r.length then p.2 = r.getD t 0 else True
theorem Qo2 {r : Tp} {m f t : Nat} {p : Pr} (hl : Qc3 r.length m f t) (h : Kr f t r p = some s) : Qk3 f t r p := by
 obtain ⟨h1, h2, h3, h4⟩ := (Vh hl).1 h
 have tk : ∀ {f : Nat}, f < r.length → s.getD f 0 = r.getD f 0 := fun h => by
  have := getD_take (r := s) h
  rw [h2] at this; exact this.symm
 unfold Qk3
 split
 · rename_i c; rw [← h3, tk c]
 split
 · rename_i c; rw [← h4, tk c]
 trivial
def Qbn (al : List Atm) (E E' : List Ed) (k : Nat) (t : Tp) : Prop := RwK al E' k t ∧ ¬ RwK al E k t
theorem Qvu : ¬ Qbn al E E' 0 t := fun h => h.2 (V2.2 (V2.1 h.1))
theorem Qmk (h : k < al.length) (ha : al[k] = a) (hE : ∀ x, x ∈ E' ↔ x ∈ E ∨ x = e) (hn : e ∉ E) : Qbn al E E' (k + 1) s ↔
 (∃ t p, Qbn al E E' k t ∧ (p.1, a.2.1, p.2) ∈ E' ∧ Kr (ix (Qa al) a.1) (ix (Qa al) a.2.2) t p = some s) ∨ (a.2.1 = e.2.1 ∧ ∃ t, RwK al E k t ∧ Kr (ix (Qa al) a.1) (ix (Qa al) a.2.2) t (e.1, e.2.2) = some s) := by
 have hl := Qdn h ha
 have hsub : ∀ x ∈ E, x ∈ E' := fun x hx => (hE x).2 (.inl hx)
 have hlen : ∀ {F : List Ed} {t : Tp}, RwK al F k t → Qc3 t.length (nv al (k + 1)) (ix (Qa al) a.1) (ix (Qa al) a.2.2) := fun hr => by rw [hr.1]; exact hl
 constructor
 · rintro ⟨h1, h2⟩
   obtain ⟨g1, g2, g3⟩ := (Jv h ha).1 h1
   have hl2 := hlen g2
   have hg : Kr (ix (Qa al) a.1) (ix (Qa al) a.2.2) (s.take (nv al k)) (s.getD (ix (Qa al) a.1) 0, s.getD (ix (Qa al) a.2.2) 0) = some s := (Vh hl2).2 ⟨g1, by rw [g2.1], rfl, rfl⟩
   by_cases hr : RwK al E k (s.take (nv al k))
   · rcases (hE _).1 g3 with g4 | g4
     · exact absurd ((Jv h ha).2 ⟨g1, hr, g4⟩) h2
     refine .inr ⟨congrArg (fun x : Ed => x.2.1) g4, _, hr, ?_⟩
     rw [← show _ = e from g4]; exact hg
   exact .inl ⟨_, _, ⟨g2, hr⟩, g3, hg⟩
 rintro (⟨t, p, ⟨h1, h2⟩, h3, h4⟩ | ⟨h1, t, h2, h3⟩)
 · obtain ⟨g1, g2, g3, g4⟩ := (Vh (hlen h1)).1 h4
   rw [h1.1] at g2
   refine ⟨(Jv h ha).2 ⟨g1, by rw [g2]; exact h1, by rw [g3, g4]; exact h3⟩, fun hx => h2 ?_⟩
   have := ((Jv h ha).1 hx).2.1
   rwa [g2] at this
 obtain ⟨g1, g2, g3, g4⟩ := (Vh (hlen h2)).1 h3
 rw [h2.1] at g2
 have hee : (s.getD (ix (Qa al) a.1) 0, a.2.1, s.getD (ix (Qa al) a.2.2) 0) = e := by rw [g3, g4, h1]
 refine ⟨(Jv h ha).2 ⟨g1, by rw [g2]; exact Qai hsub h2, (hE _).2 (.inr hee)⟩, fun hx => hn ?_⟩
 have := ((Jv h ha).1 hx).2.2
 rwa [hee] at this
def Wn (al : List Atm) (k : Nat) (t : Tp) (e : Ed) : Bool := (al.take k).any fun a => decide ((env (Qa al) t a.1, a.2.1, env (Qa al) t a.2.2) = e)
theorem Qsj (hE : ∀ x, x ∈ E' ↔ x ∈ E ∧ x ≠ e) : RwK al E' k t ↔ RwK al E k t ∧ Wn al k t e = false := by
 unfold RwK Sat Wn
 rw [List.any_eq_false]
 constructor
 · rintro ⟨h1, h2⟩
   exact ⟨⟨h1, fun a ha => ((hE _).1 (h2 a ha)).1⟩, fun a ha => by simpa using ((hE _).1 (h2 a ha)).2⟩
 rintro ⟨⟨h1, h2⟩, h3⟩
 exact ⟨h1, fun a ha => (hE _).2 ⟨h2 a ha, by simpa using h3 a ha⟩⟩
theorem Y0 (hE : ∀ e ∈ E, inI e.1 ∧ inI e.2.2) : RwK al E k t → InT t := by
 have : ∀ (k : Nat) (t : Tp), k ≤ al.length → RwK al E k t → InT t := by
  intro k
  induction k with
  | zero => intro t _ h; rw [V2.1 h]; intro n hn; cases hn
  | succ k ih =>
   intro t hk h
   have hk' : k < al.length := by omega
   obtain ⟨h1, h2, h3⟩ := (Jv hk' rfl).1 h
   have hl := Qdn (al := al) hk' rfl
   have h4 := ih _ (by omega) h2
   have h5 : (t.take (nv al k)).length = nv al k := h2.1
   obtain ⟨e1, e2⟩ := hE _ h3
   intro n hn
   obtain ⟨i, hi, hin⟩ := List.getElem_of_mem hn
   by_cases c : i < nv al k
   · refine h4 n ?_
     rw [List.mem_take_iff_getElem]
     exact ⟨i, by omega, hin⟩
   have gi : t.getD i 0 = n := by rw [List.getD_eq_getElem?_getD, List.getElem?_eq_getElem hi, hin]; rfl
   have : i = ix (Qa al) al[k].1 ∨ i = ix (Qa al) al[k].2.2 := by
    have q1 := hl.f1; have q2 := hl.t1; have q3 := hl.t2; have q4 := hl.m1; have q5 := hl.m2; have q6 := hl.m3; have q7 := hl.m4
    by_cases c1 : ix (Qa al) al[k].1 < nv al k
    · have q3 := q3 c1
      by_cases c2 : ix (Qa al) al[k].2.2 < nv al k
      · have := q4 c1 c2; omega
      have := q5 c1 (by omega); omega
    have c1' : ix (Qa al) al[k].1 = nv al k := by omega
    by_cases c2 : ix (Qa al) al[k].2.2 ≤ nv al k
    · have := q6 c1' c2; omega
    have := q7 c1' (by omega); omega
   rcases this with c2 | c2
   · rw [← gi, c2]; exact e1
   rw [← gi, c2]; exact e2
 intro h
 by_cases hk : k ≤ al.length
 · exact this k t hk h
 have e1 : al.take k = al.take al.length := by rw [List.take_length, List.take_of_length_le (by omega)]
 refine this al.length t (Nat.le_refl _) ?_
 unfold RwK nv at h ⊢
 rw [e1] at h; exact h
end
def Xk (m : List (Lab × Tp)) (S : Tp → Prop) : Prop := (keys m).Nodup ∧ ∀ s t, (s, t) ∈ m ↔ s = idB t ∧ S t
section
variable {m : List (Lab × Tp)} {S S' : Tp → Prop} {s : Lab} {t : Tp}
theorem Xk.nil : Xk [] (fun _ => False) := ⟨List.nodup_nil, by simp⟩
theorem Xk.congr (h : Xk m S) (hS : ∀ t, S t ↔ S' t) : Xk m S' := ⟨h.1, fun s t => by rw [h.2, hS]⟩
theorem Xk.one : Xk [([], [])] (fun t => t = []) := ⟨by simp [keys], fun s t => by
 simp only [List.mem_singleton, Prod.mk.injEq]
 constructor
 · rintro ⟨rfl, rfl⟩; exact ⟨rfl, rfl⟩
 rintro ⟨rfl, rfl⟩; exact ⟨rfl, rfl⟩⟩
theorem Xk.lkp (h : Xk m S) (hl : Gw.lkp s m = some t) : s = idB t ∧ S t := (h.2 s t).1 (Qd7 hl)
theorem Xk.key (h : Xk m S) : s ∈ keys m ↔ ∃ t, s = idB t ∧ S t := by
 constructor
 · intro hs
   obtain ⟨p, hp, rfl⟩ := List.mem_map.1 hs
   exact ⟨p.2, (h.2 p.1 p.2).1 hp⟩
 rintro ⟨t, h1, h2⟩
 exact List.mem_map.2 ⟨(s, t), (h.2 s t).2 ⟨h1, h2⟩, rfl⟩
theorem Qzy {κ α : Type} [DecidableEq κ] {k : κ} {x : α} {m : List (κ × α)} {p : κ × α} (hn : (keys m).Nodup) : p ∈ ptk k x m ↔ p = (k, x) ∨ (p ∈ m ∧ p.1 ≠ k) := by
 rw [(Vd (k := k) (x := x) (m := m)).mem_iff, List.mem_cons]
 have hd : p ∈ dlk k m ↔ p ∈ m ∧ p.1 ≠ k := by
  induction m with
  | nil => simp [dlk]
  | cons q m ih =>
   have hn2 : q.1 ∉ keys m ∧ (keys m).Nodup := List.nodup_cons.1 hn
   unfold dlk
   by_cases e : q.1 = k
   · rw [if_pos e]
     constructor
     · intro hp
       refine ⟨List.mem_cons_of_mem _ hp, fun e2 => hn2.1 ?_⟩
       rw [e, ← e2]; exact List.mem_map.2 ⟨p, hp, rfl⟩
     rintro ⟨hp, hne⟩
     rcases List.mem_cons.1 hp with rfl | hp
     · exact absurd e hne
     exact hp
   rw [if_neg e, List.mem_cons, ih hn2.2, List.mem_cons]
   constructor
   · rintro (rfl | ⟨h1, h2⟩)
     · exact ⟨.inl rfl, e⟩
     exact ⟨.inr h1, h2⟩
   rintro ⟨rfl | h1, h2⟩
   · exact .inl rfl
   exact .inr ⟨h1, h2⟩
 rw [hd]
theorem Qzz {κ α : Type} [DecidableEq κ] {k : κ} {m : List (κ × α)} {p : κ × α} (hn : (keys m).Nodup) : p ∈ dlk k m ↔ p ∈ m ∧ p.1 ≠ k := by
 induction m with
 | nil => simp [dlk]
 | cons q m ih =>
  have hn2 : q.1 ∉ keys m ∧ (keys m).Nodup := List.nodup_cons.1 hn
  unfold dlk
  by_cases e : q.1 = k
  · rw [if_pos e]
    constructor
    · intro hp
      refine ⟨List.mem_cons_of_mem _ hp, fun e2 => hn2.1 ?_⟩
      rw [e, ← e2]; exact List.mem_map.2 ⟨p, hp, rfl⟩
    rintro ⟨hp, hne⟩
    rcases List.mem_cons.1 hp with rfl | hp
    · exact absurd e hne
    exact hp
  rw [if_neg e, List.mem_cons, ih hn2.2, List.mem_cons]
  constructor
  · rintro (rfl | ⟨h1, h2⟩)
    · exact ⟨.inl rfl, e⟩
    exact ⟨.inr h1, h2⟩
  rintro ⟨rfl | h1, h2⟩
  · exact .inl rfl
  exact .inr ⟨h1, h2⟩
theorem Xk.put (h : Xk m S) (hi : InT t) (hS : ∀ u, S u → InT u) : Xk (ptk (idB t) t m) (fun u => S u ∨ u = t) := by
 refine ⟨Yr h.1, fun s u => ?_⟩
 rw [Qzy h.1, h.2]
 constructor
 · rintro (h1 | ⟨⟨h1, h2⟩, h3⟩)
   · cases h1; exact ⟨rfl, .inr rfl⟩
   exact ⟨h1, .inl h2⟩
 rintro ⟨rfl, h1 | rfl⟩
 · by_cases e : idB u = idB t
   · have := Uw (hS u h1) hi e
     subst this; exact .inl rfl
   exact .inr ⟨⟨rfl, h1⟩, e⟩
 exact .inl rfl
theorem Xk.del (h : Xk m S) (hi : InT t) (hS : ∀ u, S u → InT u) : Xk (dlk (idB t) m) (fun u => S u ∧ u ≠ t) := by
 refine ⟨Qad h.1, fun s u => ?_⟩
 rw [Qzz h.1, h.2]
 constructor
 · rintro ⟨⟨h1, h2⟩, h3⟩
   exact ⟨h1, h2, fun e => h3 (by rw [h1, e])⟩
 rintro ⟨rfl, h1, h2⟩
 exact ⟨⟨rfl, h1⟩, fun e => h2 (Uw (hS u h1) hi e)⟩
theorem Xk.rows (h : Xk m S) : (m.map Prod.snd).Nodup ∧ ∀ t, t ∈ m.map Prod.snd ↔ S t := by
 constructor
 · have h1 : (keys m) = (m.map Prod.snd).map idB := by
    unfold keys
    rw [List.map_map]
    exact List.map_congr_left fun p hp => ((h.2 p.1 p.2).1 hp).1
   have h2 := h.1
   rw [h1] at h2
   exact (List.pairwise_map.1 h2).imp fun hne e => hne (by rw [e])
 intro t
 rw [List.mem_map]
 constructor
 · rintro ⟨p, hp, rfl⟩; exact ((h.2 p.1 p.2).1 hp).2
 intro ht; exact ⟨(idB t, t), (h.2 _ _).2 ⟨rfl, ht⟩, rfl⟩
theorem Xk.len (h : Xk m S) {L : List Tp} (hn : L.Nodup) (hL : ∀ t, t ∈ L ↔ S t) : m.length = L.length := by
 obtain ⟨h1, h2⟩ := h.rows
 have := (Qh4 h1 hn fun x => by rw [h2, hL]).length_eq
 rwa [List.length_map] at this
end
def cnt (f : Tp → Lab) (rows : List Tp) (s : Lab) : Nat := rows.countP fun r => decide (f r = s)
def Y7 (c : List (Lab × Int)) (f : Tp → Lab) (rows : List Tp) : Prop := (keys c).Nodup ∧ ∀ s, lkp s c = if cnt f rows s = 0 then none else some (cnt f rows s : Int)
section
variable {c : List (Lab × Int)} {f : Tp → Lab} {rows rows' : List Tp} {s : Lab} {t : Tp}
theorem Y7.nil : Y7 [] f [] := ⟨List.nodup_nil, fun s => rfl⟩
theorem Y7.perm (h : Y7 c f rows) (hp : rows.Perm rows') : Y7 c f rows' := ⟨h.1, fun s => by rw [h.2, cnt, cnt, hp.countP_eq]⟩
theorem Y7.get (h : Y7 c f rows) (s : Lab) : (lkp s c).getD 0 = (cnt f rows s : Int) := by
 rw [h.2]; split
 · rename_i e; rw [e]; rfl
 rfl
theorem Qet {r : Tp} : cnt f (r :: rows) s = cnt f rows s + if f r = s then 1 else 0 := by
 unfold cnt; rw [List.countP_cons]; simp
theorem Y7.put (h : Y7 c f rows) (r : Tp) : Y7 (ptk (f r) ((lkp (f r) c).getD 0 + 1) c) f (r :: rows) := by
 refine ⟨Yr h.1, fun s => ?_⟩
 rw [Xl, Qet]
 by_cases e : f r = s
 · subst e
   rw [if_pos rfl, if_pos rfl, if_neg (by omega), h.get]; rfl
 rw [if_neg e, if_neg e, h.2]; rfl
theorem Y7.del (h : Y7 c f (t :: rows)) : let n := (lkp (f t) c).getD 0 - 1
 Y7 (if n = 0 then dlk (f t) (ptk (f t) n c) else ptk (f t) n c) f rows := by
 have hg := h.get (f t)
 rw [Qet, if_pos rfl] at hg
 have hn : (lkp (f t) c).getD 0 - 1 = (cnt f rows (f t) : Int) := by omega
 simp only [hn]
 have h2 := h.2
 by_cases e0 : (cnt f rows (f t) : Int) = 0
 · rw [if_pos e0]
   refine ⟨Qad (Yr h.1), fun s => ?_⟩
   rw [Ut (Yr h.1), Xl]
   by_cases e : f t = s
   · subst e; rw [if_pos rfl, if_pos (by omega)]
   rw [if_neg e, if_neg e, h2, Qet, if_neg e]; rfl
 rw [if_neg e0]
 refine ⟨Yr h.1, fun s => ?_⟩
 rw [Xl]
 by_cases e : f t = s
 · subst e; rw [if_pos rfl, if_neg (by omega)]
 rw [if_neg e, h2, Qet, if_neg e]; rfl
theorem Y7.key (h : Y7 c f rows) : s ∈ keys c ↔ ∃ r ∈ rows, f r = s := by
 have h1 : s ∈ keys c ↔ ¬ cnt f rows s = 0 := by
  rw [← Classical.not_not (a := s ∈ keys c), ← Xx, h.2]
  split <;> simp_all
 rw [h1]
 unfold cnt
 rw [List.countP_eq_zero]
 simp
end
end Go.Nt
namespace Go.Nt
open Go Go.Gw Go.Tu Go.Jn Go.Vl
theorem Q2h {u : Nat} (h : u < 18446744073709551616) : u ^^^ 9223372036854775808 = (u + 9223372036854775808) % 18446744073709551616 := by
 have e63 : (9223372036854775808 : Nat) = 2 ^ 63 := by decide
 have e64 : (18446744073709551616 : Nat) = 2 ^ 64 := by decide
 rw [e63, e64] at *
 apply Nat.eq_of_testBit_eq
 intro i
 rw [Nat.testBit_xor, Nat.testBit_two_pow, Nat.testBit_mod_two_pow, Nat.add_comm u]
 rcases Nat.lt_trichotomy i 63 with hi | rfl | hi
 · rw [Nat.testBit_two_pow_add_gt hi]
   simp [show ¬ 63 = i by omega, show i < 64 by omega]
 · rw [Nat.testBit_two_pow_add_eq]; simp
 have : u.testBit i = false := Nat.testBit_lt_two_pow (Nat.lt_of_lt_of_le h (Nat.pow_le_pow_right (n := 2) (by decide) (show 64 ≤ i from hi)))
 simp [this, show ¬ 63 = i by omega, show ¬ i < 64 by omega]
theorem Q29 (n : Int) : Qg5 .xor .u64 (IntKind.u64.wrap n) 9223372036854775808 = (biN n : Int) := by
 have w : IntKind.u64.wrap n = ((n % 18446744073709551616).toNat : Int) := by simp [IntKind.wrap, IntKind.bits, IntKind.signed]; omega
 rw [w, show (9223372036854775808 : Int) = ((9223372036854775808 : Nat) : Int) from rfl, Q2g (by omega) (by decide), Q2h (by omega)]
 unfold biN; omega
theorem Qz0 {n : Int} (h : inI n) : IntKind.i64.wrap (Qg5 .xor .u64 (biN n : Int) 9223372036854775808) = n := by
 have hl := Qh8 n
 have e : (256 : Nat) ^ 8 = 18446744073709551616 := by decide
 rw [e] at hl
 rw [show (9223372036854775808 : Int) = ((9223372036854775808 : Nat) : Int) from rfl, Q2g hl (by decide), Q2h hl]
 have w : ∀ x : Int, IntKind.i64.wrap x = (x + 9223372036854775808) % 18446744073709551616 - 9223372036854775808 := fun x => by simp [IntKind.wrap, IntKind.bits, IntKind.signed]; split <;> omega
 rw [w]
 unfold biN; unfold inI at h; omega
theorem Qz1 (m : Nat) {j : Nat} (h : j ≤ 7) : IntKind.u8.wrap ((m : Int).fdiv (2 ^ min ((56 : Int) - 8 * (j : Int)).toNat IntKind.u64.bits)) = ((m / 256 ^ (7 - j) % 256 : Nat) : Int) := by
 have e : (2 : Int) ^ min ((56 : Int) - 8 * (j : Int)).toNat IntKind.u64.bits = ((256 ^ (7 - j) : Nat) : Int) := by
  match j, h with
  | 0, _ => rfl
  | 1, _ => rfl
  | 2, _ => rfl
  | 3, _ => rfl
  | 4, _ => rfl
  | 5, _ => rfl
  | 6, _ => rfl
  | 7, _ => rfl
  | j + 8, h => omega
 rw [e, Int.fdiv_eq_ediv_of_nonneg _ (Int.natCast_nonneg _), Q40, ← Int.natCast_ediv]
 omega
theorem Qqp (m : Nat) : ∀ {j i : Nat}, i < j → (be m j).take (i + 1) = (be m j).take i ++ [UInt8.ofNat (m / 256 ^ (j - 1 - i) % 256)]
 | 0, _, h => by omega
 | j + 1, 0, _ => by simp [be]
 | j + 1, i + 1, h => by
  have := Qqp m (j := j) (i := i) (by omega)
  rw [be, List.take_succ_cons, this, List.take_succ_cons, List.cons_append, show j + 1 - 1 - (i + 1) = j - 1 - i by omega]
theorem Qvv (x : Nat) : (UInt8.ofNat (x % 256)).toNat = x % 256 := by rw [UInt8.toNat_ofNat']; omega
theorem Qml (n : Int) {j : Nat} (h : j ≤ 7) : Yk ((Ko n).take (1 + (j + 1))) = Yk ((Ko n).take (1 + j)) ++ [((biN n / 256 ^ (7 - j) % 256 : Nat) : Int)] := by
 have := Qqp (biN n) (j := 8) (i := j) (by omega)
 rw [show 1 + (j + 1) = (j + 1) + 1 by omega, show 1 + j = j + 1 by omega, Ko, List.take_succ_cons, List.take_succ_cons, this]
 unfold Yk
 rw [← List.cons_append, List.map_append]
 congr 1
 show [(((UInt8.ofNat (biN n / 256 ^ (7 - j) % 256)).toNat : Nat) : Int)] = _
 rw [Qvv]
theorem Qsk (n : Int) : Yk ((Ko n).take (1 + 0)) = [1] := by simp [Ko, Yk]
theorem Qz2 (n : Int) : Yk ((Ko n).take (1 + 8)) = Yk (Ko n) := by rw [List.take_of_length_le (by rw [Wh]; decide)]
def top (n : Int) (i : Nat) : Nat := biN n / 256 ^ (8 - i)
theorem Qvw (n : Int) : top n 0 = 0 := by unfold top; exact Nat.div_eq_of_lt (Qh8 n)
theorem Qz3 (n : Int) : top n 8 = biN n := by unfold top; simp
theorem Qvx (n : Int) {i : Nat} (h : i < 8) : top n (i + 1) = top n i * 256 + biN n / 256 ^ (7 - i) % 256 := by
 unfold top
 have e : 8 - i = (7 - i) + 1 := by omega
 rw [show 8 - (i + 1) = 7 - i by omega, e, Nat.pow_succ, ← Nat.div_div_eq_div_mul]
 omega
theorem Q3a (n : Int) {i : Nat} (h : i < 8) : top n i < 72057594037927936 := by
 unfold top
 have h1 := Qh8 n
 have e : (256 : Nat) ^ 8 = 256 ^ (8 - i) * 256 ^ i := by rw [← Nat.pow_add]; congr 1; omega
 have h2 : (256 : Nat) ^ i ≤ 256 ^ 7 := Nat.pow_le_pow_right (by omega) (by omega)
 have h3 : biN n / 256 ^ (8 - i) < 256 ^ i := Nat.div_lt_of_lt_mul (by rw [← e]; exact h1)
 have e7 : (256 : Nat) ^ 7 = 72057594037927936 := by decide
 omega
theorem Qz4 {a x : Nat} (ha : a < 72057594037927936) (hx : x < 256) : Qg5 .or .u64 (IntKind.u64.wrap ((a : Int) * 2 ^ min (Int.toNat 8) IntKind.u64.bits)) ((x : Nat) : Int) = ((a * 256 + x : Nat) : Int) := by
 rw [show (2 : Int) ^ min (Int.toNat 8) IntKind.u64.bits = 256 from rfl]
 have e1 : IntKind.u64.wrap ((a : Int) * 256) = ((a * 256 : Nat) : Int) := by rw [wrap64 (by omega) (by omega)]; omega
 rw [e1, Q5u (by omega) (by omega)]
 have := Nat.shiftLeft_add_eq_or_of_lt (b := x) (i := 8) (by omega) a
 rw [Nat.shiftLeft_eq] at this
 rw [show a * 256 = a * 2 ^ 8 from rfl, ← this]
theorem Q3b (n : Int) (r : List Int) {i : Nat} (h : i < 8) : at' (Yk (Ko n) ++ r) ((i : Int) + 1) = ((biN n / 256 ^ (7 - i) % 256 : Nat) : Int) := by
 have h1 := Qml n (j := i) (by omega)
 have hl : (Yk (Ko n)).length = 9 := by unfold Yk; rw [List.length_map, Wh]
 rw [show ((i : Int) + 1) = ((i + 1 : Nat) : Int) by omega, Q1 (by rw [List.length_append]; omega), List.getElem_append_left (by omega)]
 have h2 : ∀ k, Yk ((Ko n).take k) = (Yk (Ko n)).take k := fun k => by unfold Yk; rw [List.map_take]
 rw [h2, h2, show 1 + (i + 1) = (i + 1) + 1 by omega, show 1 + i = i + 1 by omega, List.take_succ_eq_append_getElem (by omega)] at h1
 have := List.append_cancel_left h1
 simpa using this
end Go.Nt
