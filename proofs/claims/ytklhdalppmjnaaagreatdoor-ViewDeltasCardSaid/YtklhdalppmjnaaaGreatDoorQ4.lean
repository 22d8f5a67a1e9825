/- The texts TuA, Sq, SqF, Tu1, TuB, TuC, TuD, Tu2, Tu3, TuE, Tu5, Tu6, G31, G32, JnA of this claim, put together in their order. No condition of their own. -/
import Derived.Test.YtklhdalppmjnaaaGreatDoorQ1
import Derived.Test.YtklhdalppmjnaaaGreatDoorProg
import Derived.Test.YtklhdalppmjnaaaGreatDoorQ2
import Derived.Test.YtklhdalppmjnaaaGreatDoorQ3
set_option linter.unusedVariables false
set_option linter.unusedSimpArgs false
set_option linter.unusedSectionVars false
set_option maxHeartbeats 1000000
set_option maxRecDepth 20000
namespace Go.Tu
open Go Go.Gw Go.So
abbrev Tp := List Int
def X6 : Tp → Tp → Int
 | [], [] => 0
 | [], _ :: _ => -1
 | _ :: _, [] => 1
 | x :: a, y :: b => if x < y then -1 else if y < x then 1 else X6 a b
theorem Ql0 : ∀ a b : Tp, X6 a b = -1 ∨ X6 a b = 0 ∨ X6 a b = 1
 | [], [] => .inr (.inl rfl)
 | [], _ :: _ => .inl rfl
 | _ :: _, [] => .inr (.inr rfl)
 | x :: a, y :: b => by
  unfold X6
  split
  · exact .inl rfl
  split
  · exact .inr (.inr rfl)
  exact Ql0 a b
theorem U3 : ∀ {a b : Tp}, X6 a b = 0 ↔ a = b
 | [], [] => by simp [X6]
 | [], _ :: _ => by simp [X6]
 | _ :: _, [] => by simp [X6]
 | x :: a, y :: b => by
  unfold X6
  split
  · constructor
    · intro h; omega
    intro h; injection h; omega
  split
  · constructor
    · intro h; omega
    intro h; injection h; omega
  rw [U3, List.cons.injEq]
  constructor
  · intro h; exact ⟨by omega, h⟩
  intro h; exact h.2
theorem We (a : Tp) : X6 a a = 0 := U3.2 rfl
theorem Vq : ∀ a b : Tp, X6 b a = -X6 a b
 | [], [] => rfl
 | [], _ :: _ => rfl
 | _ :: _, [] => rfl
 | x :: a, y :: b => by
  unfold X6
  by_cases h1 : x < y
  · rw [if_pos h1, if_neg (by omega), if_pos h1]; rfl
  by_cases h2 : y < x
  · rw [if_pos h2, if_neg h1, if_pos h2]
  rw [if_neg h2, if_neg h1, if_neg h1, if_neg h2]; exact Vq a b
theorem Qcl : ∀ {a b c : Tp}, X6 a b ≤ 0 → X6 b c ≤ 0 → X6 a c ≤ 0 ∧ (X6 a c = 0 → X6 a b = 0 ∧ X6 b c = 0)
 | [], [], c, _, h => ⟨h, fun h2 => ⟨rfl, h2⟩⟩
 | [], _ :: _, [], _, h => by simp [X6] at h
 | [], _ :: _, _ :: _, _, _ => by simp [X6]
 | _ :: _, [], _, h, _ => by simp [X6] at h
 | _ :: _, _ :: _, [], _, h => by simp [X6] at h
 | x :: a, y :: b, z :: c, h1, h2 => by
  have ih := @Qcl a b c
  unfold X6 at h1 h2 ⊢
  by_cases c1 : x < y
  · by_cases c2 : y < z
    · simp [c1, c2, show x < z from by omega]
    by_cases c3 : z < y
    · simp [c2, c3] at h2
    have : y = z := by omega
    subst this; simp [c1]
  by_cases c4 : y < x
  · simp [c1, c4] at h1
  have : x = y := by omega
  subst this
  by_cases c2 : x < z
  · simp [c2]
  by_cases c3 : z < x
  · simp [c2, c3] at h2
  have : x = z := by omega
  subst this
  simp only [Int.lt_irrefl, if_false] at h1 h2 ⊢
  exact ih h1 h2
theorem Qfl {a b c : Tp} (h1 : X6 a b < 0) (h2 : X6 b c < 0) : X6 a c < 0 := by
 obtain ⟨h3, h4⟩ := Qcl (a := a) (b := b) (c := c) (by omega) (by omega)
 rcases Int.lt_or_eq_of_le h3 with h | h
 · exact h
 have := (h4 h).1; omega
theorem swo : Sort.SWO (ltc X6) where
 irrefl := fun x => by simp [ltc, We]
 trans := fun x y z h1 h2 => by simp only [ltc, decide_eq_true_eq] at h1 h2 ⊢; exact Qfl h1 h2
 ntrans := fun x y z h1 h2 => by
  simp only [ltc, decide_eq_false_iff_not] at h1 h2 ⊢
  have n1 := Vq x y; have n2 := Vq y z; have n3 := Vq x z
  have := (Qcl (a := z) (b := y) (c := x) (by omega) (by omega)).1
  omega
theorem Qcm {α : Type} [Inhabited α] {l : List α} {k : Nat} (h : k < l.length) : l.drop k = at' l (k : Int) :: l.drop (k + 1) := by
 rw [Q1 h]; exact List.drop_eq_getElem_cons h
theorem Qhm {a b : Tp} {i : Nat} (h1 : i < a.length) (h2 : i < b.length) : X6 (a.drop i) (b.drop i) = if at' a (i : Int) < at' b (i : Int) then -1 else if at' b (i : Int) < at' a (i : Int) then 1 else X6 (a.drop (i + 1)) (b.drop (i + 1)) := by
 rw [Qcm h1, Qcm h2, X6]
theorem Ql1 {a b : Tp} {i : Nat} (h1 : i < a.length) (h2 : b.length ≤ i) : X6 (a.drop i) (b.drop i) = 1 := by
 rw [Qcm h1, List.drop_of_length_le h2]; rfl
theorem Ql2 {a b : Tp} {i : Nat} (h1 : a.length ≤ i) (h2 : i < b.length) : X6 (a.drop i) (b.drop i) = -1 := by
 rw [Qcm h2, List.drop_of_length_le h1]; rfl
theorem Ql3 {a b : Tp} {i : Nat} (h1 : a.length ≤ i) (h2 : b.length ≤ i) : X6 (a.drop i) (b.drop i) = 0 := by
 rw [List.drop_of_length_le h1, List.drop_of_length_le h2]; rfl
def Xa : List Tp → Bool
 | [] => true
 | [_] => true
 | x :: y :: l => decide (X6 x y < 0) && Xa (y :: l)
def Ys (l : List Tp) : Prop := l.Pairwise fun x y => X6 x y < 0
theorem Jt : ∀ {l : List Tp}, Xa l = true ↔ Ys l
 | [] => by simp [Xa, Ys]
 | [x] => by simp [Xa, Ys]
 | x :: y :: l => by
  rw [Xa, Bool.and_eq_true, decide_eq_true_eq, Jt]
  unfold Ys
  rw [List.pairwise_cons (a := x)]
  constructor
  · rintro ⟨h1, h2⟩
    refine ⟨fun z hz => ?_, h2⟩
    rcases List.mem_cons.1 hz with rfl | hz
    · exact h1
    exact Qfl h1 ((List.pairwise_cons.1 h2).1 z hz)
  rintro ⟨h1, h2⟩
  exact ⟨h1 y List.mem_cons_self, h2⟩
theorem Qor {l : List Tp} {i : Nat} (h : i + 1 < l.length) : Xa (l.drop i) = (decide (X6 (at' l (i : Int)) (at' l ((i + 1 : Nat) : Int)) < 0) && Xa (l.drop (i + 1))) := by
 rw [Qcm (by omega : i < l.length), Qcm h, Xa]
theorem Qrw {l : List Tp} {i : Nat} (h : l.length ≤ i + 1) : Xa (l.drop i) = true := by
 match hl : l.drop i with
 | [] => rfl
 | [_] => rfl
 | x :: y :: r =>
  have : (l.drop i).length ≤ 1 := by rw [List.length_drop]; omega
  rw [hl] at this; simp at this
theorem Ji : ∀ {l m : List Tp}, Ys l → Ys m → (∀ x, x ∈ l ↔ x ∈ m) → l = m
 | [], [], _, _, _ => rfl
 | [], y :: m, _, _, h => absurd ((h y).2 List.mem_cons_self) (by simp)
 | x :: l, [], _, _, h => absurd ((h x).1 List.mem_cons_self) (by simp)
 | x :: l, y :: m, hl, hm, h => by
  have hl1 := List.pairwise_cons.1 hl
  have hm1 := List.pairwise_cons.1 hm
  have hxy : x = y := by
   rcases List.mem_cons.1 ((h x).1 List.mem_cons_self) with e | hx
   · exact e
   rcases List.mem_cons.1 ((h y).2 List.mem_cons_self) with e | hy
   · exact e.symm
   have h1 := hl1.1 y hy
   have h2 := hm1.1 x hx
   have := Vq x y; omega
  subst hxy
  congr 1
  refine Ji hl1.2 hm1.2 fun z => ?_
  have hn : ∀ {l : List Tp}, (∀ z ∈ l, X6 x z < 0) → x ∉ l := fun h3 hx => by have := h3 x hx; rw [We] at this; omega
  have hz := h z
  constructor
  · intro hzl
    rcases List.mem_cons.1 (hz.1 (List.mem_cons_of_mem _ hzl)) with e | h3
    · subst e; exact absurd hzl (hn hl1.1)
    exact h3
  intro hzm
  rcases List.mem_cons.1 (hz.2 (List.mem_cons_of_mem _ hzm)) with e | h3
  · subst e; exact absurd hzm (hn hm1.1)
  exact h3
def Qs (a b : List Tp) : List Tp := a.filter fun x => !b.contains x
theorem Yo {a b : List Tp} (h : Ys a) : Ys (Qs a b) := h.sublist (List.filter_sublist)
theorem Xm {a b : List Tp} {x : Tp} : x ∈ Qs a b ↔ x ∈ a ∧ x ∉ b := by
 unfold Qs; simp [List.mem_filter]
def J3 (t : Tp) (s : List Tp × Bool) (x : Tp) : List Tp × Bool := if !s.2 && decide (X6 t x < 0) then (s.1 ++ [t] ++ [x], true) else (s.1 ++ [x], s.2)
def Uu (t : Tp) (l : List Tp) : List Tp × Bool := l.foldl (J3 t) ([], false)
def Qaz (t : Tp) (l : List Tp) : List Tp := if (Uu t l).2 then (Uu t l).1 else (Uu t l).1 ++ [t]
def Wf (out : List Tp) (t : Tp) : List Tp := if out.contains t then out else Qaz t out
def Jm (l : List Tp) : List Tp := l.foldl Wf []
theorem Qa0 (t : Tp) : ∀ (l : List Tp) (acc : List Tp), Ys l →
 l.foldl (J3 t) (acc, false) = if l.any (fun x => decide (X6 t x < 0)) then (acc ++ l.filter (fun x => !decide (X6 t x < 0)) ++ [t] ++ l.filter (fun x => decide (X6 t x < 0)), true) else (acc ++ l, false)
 | [], acc, _ => by simp
 | x :: l, acc, h => by
  have h1 := List.pairwise_cons.1 h
  have hdone : ∀ (l : List Tp) (acc : List Tp), l.foldl (J3 t) (acc, true) = (acc ++ l, true) := by
   intro l
   induction l with
   | nil => intro acc; simp
   | cons y l ih => intro acc; rw [List.foldl_cons, show J3 t (acc, true) y = (acc ++ [y], true) from by simp [J3], ih]; simp
  rw [List.foldl_cons]
  by_cases hx : X6 t x < 0
  · have hall : ∀ z ∈ l, X6 t z < 0 := fun z hz => Qfl hx (h1.1 z hz)
    rw [show J3 t (acc, false) x = (acc ++ [t] ++ [x], true) from by simp [J3, hx], hdone]
    have e1 : l.filter (fun x => decide (X6 t x < 0)) = l := List.filter_eq_self.2 fun z hz => by simp [hall z hz]
    have e2 : l.filter (fun x => !decide (X6 t x < 0)) = [] := List.filter_eq_nil_iff.2 fun z hz => by simp [hall z hz]
    simp [hx, e1, e2]
  rw [show J3 t (acc, false) x = (acc ++ [x], false) from by simp [J3, hx], Qa0 t l _ h1.2]
  simp [hx]
theorem Qos {t : Tp} {l : List Tp} (h : Ys l) (x : Tp) : x ∈ Qaz t l ↔ x = t ∨ x ∈ l := by
 unfold Qaz Uu
 rw [Qa0 t l [] h]
 by_cases ha : l.any (fun x => decide (X6 t x < 0)) = true
 · rw [if_pos ha]
   simp only [if_true, List.nil_append, List.mem_append, List.mem_filter, List.mem_singleton]
   constructor
   · rintro ((h1 | h1) | h1)
     · exact .inr h1.1
     · exact .inl h1
     exact .inr h1.1
   rintro (h1 | h1)
   · exact .inl (.inr h1)
   by_cases h2 : X6 t x < 0
   · exact .inr ⟨h1, by simp [h2]⟩
   exact .inl (.inl ⟨h1, by simp [h2]⟩)
 rw [if_neg ha]
 simp only [Bool.false_eq_true, if_false, List.nil_append, List.mem_append, List.mem_singleton]
 constructor
 · rintro (h1 | h1)
   · exact .inr h1
   exact .inl h1
 rintro (h1 | h1)
 · exact .inr h1
 exact .inl h1
theorem Qko {t : Tp} {l : List Tp} (h : Ys l) (hn : t ∉ l) : Ys (Qaz t l) := by
 have hlt : ∀ x ∈ l, ¬ X6 t x < 0 → X6 x t < 0 := fun x hx h1 => by
  have h2 := Vq t x
  rcases Ql0 t x with e | e | e
  · omega
  · rw [U3] at e; subst e; exact absurd hx hn
  omega
 unfold Qaz Uu
 rw [Qa0 t l [] h]
 by_cases ha : l.any (fun x => decide (X6 t x < 0)) = true
 · rw [if_pos ha]
   simp only [if_true, List.nil_append]
   unfold Ys
   rw [List.pairwise_append, List.pairwise_append]
   refine ⟨⟨h.sublist List.filter_sublist, List.pairwise_singleton _ _, ?_⟩, h.sublist List.filter_sublist, ?_⟩
   · intro x hx y hy
     rw [List.mem_filter] at hx
     rw [List.mem_singleton] at hy; subst hy
     exact hlt x hx.1 (by simpa using hx.2)
   intro x hx y hy
   rw [List.mem_filter] at hy
   have h1 : X6 t y < 0 := by simpa using hy.2
   rcases List.mem_append.1 hx with hx | hx
   · rw [List.mem_filter] at hx
     exact Qfl (hlt x hx.1 (by simpa using hx.2)) h1
   rw [List.mem_singleton] at hx; subst hx; exact h1
 rw [if_neg ha]
 simp only [Bool.false_eq_true, if_false, List.nil_append]
 unfold Ys
 rw [List.pairwise_append]
 refine ⟨h, List.pairwise_singleton _ _, fun x hx y hy => ?_⟩
 rw [List.mem_singleton] at hy; subst hy
 refine hlt x hx fun h1 => ha (List.any_eq_true.2 ⟨x, hx, by simp [h1]⟩)
theorem Xj (l : List Tp) : Ys (Jm l) ∧ ∀ x, x ∈ Jm l ↔ x ∈ l := by
 have key : ∀ (l out : List Tp), Ys out → Ys (l.foldl Wf out) ∧ ∀ x, x ∈ l.foldl Wf out ↔ x ∈ out ∨ x ∈ l := by
  intro l
  induction l with
  | nil => intro out h; exact ⟨h, fun x => by simp⟩
  | cons t l ih =>
   intro out h
   rw [List.foldl_cons]
   by_cases hc : out.contains t = true
   · have hm : t ∈ out := by simpa using hc
     rw [show Wf out t = out from by rw [Wf, if_pos hc]]
     obtain ⟨h1, h2⟩ := ih out h
     refine ⟨h1, fun x => ?_⟩
     rw [h2 x, List.mem_cons]
     constructor
     · rintro (h3 | h3)
       · exact .inl h3
       exact .inr (.inr h3)
     rintro (h3 | h3 | h3)
     · exact .inl h3
     · subst h3; exact .inl hm
     exact .inr h3
   have hm : t ∉ out := by simpa using hc
   rw [show Wf out t = Qaz t out from by rw [Wf, if_neg hc]]
   obtain ⟨h1, h2⟩ := ih (Qaz t out) (Qko h hm)
   refine ⟨h1, fun x => ?_⟩
   rw [h2 x, Qos h, List.mem_cons]
   constructor
   · rintro ((h3 | h3) | h3)
     · exact .inr (.inl h3)
     · exact .inl h3
     exact .inr (.inr h3)
   rintro (h3 | h3 | h3)
   · exact .inl (.inr h3)
   · exact .inl (.inl h3)
   exact .inr h3
 obtain ⟨h1, h2⟩ := key l [] List.Pairwise.nil
 exact ⟨h1, fun x => by rw [Jm, h2 x]; simp⟩
theorem Qbw {l s : List Tp} (h : Ys s) (hm : ∀ x, x ∈ s ↔ x ∈ l) : s = Jm l := Ji h (Xj l).1 fun x => (hm x).trans ((Xj l).2 x).symm
theorem Ql4 (t : Tp) (s : List Tp × Bool) (x : Tp) : (J3 t s x).1.length + cond (J3 t s x).2 0 1 ≤ s.1.length + cond s.2 0 1 + 1 := by
 unfold J3
 split
 · rename_i h; simp only [Bool.and_eq_true, Bool.not_eq_true'] at h; simp [h.1]
 simp; omega
theorem Ql5 (t : Tp) (l : List Tp) : (Uu t l).1.length + cond (Uu t l).2 0 1 ≤ l.length + 1 := by
 have key : ∀ (l : List Tp) (s : List Tp × Bool), (l.foldl (J3 t) s).1.length + cond (l.foldl (J3 t) s).2 0 1 ≤ s.1.length + cond s.2 0 1 + l.length := by
  intro l
  induction l with
  | nil => intro s; simp
  | cons x l ih =>
   intro s
   have h1 := ih (J3 t s x); have h2 := Ql4 t s x
   rw [List.foldl_cons, List.length_cons]; omega
 have := key l ([], false)
 simpa [Uu, Nat.add_comm] using this
theorem Qot (t : Tp) (l : List Tp) : (Qaz t l).length ≤ l.length + 1 := by
 have h := Ql5 t l
 unfold Qaz
 split
 · rename_i h1; rw [h1] at h; simpa using h
 rename_i h1; rw [Bool.not_eq_true] at h1; rw [h1] at h; simpa using h
theorem Uf (l : List Tp) : (Jm l).length ≤ l.length := by
 have key : ∀ (l out : List Tp), (l.foldl Wf out).length ≤ out.length + l.length := by
  intro l
  induction l with
  | nil => intro out; simp
  | cons t l ih =>
   intro out
   have h1 := ih (Wf out t)
   have h2 : (Wf out t).length ≤ out.length + 1 := by
    unfold Wf; split
    · omega
    exact Qot t out
   rw [List.foldl_cons, List.length_cons]; omega
 simpa [Jm] using key l []
end Go.Tu
namespace Go.Gw
open Go
abbrev pc := @Zd
abbrev pn := @Jc
theorem pl {L : List It} : Jp L L := ⟨[], by simp⟩
theorem pd {L M : List It} {x : It} (h : Jp L M) : Jp (x :: L) M := let ⟨R, hR⟩ := h; ⟨x :: R, (hR.cons x).trans List.perm_middle.symm⟩
abbrev op := @Qfg
abbrev oc := @OTs.cons
abbrev oN := @OTs.nil
abbrev ot := @OT.const
abbrev pad := @Qp5
abbrev pls := @U8
abbrev plb := @W9
abbrev aC := @Vx
abbrev tg := @Qg4
abbrev ea := @Qcf
abbrev bh := @Qfc
abbrev tR := @V6
abbrev pL := @Qgm
abbrev rw_ := @Qy4
abbrev rgo := @Qy6
abbrev rG := @Q2y
abbrev tn := @Yc
abbrev nn := @Q6
abbrev sq := @Zi
abbrev rg := @Xv
abbrev te := @Z5
abbrev tc := @W4
abbrev sk := @W3
abbrev tb := @Qdu
abbrev bn := @Qap
abbrev tx := @Qcd
abbrev tt := @J4
abbrev en := @Zv
abbrev oA := @Ku
abbrev asv := @Qbq
abbrev plv := @Qf4
abbrev plo := @Qkh
abbrev pio := @Qkg
abbrev oG := @Q4m
abbrev gm := @OT.gu_mk
abbrev gu := @OT.gu
abbrev pf := @Qum
abbrev oT := @OT.tmp
abbrev mA := @Zz
abbrev pA := @Qq
theorem ec (t : Nat) {N : Nat} {Γ Δ : Env} {T : Ty} (h : find Γ t = some T) (hs : Yy N Γ Δ) : Yy N Γ ((t, T) :: Δ) := Qy (OT.tmp h) hs
theorem e2 (a b : Nat) {N : Nat} {Γ Δ : Env} {A B : Ty} (h : (find Γ a, find Γ b) = (some A, some B)) (hs : Yy N Γ Δ) : Yy N Γ ((a, A) :: (b, B) :: Δ) := ec a (congrArg Prod.fst h) (ec b (congrArg Prod.snd h) hs)
theorem e4 (a b c d : Nat) {N : Nat} {Γ Δ : Env} {A B D E : Ty} (h : ((find Γ a, find Γ b), find Γ c, find Γ d) = ((some A, some B), some D, some E)) (hs : Yy N Γ Δ) : Yy N Γ ((a, A) :: (b, B) :: (c, D) :: (d, E) :: Δ) := e2 a b (congrArg Prod.fst h) (e2 c d (congrArg Prod.snd h) hs)
theorem e8 (a b c d e f g i : Nat) {N : Nat} {Γ Δ : Env} {A B D E F G I J : Ty} (h : (((find Γ a, find Γ b), find Γ c, find Γ d), (find Γ e, find Γ f), find Γ g, find Γ i) = (((some A, some B), some D, some E), (some F, some G), some I, some J)) (hs : Yy N Γ Δ) : Yy N Γ ((a, A) :: (b, B) :: (c, D) :: (d, E) :: (e, F) :: (f, G) :: (g, I) :: (i, J) :: Δ) := e4 a b c d (congrArg Prod.fst h) (e4 e f g i (congrArg Prod.snd h) hs)
theorem oz {N : Nat} {Γ : Env} {d : Nat} {T : Ty} (h : find Γ d = some T := by rfl) : OT N Γ (.tmp d) T := OT.tmp h
theorem ef {N : Nat} {Γ Δ : Env} (h : Yy N Γ Δ := by repeat (first | exact en | refine ec _ rfl ?_)) : Yy N Γ Δ := h
theorem pR {L : List It} : List.Perm L L := List.Perm.refl _
theorem nf {b : Bool} {p : Prop} (h : b = true) (e : b = false) : p := Bool.noConfusion (h.symm.trans e)
theorem cA {A B : Bool → Prop} (h0 : A false → B false) (h1 : A true → B true) : ∀ c, A c → B c := fun c => by cases c; exact h0; exact h1
theorem cB {ρ : Type} {A : Bool → Prop} {B : Bool → ρ → Prop} (h0 : ∀ r, A false → B false r) (h1 : ∀ r, A true → B true r) : ∀ c r, A c → B c r := fun c => by cases c; exact h0; exact h1
theorem cAf {f : Bool → Bool} {B : Bool → Prop} (e : f true = false) (h : f false = true → B false) : ∀ c, f c = true → B c := cA h fun hc => nf hc e
theorem cAt {f : Bool → Bool} {B : Bool → Prop} (e : f false = false) (h : f true = true → B true) : ∀ c, f c = true → B c := cA (fun hc => nf hc e) h
theorem cBf {ρ : Type} {f : Bool → Bool} {B : Bool → ρ → Prop} (e : f true = false) (h : ∀ r, f false = true → B false r) : ∀ c r, f c = true → B c r := cB h fun r hc => nf hc e
theorem cBt {ρ : Type} {f : Bool → Bool} {B : Bool → ρ → Prop} (e : f false = false) (h : ∀ r, f true = true → B true r) : ∀ c r, f c = true → B c r := cB (fun r hc => nf hc e) h
theorem cq : (∀ (p : Prop) [Decidable p], (decide p = true) = p) ∧ (∀ (p : Prop) [Decidable p], (decide p = false) = ¬ p) ∧ (∀ a b : Bool, ((a || b) = true) = (a = true ∨ b = true)) ∧ (∀ a b : Bool, ((a && b) = true) = (a = true ∧ b = true)) ∧
    (∀ a b : Bool, ((a || b) = false) = (a = false ∧ b = false)) ∧ (∀ a b : Bool, ((a && b) = false) = (a = false ∨ b = false)) ∧ (∀ a : Bool, ((!a) = true) = (a = false)) ∧ (∀ a : Bool, ((!a) = false) = (a = true)) ∧ (∀ p : Prop, (¬ ¬ p) = p) :=
  ⟨fun p _ => by simp, fun p _ => by simp, by simp, by simp, by simp, by simp, by simp, by simp, fun p => propext Classical.not_not⟩
theorem cq2 : (∀ (p : Prop) [Decidable p], (decide p = true) = p) ∧ (∀ (p : Prop) [Decidable p], (decide p = false) = ¬ p) := ⟨fun p _ => by simp, fun p _ => by simp⟩
section
variable {C : Cx} {Γ : Env} {L : List It} {Q : Exit → Act → World → Prop} {ops : Array Oper} {rest : List Oper} {dst : Option Tmp} {e : Op} {ty : TypeId} {pos : String} {after : Array Edge}
theorem oP {T : Ty} (h : Pure C Γ L ⟨dst, e, ty, pos, after, none⟩ T) (hd : Wb C.N dst = true) (k : Tr C (upd dst T Γ) L (wpList C.P ops Q rest)) : Tr C Γ L (wpList C.P ops Q (⟨dst, e, ty, pos, after, none⟩ :: rest)) := Xb h rfl hd k
theorem mv {t : Nat} {T : Ty} (h : find Γ t = some T) (hd : Wb C.N dst = true) (k : Tr C (upd dst T Γ) L (wpList C.P ops Q rest)) : Tr C Γ L (wpList C.P ops Q (⟨dst, .move (.tmp t), ty, pos, after, none⟩ :: rest)) := oP (Qm (OT.tmp h)) hd k
theorem av {t : Nat} {T : Ty} (h : find Γ t = some T) (hd : Wb C.N dst = true) (k : Tr C (upd dst T Γ) L (wpList C.P ops Q rest)) : Tr C Γ L (wpList C.P ops Q (⟨dst, .assign (.tmp t), ty, pos, after, none⟩ :: rest)) := oP (Xz (OT.tmp h)) hd k
theorem ak {v : Value} (hd : Wb C.N dst = true) (k : Tr C (upd dst (IsV v) Γ) L (wpList C.P ops Q rest)) : Tr C Γ L (wpList C.P ops Q (⟨dst, .assign (.const v), ty, pos, after, none⟩ :: rest)) := oP (Xz OT.const) hd k
theorem rP {T : Ty} (h : Pure C Γ L ⟨dst, e, ty, pos, after, none⟩ T) : ROp C Γ L ops ⟨dst, e, ty, pos, after, none⟩ T := Qul rfl h
theorem rmv {t : Nat} {T : Ty} (h : find Γ t = some T) : ROp C Γ L ops ⟨dst, .move (.tmp t), ty, pos, after, none⟩ T := rP (Qm (OT.tmp h))
theorem rJ {o : Oper} {T : Ty} {j d : Nat} {want b : Bool} (h0 : (o.guard, (ops[j]?).bind (·.dst), decide (d < C.N), find Γ d) = (some (j, want), some d, true, some (Xe b))) (h : True ∧ b = want → b = want → ROp C Γ L ops { o with guard := none } T) : ROp C Γ L ops o (GuT (True ∧ b = want) T) := by
  injection h0 with h1 h2
  injection h2 with h2 h3
  injection h3 with h3 h4
  exact rG h1 h2 h3 (gm (oT h4)) fun hg => h hg hg.2
end
end Go.Gw
namespace Go.Proofs.YtklhdalppmjnaaaGreatDoor
open Go Go.Gw
theorem ynm : Xy Tryz.prog 3 false 1 = true := by decide +kernel
theorem yuu : enters Tryz.prog 63 = true := by decide +kernel
theorem yko : Xy Tryz.prog 51 false 1 = true := by decide +kernel
theorem yhx : enters Tryz.prog 33 = true := by decide +kernel
theorem ygo : Xi Tryz.prog 38 0 0 false 1 = true := by decide +kernel
theorem y1z : Xy Tryz.prog 36 false 1 = true := by decide +kernel
theorem yai : enters Tryz.prog 12 = true := by decide +kernel
theorem yan : Xi Tryz.prog 38 1 1 false 1 = true := by decide +kernel
theorem yiy : Uq Tryz.prog 36 51 1 24 = true := by decide +kernel
theorem yh2 : Xy Tryz.prog 38 true 2 = true := by decide +kernel
theorem ye1 : Uq Tryz.prog 51 3 1 8 = true := by decide +kernel
theorem yz4 : enters Tryz.prog 66 = true := by decide +kernel
theorem y28 : enters Tryz.prog 65 = true := by decide +kernel
theorem ykz : enters Tryz.prog 37 = true := by decide +kernel
theorem yfb : enters Tryz.prog 62 = true := by decide +kernel
theorem yxx : enters Tryz.prog 92 = true := by decide +kernel
theorem y8z : enters Tryz.prog 91 = true := by decide +kernel
theorem ylw : Xy Tryz.prog 9 false 1 = true := by decide +kernel
theorem yd4 : enters Tryz.prog 50 = true := by decide +kernel
theorem yu6 : enters Tryz.prog 83 = true := by decide +kernel
theorem y46 : Xi Tryz.prog 25 3 3 false 1 = true := by decide +kernel
theorem y2r : Xy Tryz.prog 23 false 1 = true := by decide +kernel
theorem y03 : Xy Tryz.prog 49 true 3 = true := by decide +kernel
theorem ytp : Xi Tryz.prog 49 0 0 false 1 = true := by decide +kernel
theorem ypg : Xi Tryz.prog 49 2 2 false 1 = true := by decide +kernel
theorem yr6 : Uq Tryz.prog 22 9 1 16 = true := by decide +kernel
theorem y5k : enters Tryz.prog 54 = true := by decide +kernel
theorem yd0 : Xi Tryz.prog 25 0 0 false 1 = true := by decide +kernel
theorem yye : enters Tryz.prog 53 = true := by decide +kernel
theorem yel : Xi Tryz.prog 25 1 1 false 1 = true := by decide +kernel
theorem yys : Xi Tryz.prog 25 4 4 false 1 = true := by decide +kernel
theorem yss : Xi Tryz.prog 25 2 2 false 1 = true := by decide +kernel
theorem ye4 : Xy Tryz.prog 22 false 1 = true := by decide +kernel
theorem yl2 : Xi Tryz.prog 49 1 1 false 1 = true := by decide +kernel
theorem y4q : Xy Tryz.prog 25 true 5 = true := by decide +kernel
theorem yew : enters Tryz.prog 49 = true := by decide +kernel
theorem yin : enters Tryz.prog 34 = true := by decide +kernel
theorem y16 : Xy Tryz.prog 42 true 3 = true := by decide +kernel
theorem yh3 : Xi Tryz.prog 42 1 1 false 1 = true := by decide +kernel
theorem ye8 : Xi Tryz.prog 42 0 0 false 1 = true := by decide +kernel
theorem y9l : Xi Tryz.prog 42 2 2 false 1 = true := by decide +kernel
theorem yd7 : Xy Tryz.prog 108 true 2 = true := by decide +kernel
theorem ywt : Xi Tryz.prog 204 2 2 false 1 = true := by decide +kernel
theorem y7m : Xy Tryz.prog 202 false 1 = true := by decide +kernel
theorem yrl : Xi Tryz.prog 204 1 1 false 1 = true := by decide +kernel
theorem yl0 : Xy Tryz.prog 160 false 1 = true := by decide +kernel
theorem yie : Uq Tryz.prog 160 108 2 16 = true := by decide +kernel
theorem yfy : Xi Tryz.prog 204 0 0 false 1 = true := by decide +kernel
theorem y30 : Xy Tryz.prog 120 false 1 = true := by decide +kernel
theorem y9t : Uq Tryz.prog 50 3 1 8 = true := by decide +kernel
theorem y5v : enters Tryz.prog 94 = true := by decide +kernel
theorem ywh : enters Tryz.prog 95 = true := by decide +kernel
theorem yu4 : enters Tryz.prog 97 = true := by decide +kernel
theorem y07 : enters Tryz.prog 60 = true := by decide +kernel
theorem y5r : enters Tryz.prog 61 = true := by decide +kernel
theorem yhb : enters Tryz.prog 64 = true := by decide +kernel
theorem ygf : enters Tryz.prog 74 = true := by decide +kernel
theorem yzo : enters Tryz.prog 109 = true := by decide +kernel
theorem y0k : enters Tryz.prog 72 = true := by decide +kernel
theorem yx4 : Uq Tryz.prog 146 36 1 24 = true := by decide +kernel
theorem y9u : enters Tryz.prog 42 = true := by decide +kernel
theorem yb7 : enters Tryz.prog 43 = true := by decide +kernel
theorem yxc : enters Tryz.prog 110 = true := by decide +kernel
theorem y43 : enters Tryz.prog 75 = true := by decide +kernel
theorem y4c : enters Tryz.prog 44 = true := by decide +kernel
theorem yqh : Xy Tryz.prog 127 true 2 = true := by decide +kernel
theorem ymg : Xi Tryz.prog 187 0 0 false 1 = true := by decide +kernel
theorem yi8 : Xy Tryz.prog 184 false 1 = true := by decide +kernel
theorem ywi : enters Tryz.prog 132 = true := by decide +kernel
theorem yt7 : Xi Tryz.prog 187 1 1 false 1 = true := by decide +kernel
theorem ymv : Xy Tryz.prog 185 false 1 = true := by decide +kernel
theorem ydu : Uq Tryz.prog 185 5 1 1 = true := by decide +kernel
theorem y1x : Xy Tryz.prog 191 true 3 = true := by decide +kernel
theorem yjw : Xi Tryz.prog 191 0 0 false 1 = true := by decide +kernel
theorem yp3 : Xy Tryz.prog 4 false 1 = true := by decide +kernel
theorem ysr : Xy Tryz.prog 5 false 1 = true := by decide +kernel
theorem yzt : Xi Tryz.prog 191 2 2 false 1 = true := by decide +kernel
theorem y9s : Xi Tryz.prog 191 1 1 false 1 = true := by decide +kernel
theorem ytb : enters Tryz.prog 130 = true := by decide +kernel
theorem yck : enters Tryz.prog 131 = true := by decide +kernel
theorem yyy : enters Tryz.prog 112 = true := by decide +kernel
theorem y3a : Uq Tryz.prog 193 191 3 32 = true := by decide +kernel
theorem yke : enters Tryz.prog 111 = true := by decide +kernel
theorem ynf : enters Tryz.prog 113 = true := by decide +kernel
theorem y59 : enters Tryz.prog 114 = true := by decide +kernel
theorem ytg : enters Tryz.prog 221 = true := by decide +kernel
theorem yh0 : enters Tryz.prog 222 = true := by decide +kernel
theorem yha : Xi Tryz.prog 115 5 9 false 1 = true := by decide +kernel
theorem y32 : Xy Tryz.prog 111 false 1 = true := by decide +kernel
theorem y7a : Xi Tryz.prog 123 2 2 false 1 = true := by decide +kernel
theorem yht : Xy Tryz.prog 121 false 1 = true := by decide +kernel
theorem y3c : Xi Tryz.prog 115 2 6 false 1 = true := by decide +kernel
theorem yo2 : Xy Tryz.prog 50 false 1 = true := by decide +kernel
theorem yth : Xi Tryz.prog 115 3 7 false 1 = true := by decide +kernel
theorem yhd : Xi Tryz.prog 115 0 0 true 5 = true := by decide +kernel
theorem yc1 : Xi Tryz.prog 115 4 8 false 1 = true := by decide +kernel
theorem yfk : enters Tryz.prog 80 = true := by decide +kernel
theorem yn5 : Xi Tryz.prog 115 6 10 false 1 = true := by decide +kernel
theorem y2a : Xy Tryz.prog 113 false 1 = true := by decide +kernel
theorem y3m : Xy Tryz.prog 117 false 1 = true := by decide +kernel
theorem ya0 : Xi Tryz.prog 123 0 0 false 1 = true := by decide +kernel
theorem ye0 : Xi Tryz.prog 123 1 1 false 1 = true := by decide +kernel
theorem yqn : enters Tryz.prog 224 = true := by decide +kernel
theorem yb2 : enters Tryz.prog 218 = true := by decide +kernel
theorem y7i : enters Tryz.prog 223 = true := by decide +kernel
theorem ybd : enters Tryz.prog 51 = true := by decide +kernel
theorem yxr : enters Tryz.prog 216 = true := by decide +kernel
theorem yve : Xy Tryz.prog 78 false 1 = true := by decide +kernel
theorem yr2 : enters Tryz.prog 79 = true := by decide +kernel
theorem yw2 : Xi Tryz.prog 115 7 11 false 1 = true := by decide +kernel
theorem ydm : Xy Tryz.prog 112 false 1 = true := by decide +kernel
theorem y6z : enters Tryz.prog 215 = true := by decide +kernel
theorem ywx : enters Tryz.prog 77 = true := by decide +kernel
theorem ycv : enters Tryz.prog 81 = true := by decide +kernel
theorem yp7 : enters Tryz.prog 82 = true := by decide +kernel
theorem yd9 : enters Tryz.prog 220 = true := by decide +kernel
theorem yva : enters Tryz.prog 210 = true := by decide +kernel
theorem ycb : enters Tryz.prog 208 = true := by decide +kernel
theorem yow : enters Tryz.prog 211 = true := by decide +kernel
theorem ywr : enters Tryz.prog 52 = true := by decide +kernel
theorem yrc : enters Tryz.prog 213 = true := by decide +kernel
theorem ypm : enters Tryz.prog 212 = true := by decide +kernel
theorem yi7 : enters Tryz.prog 214 = true := by decide +kernel
theorem ya1 : Uq Tryz.prog 23 49 3 48 = true := by decide +kernel
theorem yst : enters Tryz.prog 36 = true := by decide +kernel
theorem ynr : enters Tryz.prog 46 = true := by decide +kernel
theorem yvt : Uq Tryz.prog 113 117 1 8 = true := by decide +kernel
theorem ykt : Xi Tryz.prog 115 1 5 false 1 = true := by decide +kernel
theorem y1e : Xi Tryz.prog 151 0 0 false 1 = true := by decide +kernel
theorem yue : Xy Tryz.prog 149 false 1 = true := by decide +kernel
theorem y6q : Xy Tryz.prog 109 true 2 = true := by decide +kernel
theorem ylx : enters Tryz.prog 76 = true := by decide +kernel
theorem ysc : Xi Tryz.prog 151 1 1 false 1 = true := by decide +kernel
theorem yef : Uq Tryz.prog 153 152 3 24 = true := by decide +kernel
theorem y5c : Xy Tryz.prog 152 true 3 = true := by decide +kernel
theorem yfh : Xi Tryz.prog 152 0 0 false 1 = true := by decide +kernel
theorem yhk : Xi Tryz.prog 152 1 1 false 1 = true := by decide +kernel
theorem yvm : Xi Tryz.prog 152 2 2 false 1 = true := by decide +kernel
theorem yw1 : Xi Tryz.prog 151 2 2 false 1 = true := by decide +kernel
theorem y44 : enters Tryz.prog 204 = true := by decide +kernel
theorem y37 : enters Tryz.prog 88 = true := by decide +kernel
theorem ybp : Xy Tryz.prog 75 false 1 = true := by decide +kernel
theorem yn3 : Xi Tryz.prog 106 2 2 false 1 = true := by decide +kernel
theorem ygw : Xy Tryz.prog 103 false 1 = true := by decide +kernel
theorem yrq : enters Tryz.prog 48 = true := by decide +kernel
theorem yle : enters Tryz.prog 196 = true := by decide +kernel
theorem y69 : enters Tryz.prog 205 = true := by decide +kernel
theorem yea : enters Tryz.prog 197 = true := by decide +kernel
theorem y8k : Xi Tryz.prog 106 1 1 false 1 = true := by decide +kernel
theorem y0b : enters Tryz.prog 198 = true := by decide +kernel
theorem y3h : Uq Tryz.prog 273 109 2 16 = true := by decide +kernel
theorem yzl : enters Tryz.prog 199 = true := by decide +kernel
theorem y8t : enters Tryz.prog 201 = true := by decide +kernel
theorem yi4 : enters Tryz.prog 202 = true := by decide +kernel
theorem yeg : Xi Tryz.prog 106 3 3 false 1 = true := by decide +kernel
theorem yv0 : Xi Tryz.prog 106 0 0 false 1 = true := by decide +kernel
theorem y9o : enters Tryz.prog 192 = true := by decide +kernel
theorem ykk : enters Tryz.prog 194 = true := by decide +kernel
theorem yk0 : enters Tryz.prog 193 = true := by decide +kernel
theorem y20 : enters Tryz.prog 195 = true := by decide +kernel
theorem y0p : enters Tryz.prog 86 = true := by decide +kernel
theorem yej : enters Tryz.prog 87 = true := by decide +kernel
theorem yz1 : enters Tryz.prog 90 = true := by decide +kernel
theorem yz8 : enters Tryz.prog 55 = true := by decide +kernel
theorem yu3 : enters Tryz.prog 56 = true := by decide +kernel
theorem y4p : enters Tryz.prog 58 = true := by decide +kernel
theorem yfo : enters Tryz.prog 57 = true := by decide +kernel
theorem ybt : enters Tryz.prog 59 = true := by decide +kernel
theorem yxf : enters Tryz.prog 35 = true := by decide +kernel
theorem y58 : enters Tryz.prog 47 = true := by decide +kernel
theorem ys1 : enters Tryz.prog 45 = true := by decide +kernel
theorem ygk : enters Tryz.prog 14 = true := by decide +kernel
theorem y5m : enters Tryz.prog 28 = true := by decide +kernel
theorem yn6 : Xi Tryz.prog 74 2 6 false 1 = true := by decide +kernel
theorem y4l : Xy Tryz.prog 70 false 1 = true := by decide +kernel
theorem y2t : enters Tryz.prog 29 = true := by decide +kernel
theorem y7w : Xi Tryz.prog 74 1 5 false 1 = true := by decide +kernel
theorem y72 : Xy Tryz.prog 72 false 1 = true := by decide +kernel
theorem yf4 : Xi Tryz.prog 74 0 0 true 5 = true := by decide +kernel
theorem yia : enters Tryz.prog 30 = true := by decide +kernel
theorem y4n : enters Tryz.prog 31 = true := by decide +kernel
theorem y1s : enters Tryz.prog 32 = true := by decide +kernel
theorem yru : Uq Tryz.prog 26 42 3 32 = true := by decide +kernel
theorem y4i : enters Tryz.prog 10 = true := by decide +kernel
theorem yr8 : enters Tryz.prog 11 = true := by decide +kernel
theorem ybh : enters Tryz.prog 13 = true := by decide +kernel
theorem yb3 : Xy Tryz.prog 28 true 2 = true := by decide +kernel
theorem yfr : Xi Tryz.prog 28 0 0 false 1 = true := by decide +kernel
theorem y53 : Xy Tryz.prog 26 false 1 = true := by decide +kernel
theorem y2i : Xi Tryz.prog 28 1 1 false 1 = true := by decide +kernel
theorem yxa : enters Tryz.prog 27 = true := by decide +kernel
theorem y8s : enters Tryz.prog 8 = true := by decide +kernel
theorem yma : Uq Tryz.prog 31 28 2 48 = true := by decide +kernel
theorem ymy : enters Tryz.prog 9 = true := by decide +kernel
theorem y2c : enters Tryz.prog 25 = true := by decide +kernel
theorem y04 : enters Tryz.prog 26 = true := by decide +kernel
theorem ylr : enters Tryz.prog 16 = true := by decide +kernel
end Go.Proofs.YtklhdalppmjnaaaGreatDoor
namespace Go.Proofs.YtklhdalppmjnaaaGreatDoor
open Go Go.Gw Go.So Go.Tu
abbrev kI6 : Kd Int := Jw .i64
theorem zi3 : Xw Tryz.prog 3 kI6 0 := ⟨.int .i64 0, by kernel_rfl, fun H => rfl⟩
theorem z38 : Xw Tryz.prog 51 kT [] := ⟨Qo, by kernel_rfl, fun H => ⟨none, 0, rfl, by simp, by simp, fun h => by simp at h⟩⟩

/-- cmp.isNaN[int] -/
theorem Qj5 (x : Int) : Qu.Ct Tryz.prog 148 [I64 x] (Xe false) := by
 refine Qu.Qn Tryz.func148 rfl rfl ?_
 intro H w
 refine Qu.Zi ?_
 refine Qu.Z5 (Qy (t := 0) (OT.tmp rfl) Zv) ?_
 refine Qu.Xv ?_
 refine Qu.Xb (Xz OT.const) rfl rfl ?_
 refine Qu.Yc ?_
 refine Qu.Q6 ?_
 refine Qu.Zi ?_
 refine Qu.Z5 (Qy (t := 0) (OT.tmp rfl) Zv) ?_
 refine Qu.Xv ?_
 refine Qu.Xb (Qm (OT.tmp rfl)) rfl rfl ?_
 refine Qu.Xb (Qm (OT.tmp rfl)) rfl rfl ?_
 refine Qu.Xb (Yj (OT.tmp rfl) (OT.tmp rfl)) rfl rfl ?_
 refine Qu.Xb (Xz (OT.tmp rfl)) rfl rfl ?_
 refine Qu.Yc ?_
 refine Qu.Q6 ?_
 refine Qu.V6 ?_
 exact Qu.Qi .ret (.inl rfl) rfl () (OT.val (OT.tmp rfl) (congrArg Value.bool (by simp))) trivial (by exact Jc)
/-- cmp.Compare[int] -/
theorem Qlh (x y : Int) : Qu.Ct Tryz.prog 128 [I64 x, I64 y] (I64 (if x < y then -1 else if y < x then 1 else 0)) := by
 refine Qu.Qn Tryz.func128 rfl rfl ?_
 intro H w
 refine Qu.Zi ?_
 refine Qu.Z5 (Qy (t := 0) (OT.tmp rfl) (Qy (t := 1) (OT.tmp rfl) Zv)) ?_
 refine Qu.Xv ?_
 refine Qu.Xb (Xz OT.const) rfl rfl ?_
 refine Qu.Yc ?_
 refine Qu.Q6 ?_
 refine Qu.Zi ?_
 refine Qu.Z5 (Qy (t := 0) (OT.tmp rfl) (Qy (t := 1) (OT.tmp rfl) Zv)) ?_
 refine Qu.Xv ?_
 refine Qu.Xb (Qm (OT.tmp rfl)) rfl rfl ?_
 refine Qu.Ku (Qu.Vx (Qj5 _) (show enters Tryz.prog 148 = true from by decide +kernel) (OTs.cons (OT.tmp rfl) OTs.nil) (List.Perm.refl _)) (List.Perm.refl _) rfl rfl (fun _ _ => ?_)
 refine Qu.Xb (Xz (OT.tmp rfl)) rfl rfl ?_
 refine Qu.Yc ?_
 refine Qu.Q6 ?_
 refine Qu.Zi ?_
 refine Qu.Z5 (Qy (t := 0) (OT.tmp rfl) (Qy (t := 1) (OT.tmp rfl) (Qy (t := 5) (OT.tmp rfl) Zv))) ?_
 refine Qu.Xv ?_
 refine Qu.Xb (Qm (OT.tmp rfl)) rfl rfl ?_
 refine Qu.Ku (Qu.Vx (Qj5 _) (show enters Tryz.prog 148 = true from by decide +kernel) (OTs.cons (OT.tmp rfl) OTs.nil) (List.Perm.refl _)) (List.Perm.refl _) rfl rfl (fun _ _ => ?_)
 refine Qu.Xb (Xz (OT.tmp rfl)) rfl rfl ?_
 refine Qu.Yc ?_
 refine Qu.Q6 ?_
 refine Qu.Zi ?_
 refine Qu.Zi ?_
 refine Qu.Z5 (Qy (t := 0) (OT.tmp rfl) (Qy (t := 1) (OT.tmp rfl) (Qy (t := 5) (OT.tmp rfl) (Qy (t := 6) (OT.tmp rfl) Zv)))) ?_
 refine Qu.Xv ?_
 refine Qu.Xb (Qm (OT.tmp rfl)) rfl rfl ?_
 refine Qu.Yc ?_
 refine Qu.Q6 ?_
 refine Qu.W4 (OT.tmp rfl) (fun c11 => ?_) (fun c11 => ?_)
 · try simp only [decide_eq_true_eq, decide_eq_false_iff_not, Bool.or_eq_true, Bool.and_eq_true, Bool.or_eq_false_iff, Bool.and_eq_false_iff, Bool.not_eq_true', Bool.not_eq_false', ne_eq, Classical.not_not] at c11
   exact absurd c11 (by simp) --done
 · try simp only [decide_eq_true_eq, decide_eq_false_iff_not, Bool.or_eq_true, Bool.and_eq_true, Bool.or_eq_false_iff, Bool.and_eq_false_iff, Bool.not_eq_true', Bool.not_eq_false', ne_eq, Classical.not_not] at c11
   refine Qu.W3 ?_
   refine Qu.Q6 ?_
   refine Qu.Zi ?_
   refine Qu.Zi ?_
   refine Qu.Z5 (Qy (t := 0) (OT.tmp rfl) (Qy (t := 1) (OT.tmp rfl) (Qy (t := 6) (OT.tmp rfl) Zv))) ?_
   refine Qu.Xv ?_
   refine Qu.Xb (Qm (OT.tmp rfl)) rfl rfl ?_
   refine Qu.Yc ?_
   refine Qu.Q6 ?_
   refine Qu.W4 (OT.tmp rfl) (fun c13 => ?_) (fun c13 => ?_)
   · try simp only [decide_eq_true_eq, decide_eq_false_iff_not, Bool.or_eq_true, Bool.and_eq_true, Bool.or_eq_false_iff, Bool.and_eq_false_iff, Bool.not_eq_true', Bool.not_eq_false', ne_eq, Classical.not_not] at c13
     exact absurd c13 (by simp) --done
   · try simp only [decide_eq_true_eq, decide_eq_false_iff_not, Bool.or_eq_true, Bool.and_eq_true, Bool.or_eq_false_iff, Bool.and_eq_false_iff, Bool.not_eq_true', Bool.not_eq_false', ne_eq, Classical.not_not] at c13
     refine Qu.W3 ?_
     refine Qu.Q6 ?_
     refine Qu.Zi ?_
     refine Qu.Zi ?_
     refine Qu.Z5 (Qy (t := 0) (OT.tmp rfl) (Qy (t := 1) (OT.tmp rfl) Zv)) ?_
     refine Qu.Xv ?_
     refine Qu.Xb (Qm (OT.tmp rfl)) rfl rfl ?_
     refine Qu.Xb (Qm (OT.tmp rfl)) rfl rfl ?_
     refine Qu.Xb (Q5 (OT.tmp rfl) (OT.tmp rfl)) rfl rfl ?_
     refine Qu.Yc ?_
     refine Qu.Q6 ?_
     refine Qu.W4 (OT.tmp rfl) (fun c16 => ?_) (fun c16 => ?_)
     · try simp only [decide_eq_true_eq, decide_eq_false_iff_not, Bool.or_eq_true, Bool.and_eq_true, Bool.or_eq_false_iff, Bool.and_eq_false_iff, Bool.not_eq_true', Bool.not_eq_false', ne_eq, Classical.not_not] at c16
       refine Qu.Zi ?_
       refine Qu.Z5 Zv ?_
       refine Qu.Xv ?_
       refine Qu.Xb (Xz OT.const) rfl rfl ?_
       refine Qu.Yc ?_
       refine Qu.Q6 ?_
       refine Qu.V6 ?_
       refine Qu.J4 ?_
       exact Qu.Qi .ret (.inl rfl) rfl () (OT.val (OT.tmp rfl) (congrArg (Value.int _) (by rw [if_pos c16]))) trivial (by exact Jc)
     · try simp only [decide_eq_true_eq, decide_eq_false_iff_not, Bool.or_eq_true, Bool.and_eq_true, Bool.or_eq_false_iff, Bool.and_eq_false_iff, Bool.not_eq_true', Bool.not_eq_false', ne_eq, Classical.not_not] at c16
       refine Qu.W3 ?_
       refine Qu.Q6 ?_
       refine Qu.Zi ?_
       refine Qu.Zi ?_
       refine Qu.Z5 (Qy (t := 0) (OT.tmp rfl) (Qy (t := 1) (OT.tmp rfl) Zv)) ?_
       refine Qu.Xv ?_
       refine Qu.Xb (Qm (OT.tmp rfl)) rfl rfl ?_
       refine Qu.Xb (Qm (OT.tmp rfl)) rfl rfl ?_
       refine Qu.Xb (Y3 (OT.tmp rfl) (OT.tmp rfl)) rfl rfl ?_
       refine Qu.Yc ?_
       refine Qu.Q6 ?_
       refine Qu.W4 (OT.tmp rfl) (fun c19 => ?_) (fun c19 => ?_)
       · try simp only [decide_eq_true_eq, decide_eq_false_iff_not, Bool.or_eq_true, Bool.and_eq_true, Bool.or_eq_false_iff, Bool.and_eq_false_iff, Bool.not_eq_true', Bool.not_eq_false', ne_eq, Classical.not_not] at c19
         refine Qu.Zi ?_
         refine Qu.Z5 Zv ?_
         refine Qu.Xv ?_
         refine Qu.Xb (Xz OT.const) rfl rfl ?_
         refine Qu.Yc ?_
         refine Qu.Q6 ?_
         refine Qu.V6 ?_
         refine Qu.J4 ?_
         exact Qu.Qi .ret (.inl rfl) rfl () (OT.val (OT.tmp rfl) (congrArg (Value.int _) (by rw [if_neg c16, if_pos c19]))) trivial (by exact Jc)
       · try simp only [decide_eq_true_eq, decide_eq_false_iff_not, Bool.or_eq_true, Bool.and_eq_true, Bool.or_eq_false_iff, Bool.and_eq_false_iff, Bool.not_eq_true', Bool.not_eq_false', ne_eq, Classical.not_not] at c19
         refine Qu.W3 ?_
         refine Qu.Q6 ?_
         refine Qu.Zi ?_
         refine Qu.Z5 Zv ?_
         refine Qu.Xv ?_
         refine Qu.Xb (Xz OT.const) rfl rfl ?_
         refine Qu.Yc ?_
         refine Qu.Q6 ?_
         refine Qu.V6 ?_
         exact Qu.Qi .ret (.inl rfl) rfl () (OT.val (OT.tmp rfl) (congrArg (Value.int _) (by rw [if_neg c16, if_neg c19]))) trivial (by exact Jc)
/-- slices.Compare[rhizome/api.Tuple,int] -/
theorem Qnu (a b : Tp) (hm : a.length ≤ maxLen) (hb : b.length ≤ maxLen) : Qu.Ct Tryz.prog 100 [SlT kI6 a, SlT kI6 b] (I64 (X6 a b)) := by
 refine Qu.Qn Tryz.func100 rfl rfl ?_
 intro H w
 unfold maxLen at hm hb
 refine Qu.Zi ?_
 refine Qu.Z5 (Qy (t := 0) (OT.tmp rfl) (Qy (t := 1) (OT.tmp rfl) Zv)) ?_
 refine Qu.Xv ?_
 refine Qu.Xb (Xz OT.const) rfl rfl ?_
 refine Qu.Yc ?_
 refine Qu.Q6 ?_
 refine Qu.Zi ?_
 refine Qu.Zi ?_
 refine Qu.Z5 (Qy (t := 0) (OT.tmp rfl) (Qy (t := 1) (OT.tmp rfl) Zv)) ?_
 refine Qu.Xv ?_
 refine Qu.Xb (Qm (OT.tmp rfl)) rfl rfl ?_
 refine Qu.Xb (U8 (OT.tmp rfl) Tryz.underlying51) rfl rfl ?_
 refine Qu.Xb (Qm OT.const) rfl rfl ?_
 refine Qu.Yc ?_
 refine Qu.Q6 ?_
 refine Qu.Qdu ?_
 refine Qu.Qt (σ := Nat) (Qy (t := 0) (OT.tmp rfl) (Qy (t := 1) (OT.tmp rfl) (Qy (t := 9) (OT.tmp rfl) (Qy (t := 10) (OT.tmp rfl) Zv)))) (fun k => [(11, I64 (k : Int))]) (fun k => []) (fun k => k ≤ a.length ∧ k ≤ b.length ∧ X6 (a.drop k) (b.drop k) = X6 a b) (fun k => a.length - k) 0 ⟨Nat.zero_le _, Nat.zero_le _, rfl⟩ ?_ (Qfg (by exact Jc)) ?_
 · exact (Qy (t := 11) (by exact OT.tmp rfl) Zv)
 · rintro k ⟨hk, hk1, hk2⟩
   refine Qu.Zi ?_
   refine Qu.Z5 (Qy (t := 0) (OT.tmp rfl) (Qy (t := 1) (OT.tmp rfl) (Qy (t := 9) (OT.tmp rfl) (Qy (t := 10) (OT.tmp rfl) (Qy (t := 11) (OT.tmp rfl) Zv))))) ?_
   refine Qu.Xv ?_
   refine Qu.Xb (Q5 (OT.tmp rfl) (OT.tmp rfl)) rfl rfl ?_
   refine Qu.Yc ?_
   refine Qu.Q6 ?_
   refine Qu.Zi ?_
   refine Qu.W4 (OT.tmp rfl) (fun c12 => ?_) (fun c12 => ?_)
   · try simp only [decide_eq_true_eq, decide_eq_false_iff_not, Bool.or_eq_true, Bool.and_eq_true, Bool.or_eq_false_iff, Bool.and_eq_false_iff, Bool.not_eq_true', Bool.not_eq_false', ne_eq, Classical.not_not] at c12
     refine Qu.W3 ?_
     refine Qu.Q6 ?_
     refine Qu.Zi ?_
     refine Qu.Qdu ?_
     refine Qu.Zi ?_
     refine Qu.Z5 (Qy (t := 0) (OT.tmp rfl) (Qy (t := 1) (OT.tmp rfl) (Qy (t := 9) (OT.tmp rfl) (Qy (t := 10) (OT.tmp rfl) (Qy (t := 11) (OT.tmp rfl) Zv))))) ?_
     refine Qu.Xv ?_
     refine Qu.Xb (Qm (OT.tmp rfl)) rfl rfl ?_
     refine Qu.Xb (Qj (OT.tmp rfl) (OT.tmp rfl) Tryz.underlying51 (show Xy Tryz.prog 3 false 1 = true from by decide +kernel) (by omega) (by omega)) rfl rfl ?_
     refine Qu.Xb (Qgm (OT.tmp rfl) (show Xy Tryz.prog 3 false 1 = true from by decide +kernel)) rfl rfl ?_
     refine Qu.Xb (Xz (OT.tmp rfl)) rfl rfl ?_
     refine Qu.Xb (Xz (OT.tmp rfl)) rfl rfl ?_
     refine Qu.Yc ?_
     refine Qu.Q6 ?_
     refine Qu.Zi ?_
     refine Qu.Zi ?_
     refine Qu.Z5 (Qy (t := 0) (OT.tmp rfl) (Qy (t := 1) (OT.tmp rfl) (Qy (t := 5) (OT.tmp rfl) (Qy (t := 6) (OT.tmp rfl) (Qy (t := 9) (OT.tmp rfl) (Qy (t := 10) (OT.tmp rfl) (Qy (t := 11) (OT.tmp rfl) Zv))))))) ?_
     refine Qu.Xv ?_
     refine Qu.Xb (Qm (OT.tmp rfl)) rfl rfl ?_
     refine Qu.Xb (Qm (OT.tmp rfl)) rfl rfl ?_
     refine Qu.Xb (U8 (OT.tmp rfl) Tryz.underlying51) rfl rfl ?_
     refine Qu.Xb (Vi (OT.tmp rfl) (OT.tmp rfl)) rfl rfl ?_
     refine Qu.Yc ?_
     refine Qu.Q6 ?_
     refine Qu.W4 (OT.tmp rfl) (fun c19 => ?_) (fun c19 => ?_)
     · try simp only [decide_eq_true_eq, decide_eq_false_iff_not, Bool.or_eq_true, Bool.and_eq_true, Bool.or_eq_false_iff, Bool.and_eq_false_iff, Bool.not_eq_true', Bool.not_eq_false', ne_eq, Classical.not_not] at c19
       refine Qu.Zi ?_
       refine Qu.Z5 Zv ?_
       refine Qu.Xv ?_
       refine Qu.Xb (Xz OT.const) rfl rfl ?_
       refine Qu.Yc ?_
       refine Qu.Q6 ?_
       refine Qu.V6 ?_
       refine Qu.J4 ?_
       refine Qu.Qw ?_
       refine Qu.J4 ?_
       refine Qu.J4 ?_
       refine Qu.Qw ?_
       refine Qu.J4 ?_
       exact Qu.Qi .ret (.inl rfl) rfl () (OT.val (OT.tmp rfl) (congrArg (Value.int _) ((hk2.symm.trans (Ql1 (by omega) (by omega))).symm))) trivial (by exact Jc)
     · try simp only [decide_eq_true_eq, decide_eq_false_iff_not, Bool.or_eq_true, Bool.and_eq_true, Bool.or_eq_false_iff, Bool.and_eq_false_iff, Bool.not_eq_true', Bool.not_eq_false', ne_eq, Classical.not_not] at c19
       refine Qu.W3 ?_
       refine Qu.Q6 ?_
       refine Qu.Zi ?_
       refine Qu.Z5 (Qy (t := 0) (OT.tmp rfl) (Qy (t := 1) (OT.tmp rfl) (Qy (t := 5) (OT.tmp rfl) (Qy (t := 6) (OT.tmp rfl) (Qy (t := 9) (OT.tmp rfl) (Qy (t := 10) (OT.tmp rfl) (Qy (t := 11) (OT.tmp rfl) Zv))))))) ?_
       refine Qu.Xv ?_
       refine Qu.Xb (Qm (OT.tmp rfl)) rfl rfl ?_
       refine Qu.Xb (Qm (OT.tmp rfl)) rfl rfl ?_
       refine Qu.Xb (Qj (OT.tmp rfl) (OT.tmp rfl) Tryz.underlying51 (show Xy Tryz.prog 3 false 1 = true from by decide +kernel) (by omega) (by omega)) rfl rfl ?_
       refine Qu.Xb (Qgm (OT.tmp rfl) (show Xy Tryz.prog 3 false 1 = true from by decide +kernel)) rfl rfl ?_
       refine Qu.Xb (Xz (OT.tmp rfl)) rfl rfl ?_
       refine Qu.Yc ?_
       refine Qu.Q6 ?_
       refine Qu.Zi ?_
       refine Qu.Z5 (Qy (t := 0) (OT.tmp rfl) (Qy (t := 1) (OT.tmp rfl) (Qy (t := 6) (OT.tmp rfl) (Qy (t := 7) (OT.tmp rfl) (Qy (t := 9) (OT.tmp rfl) (Qy (t := 10) (OT.tmp rfl) (Qy (t := 11) (OT.tmp rfl) Zv))))))) ?_
       refine Qu.Xv ?_
       refine Qu.Xb (Qm (OT.tmp rfl)) rfl rfl ?_
       refine Qu.Xb (Qm (OT.tmp rfl)) rfl rfl ?_
       refine Qu.Ku (Qu.Vx (Qlh _ _) (show enters Tryz.prog 128 = true from by decide +kernel) (OTs.cons (OT.tmp rfl) (OTs.cons (OT.tmp rfl) OTs.nil)) (List.Perm.refl _)) (List.Perm.refl _) rfl rfl (fun _ _ => ?_)
       refine Qu.Xb (Xz (OT.tmp rfl)) rfl rfl ?_
       refine Qu.Yc ?_
       refine Qu.Q6 ?_
       refine Qu.Zi ?_
       refine Qu.Z5 (Qy (t := 0) (OT.tmp rfl) (Qy (t := 1) (OT.tmp rfl) (Qy (t := 8) (OT.tmp rfl) (Qy (t := 9) (OT.tmp rfl) (Qy (t := 10) (OT.tmp rfl) (Qy (t := 11) (OT.tmp rfl) Zv)))))) ?_
       refine Qu.Xv ?_
       refine Qu.Xb (Qm (OT.tmp rfl)) rfl rfl ?_
       refine Qu.Xb (Yj (OT.tmp rfl) OT.const) rfl rfl ?_
       refine Qu.Yc ?_
       refine Qu.Q6 ?_
       refine Qu.W4 (OT.tmp rfl) (fun c28 => ?_) (fun c28 => ?_)
       · try simp only [decide_eq_true_eq, decide_eq_false_iff_not, Bool.or_eq_true, Bool.and_eq_true, Bool.or_eq_false_iff, Bool.and_eq_false_iff, Bool.not_eq_true', Bool.not_eq_false', ne_eq, Classical.not_not] at c28
         have hst := hk2.symm.trans (Qhm (a := a) (b := b) (i := k) (by omega) (by omega))
         have hres : X6 a b = if at' a (k : Int) < at' b (k : Int) then -1 else if at' b (k : Int) < at' a (k : Int) then 1 else 0 := by
          rw [hst]
          split
          · rfl
          · rename_i h; rw [if_neg h] at c28; split
            · rfl
            · rename_i h2; rw [if_neg h2] at c28; exact absurd rfl c28
         refine Qu.Zi ?_
         refine Qu.Z5 (Qy (t := 8) (OT.tmp rfl) Zv) ?_
         refine Qu.Xv ?_
         refine Qu.Xb (Qm (OT.tmp rfl)) rfl rfl ?_
         refine Qu.Xb (Xz (OT.tmp rfl)) rfl rfl ?_
         refine Qu.Yc ?_
         refine Qu.Q6 ?_
         refine Qu.V6 ?_
         refine Qu.Qw ?_
         refine Qu.J4 ?_
         refine Qu.J4 ?_
         refine Qu.Qw ?_
         refine Qu.J4 ?_
         exact Qu.Qi .ret (.inl rfl) rfl () (OT.val (OT.tmp rfl) (congrArg (Value.int _) (hres.symm))) trivial (by exact Jc)
       · try simp only [decide_eq_true_eq, decide_eq_false_iff_not, Bool.or_eq_true, Bool.and_eq_true, Bool.or_eq_false_iff, Bool.and_eq_false_iff, Bool.not_eq_true', Bool.not_eq_false', ne_eq, Classical.not_not] at c28
         have hst := hk2.symm.trans (Qhm (a := a) (b := b) (i := k) (by omega) (by omega))
         have hnx : X6 (a.drop (k + 1)) (b.drop (k + 1)) = X6 a b := by
          rw [hst]
          split
          · rename_i h; rw [if_pos h] at c28; omega
          · rename_i h; rw [if_neg h] at c28; split
            · rename_i h2; rw [if_pos h2] at c28; omega
            · rfl
         refine Qu.W3 ?_
         refine Qu.Qap ?_
         refine Qu.Q6 ?_
         refine Qu.Z5 (Qy (t := 0) (OT.tmp rfl) (Qy (t := 1) (OT.tmp rfl) (Qy (t := 9) (OT.tmp rfl) (Qy (t := 10) (OT.tmp rfl) (Qy (t := 11) (OT.tmp rfl) Zv))))) ?_
         refine Qu.Xv ?_
         refine Qu.Xb (Qp5 (OT.tmp rfl) OT.const (by omega)) rfl rfl ?_
         refine Qu.Xb (Qm (OT.tmp rfl)) rfl rfl ?_
         refine Qu.Yc ?_
         refine Qu.Q6 ?_
         exact Qu.Qg4 (k + 1) ⟨by omega, by omega, hnx⟩ (by omega) (Qcf (Qy (t := 11) (by exact OT.tmp rfl) Zv) (Qy (t := 0) (OT.tmp rfl) (Qy (t := 1) (OT.tmp rfl) (Qy (t := 9) (OT.tmp rfl) (Qy (t := 10) (OT.tmp rfl) Zv))))) (Qfg (by exact Jc))
   · try simp only [decide_eq_true_eq, decide_eq_false_iff_not, Bool.or_eq_true, Bool.and_eq_true, Bool.or_eq_false_iff, Bool.and_eq_false_iff, Bool.not_eq_true', Bool.not_eq_false', ne_eq, Classical.not_not] at c12
     refine Qu.Qx ?_
     refine Qu.Qcd ?_
     refine Qu.Qcd ?_
     refine Qu.Qfc ?_
     refine Qu.Q6 ?_
     refine Qu.Zi ?_
     refine Qu.Zi ?_
     refine Qu.Z5 (Qy (t := 0) (OT.tmp rfl) (Qy (t := 1) (OT.tmp rfl) Zv)) ?_
     refine Qu.Xv ?_
     refine Qu.Xb (Qm (OT.tmp rfl)) rfl rfl ?_
     refine Qu.Xb (U8 (OT.tmp rfl) Tryz.underlying51) rfl rfl ?_
     refine Qu.Xb (Qm (OT.tmp rfl)) rfl rfl ?_
     refine Qu.Xb (U8 (OT.tmp rfl) Tryz.underlying51) rfl rfl ?_
     refine Qu.Xb (Q5 (OT.tmp rfl) (OT.tmp rfl)) rfl rfl ?_
     refine Qu.Yc ?_
     refine Qu.Q6 ?_
     refine Qu.W4 (OT.tmp rfl) (fun c35 => ?_) (fun c35 => ?_)
     · try simp only [decide_eq_true_eq, decide_eq_false_iff_not, Bool.or_eq_true, Bool.and_eq_true, Bool.or_eq_false_iff, Bool.and_eq_false_iff, Bool.not_eq_true', Bool.not_eq_false', ne_eq, Classical.not_not] at c35
       refine Qu.Zi ?_
       refine Qu.Z5 Zv ?_
       refine Qu.Xv ?_
       refine Qu.Xb (Xz OT.const) rfl rfl ?_
       refine Qu.Yc ?_
       refine Qu.Q6 ?_
       refine Qu.V6 ?_
       refine Qu.J4 ?_
       exact Qu.Qi .ret (.inl rfl) rfl () (OT.val (OT.tmp rfl) (congrArg (Value.int _) ((hk2.symm.trans (Ql2 (by omega) (by omega))).symm))) trivial (by exact Jc)
     · try simp only [decide_eq_true_eq, decide_eq_false_iff_not, Bool.or_eq_true, Bool.and_eq_true, Bool.or_eq_false_iff, Bool.and_eq_false_iff, Bool.not_eq_true', Bool.not_eq_false', ne_eq, Classical.not_not] at c35
       refine Qu.W3 ?_
       refine Qu.Q6 ?_
       refine Qu.Zi ?_
       refine Qu.Z5 Zv ?_
       refine Qu.Xv ?_
       refine Qu.Xb (Xz OT.const) rfl rfl ?_
       refine Qu.Yc ?_
       refine Qu.Q6 ?_
       refine Qu.V6 ?_
       exact Qu.Qi .ret (.inl rfl) rfl () (OT.val (OT.tmp rfl) (congrArg (Value.int _) ((hk2.symm.trans (Ql3 (by omega) (by omega))).symm))) trivial (by exact Jc)
/-- rhizome/tuple.Cmp -/
theorem Qnv (a b : Tp) (hm : a.length ≤ maxLen) (hb : b.length ≤ maxLen) : Qu.Ct Tryz.prog 63 [SlT kI6 a, SlT kI6 b] (I64 (X6 a b)) := by
 refine Qu.Qn Tryz.func63 rfl rfl ?_
 intro H w
 refine Qu.Zi ?_
 refine Qu.Z5 (Qy (t := 0) (OT.tmp rfl) (Qy (t := 1) (OT.tmp rfl) Zv)) ?_
 refine Qu.Xv ?_
 refine Qu.Xb (Xz OT.const) rfl rfl ?_
 refine Qu.Yc ?_
 refine Qu.Q6 ?_
 refine Qu.Zi ?_
 refine Qu.Z5 (Qy (t := 0) (OT.tmp rfl) (Qy (t := 1) (OT.tmp rfl) Zv)) ?_
 refine Qu.Xv ?_
 refine Qu.Xb (Qm (OT.tmp rfl)) rfl rfl ?_
 refine Qu.Xb (Qm (OT.tmp rfl)) rfl rfl ?_
 refine Qu.Ku (Qu.Vx (Qnu _ _ (by assumption) (by assumption)) (show enters Tryz.prog 100 = true from by decide +kernel) (OTs.cons (OT.tmp rfl) (OTs.cons (OT.tmp rfl) OTs.nil)) (List.Perm.refl _)) (List.Perm.refl _) rfl rfl (fun _ _ => ?_)
 refine Qu.Xb (Xz (OT.tmp rfl)) rfl rfl ?_
 refine Qu.Yc ?_
 refine Qu.Q6 ?_
 refine Qu.V6 ?_
 exact Qu.Qi .ret (.inl rfl) rfl () (OT.tmp rfl) trivial (by exact Jc)
theorem Q1d (a b : Tp) (hm : a.length ≤ maxLen) (hb : b.length ≤ maxLen) : Ct Tryz.prog 63 [SlT kI6 a, SlT kI6 b] [] Unit (fun _ => I64 (X6 a b)) (fun _ => []) (fun _ => True) := (Qnv a b hm hb).ct
theorem Qg2 (a b : Tp) : Ct Tryz.prog 63 [SlT kI6 a, SlT kI6 b] [] Unit (fun _ => I64 (X6 a b)) (fun _ => []) (fun _ => True) := Ct.pre Qp6 fun h => Q1d a b h.1 h.2
/-- rhizome/rhizomeref10.Cmp -/
theorem Q1e (a b : Tp) (hm : a.length ≤ 1000000) (hb : b.length ≤ 1000000) : Ct Tryz.prog 33 [SlT kI6 a, SlT kI6 b] ([]) Unit (fun _ => I64 (X6 a b)) (fun _ => []) (fun _ => True) := by
 refine Qn Tryz.func33 rfl rfl ?_
 intro H w
 refine sq (rg (ak rfl (tn (nn (sq (sq (rg (ak rfl (tn (nn (tb (Qt (σ := Nat) (e2 0 1 rfl en) (fun k => [(5, I64 (k : Int))]) (fun k => []) (fun k => k ≤ a.length ∧ k ≤ b.length ∧ X6 (a.drop k) (b.drop k) = X6 a b) (fun k => a.length - k) 0 ⟨Nat.zero_le _, Nat.zero_le _, rfl⟩ ?_ (op (by exact pn)) ?_))))))))))))
 · exact (ec 5 rfl en)
 · rintro k ⟨hk, hk1, hk2⟩
   refine sq (sq (rg (mv rfl rfl (mv rfl rfl (oP (pls oz Tryz.underlying51) rfl (oP (Q5 oz oz) rfl (mv rfl rfl (oG rfl rfl rfl (gm oz) (fun hg => by (have hg1 := hg.2; (try simp only [cq2] at hg1); exact Qm oz)) rfl ?_))))))))
   refine oG rfl rfl rfl (gm oz) (fun hg => by (have hg1 := hg.2; (try simp only [cq2] at hg1); exact Qm oz)) rfl ?_
   refine oG rfl rfl rfl (gm oz) (fun hg => by (have hg1 := hg.2; (try simp only [cq2] at hg1); exact pls (gu oz hg) Tryz.underlying51)) rfl ?_
   refine oG rfl rfl rfl (gm oz) (fun hg => by (have hg1 := hg.2; (try simp only [cq2] at hg1); exact Q5 (gu oz hg) (gu oz hg))) rfl ?_
   refine oP (Q2 oz oz) rfl (tn (nn (tc oz (fun c15 => ?_) (fun c15 => ?_))))
   · try simp only [cq] at c15
     refine sk (nn (sq (tb (sq (sq ?_)))))
     have hst := hk2.symm.trans (Qhm (a := a) (b := b) (i := k) (by omega) (by omega))
     apply Xs (m := 8) (ns := [[(0, none)], [(5, none)], [(18, some 0), (19, some 1)], [(20, some 2)], [(1, none)], [(5, none)], [(22, some 4), (23, some 5)], [(24, some 6)]]) (by kernel_rfl) (by kernel_rfl) (Ts := [_, _, _, _, _, _, _, _]) rfl
     case hops =>
      exact ⟨rmv rfl, rmv rfl, rP (Qj oz oz Tryz.underlying51 ynm (by omega) (by omega)), rP (pL oz ynm), rmv rfl, rmv rfl, rP (Qj oz oz Tryz.underlying51 ynm (by omega) (by omega)), rP (pL oz ynm), trivial⟩
     case h =>
      refine oP (Q5 oz oz) rfl (tn (nn (tc oz (fun c26 => ?_) (fun c26 => ?_))))
      · try simp only [cq] at c26
        refine sq (rg (ak rfl (tn (nn (tR (tt (Qw (tt (tt (Qw (tt ?_)))))))))))
        exact Qi .ret (.inl rfl) rfl () (OT.val oz (congrArg (Value.int _) (by rw [hst, if_pos c26]))) trivial (by exact pn)
      try simp only [cq] at c26
      refine sk (nn (sq ?_))
      apply Xs (m := 8) (ns := [[(0, none)], [(5, none)], [(27, some 0), (28, some 1)], [(29, some 2)], [(1, none)], [(5, none)], [(31, some 4), (32, some 5)], [(33, some 6)]]) (by kernel_rfl) (by kernel_rfl) (Ts := [_, _, _, _, _, _, _, _]) rfl
      case hops =>
       exact ⟨rmv rfl, rmv rfl, rP (Qj oz oz Tryz.underlying51 ynm (by omega) (by omega)), rP (pL oz ynm), rmv rfl, rmv rfl, rP (Qj oz oz Tryz.underlying51 ynm (by omega) (by omega)), rP (pL oz ynm), trivial⟩
      case h =>
       refine oP (Y3 oz oz) rfl (tn (nn (tc oz (fun c35 => ?_) (fun c35 => ?_))))
       · try simp only [cq] at c35
         refine sq (rg (ak rfl (tn (nn (tR (Qw (tt (tt (Qw (tt ?_))))))))))
         exact Qi .ret (.inl rfl) rfl () (OT.val oz (congrArg (Value.int _) (by rw [hst, if_neg c26, if_pos c35]))) trivial (by exact pn)
       try simp only [cq] at c35
       refine sk (bn (nn (rg (mv rfl rfl (oP (pad oz ot (by omega)) rfl (av rfl rfl (tn (nn ?_))))))))
       exact tg (k + 1) ⟨by omega, by omega, by rw [hst, if_neg c26, if_neg c35]⟩ (by omega) ef (op (by exact pn))
   try simp only [cq] at c15
   refine Qx (tx (tx (bh (nn (sq (sq (rg (mv rfl rfl (oP (pls oz Tryz.underlying51) rfl (mv rfl rfl (oP (pls oz Tryz.underlying51) rfl (oP (Q5 oz oz) rfl (tn (nn (tc oz (fun c40 => ?_) (fun c40 => ?_))))))))))))))))
   · try simp only [cq] at c40
     refine sq (rg (ak rfl (tn (nn (tR (tt ?_))))))
     exact Qi .ret (.inl rfl) rfl () (OT.val oz (congrArg (Value.int _) ((hk2.symm.trans (Ql2 (by omega) (by omega))).symm))) trivial (by exact pn)
   try simp only [cq] at c40
   refine sk (nn (sq (sq (rg (mv rfl rfl (oP (pls oz Tryz.underlying51) rfl (mv rfl rfl (oP (pls oz Tryz.underlying51) rfl (oP (Y3 oz oz) rfl (tn (nn (tc oz (fun c45 => ?_) (fun c45 => ?_)))))))))))))
   · try simp only [cq] at c45
     refine sq (rg (ak rfl (tn (nn (tR (tt ?_))))))
     exact Qi .ret (.inl rfl) rfl () (OT.val oz (congrArg (Value.int _) ((hk2.symm.trans (Ql1 (by omega) (by omega))).symm))) trivial (by exact pn)
   try simp only [cq] at c45
   refine sk (nn (sq (rg (ak rfl (tn (nn (tR ?_)))))))
   exact Qi .ret (.inl rfl) rfl () (OT.val oz (congrArg (Value.int _) ((hk2.symm.trans (Ql3 (by omega) (by omega))).symm))) trivial (by exact pn)
/-- rhizome/tuple.same -/
theorem Qxt (a b : Tp) : Ct Tryz.prog 93 [SlT kI6 a, SlT kI6 b] ([]) Unit (fun _ => Xe (decide (a = b))) (fun _ => []) (fun _ => True) := by
 refine Qn Tryz.func93 rfl rfl ?_
 intro H w
 refine sq (rg (ak rfl (tn (nn (sq (rg (mv rfl rfl (mv rfl rfl (oA (aC (Qg2 _ _) yuu (oc oz (oc oz oN)) pR) pR rfl rfl (fun _ _ => ?_))))))))))
 refine oP (Zs oz ot) rfl (av rfl rfl (tn (nn (tR ?_))))
 exact Qi .ret (.inl rfl) rfl () (OT.val oz (congrArg Value.bool (by simp only [U3]))) trivial (by exact pn)
end Go.Proofs.YtklhdalppmjnaaaGreatDoor
namespace Go.Tu
open Go Go.Gw Go.So
def Small (l : List Tp) : Prop := l.length ≤ 1000000 ∧ ∀ x ∈ l, x.length ≤ 1000000
theorem Small.at_ {l : List Tp} (h : Small l) (i : Int) : (at' l i).length ≤ 1000000 := by
 unfold at'
 rw [List.getD_eq_getElem?_getD]
 cases e : l[i.toNat]? with
 | none => simp [default]
 | some x => exact h.2 x (List.mem_of_getElem? e)
theorem Small.sub {l m : List Tp} (h : Small l) (hs : m.Sublist l) : Small m := ⟨Nat.le_trans hs.length_le h.1, fun x hx => h.2 x (hs.subset hx)⟩
theorem Small.without {a : List Tp} (h : Small a) (b : List Tp) : Small (Qs a b) := h.sub List.filter_sublist
theorem Small.setR {l : List Tp} (h : Small l) : Small (Jm l) := ⟨Nat.le_trans (Uf l) h.1, fun x hx => h.2 x (((Xj l).2 x).1 hx)⟩
abbrev kL : Kd (List Tp) := ksl kT
abbrev Dl := List Tp × List Tp
abbrev kD : Kd Dl := Xo kL kL
theorem Qzb {a b : List Tp} (hl : a.length = b.length) (h : ∀ j, j < a.length → at' a (j : Int) = at' b (j : Int)) : a = b := by
 apply List.ext_getElem hl
 intro i h1 h2
 have := h i h1
 rw [Q1 h1, Q1 h2] at this; exact this
end Go.Tu
namespace Go.Tu
open Go Go.Gw Go.So
def Qbg (a b : List Tp) : Dl × Int := if Xa a && Xa b then ((Qs b a, Qs a b), 0) else (([], []), 1)
def Jj (a b : List Tp) : Bool := decide (((Qs a b).length : Int) < a.length)
def Qc9 (a b : List Tp) : List Tp := Jm (a ++ b)
def Wu (s : List Tp) (d : Dl) : List Tp × Int :=
 if !Xa s || !Xa d.1 || !Xa d.2 then ([], 1) else
 if Jj d.1 s then ([], 2) else
 if 0 < ((Qs d.2 s).length : Int) then ([], 4) else
 (Qc9 (Qs s d.2) d.1, 0)
def Qbh (a b : Dl) : Dl × Int :=
 if !Xa a.1 || !Xa a.2 || !Xa b.1 || !Xa b.2 then (([], []), 1) else
 if Jj a.1 b.1 || Jj a.2 b.2 || Jj a.1 a.2 || Jj b.1 b.2 then (([], []), 2) else
 ((Qc9 (Qs a.1 b.2) (Qs b.1 a.2), Qc9 (Qs a.2 b.1) (Qs b.2 a.1)), 0)
theorem Small.app {a b : List Tp} (h : a.length + b.length ≤ 1000000) (ha : Small a) (hb : Small b) : Small (a ++ b) := ⟨by simpa using h, fun x hx => (List.mem_append.1 hx).elim (ha.2 x) (hb.2 x)⟩
def Few (l : List Tp) : Prop := l.length ≤ 4000 ∧ ∀ x ∈ l, x.length ≤ 1000000
theorem Few.small {l : List Tp} (h : Few l) : Small l := ⟨by have := h.1; omega, h.2⟩
theorem Few.sub {l m : List Tp} (h : Few l) (hs : m.Sublist l) : Few m := ⟨Nat.le_trans hs.length_le h.1, fun x hx => h.2 x (hs.subset hx)⟩
theorem Few.without {a : List Tp} (h : Few a) (b : List Tp) : Few (Qs a b) := h.sub List.filter_sublist
theorem Few.both {a b : List Tp} (ha : Few a) (hb : Few b) : Small (a ++ b) := Small.app (by have := ha.1; have := hb.1; omega) ha.small hb.small
theorem Qhn {α : Type} [Inhabited α] {l : List α} {p : α → Bool} {k : Nat} (h : k < l.length) : (l.drop k).all p = (p (at' l (k : Int)) && (l.drop (k + 1)).all p) := by
 rw [Q1 h, List.drop_eq_getElem_cons h]; rfl
theorem Ql6 {α : Type} [Inhabited α] {l : List α} {p : α → Bool} {k : Nat} (h : k < l.length) : (l.drop k).any p = (p (at' l (k : Int)) || (l.drop (k + 1)).any p) := by
 rw [Q1 h, List.drop_eq_getElem_cons h]; rfl
end Go.Tu
namespace Go.Tu
open Go Go.Gw Go.So
theorem Qrx {a b c : Tp} (h1 : X6 a b < 0) (h2 : X6 b c ≤ 0) : X6 a c < 0 := by
 obtain ⟨h3, h4⟩ := Qcl (a := a) (b := b) (c := c) (by omega) h2
 rcases Int.lt_or_eq_of_le h3 with h | h
 · exact h
 have := (h4 h).1; omega
def dd : List Tp → List Tp
 | [] => []
 | [x] => [x]
 | x :: y :: l => if x = y then dd (y :: l) else x :: dd (y :: l)
theorem Qho : ∀ {l : List Tp} {z : Tp}, z ∈ dd l ↔ z ∈ l
 | [], z => by simp [dd]
 | [x], z => by simp [dd]
 | x :: y :: l, z => by
  rw [dd]
  split
  · rename_i h; subst h; rw [Qho]; simp
  rw [List.mem_cons, Qho, List.mem_cons (b := x)]
theorem Qed : ∀ {l : List Tp}, l.Pairwise (fun x y => X6 x y ≤ 0) → Ys (dd l)
 | [], _ => List.Pairwise.nil
 | [x], _ => List.pairwise_singleton _ _
 | x :: y :: l, h => by
  have h1 := List.pairwise_cons.1 h
  rw [dd]
  split
  · exact Qed h1.2
  rename_i hne
  refine List.pairwise_cons.2 ⟨fun z hz => ?_, Qed h1.2⟩
  have hxy : X6 x y < 0 := by
   have h2 := h1.1 y List.mem_cons_self
   rcases Int.lt_or_eq_of_le h2 with h3 | h3
   · exact h3
   exact absurd (U3.1 h3) hne
  rcases List.mem_cons.1 (Qho.1 hz) with e | hz
  · subst e; exact hxy
  exact Qrx hxy ((List.pairwise_cons.1 h1.2).1 z hz)
theorem Quw {l rs : List Tp} (hp : rs.Perm l) (hs : rs.Pairwise fun x y => X6 x y ≤ 0) : dd rs = Jm l := Qbw (Qed hs) fun x => Qho.trans hp.mem_iff
theorem Qp8 : ∀ (l : List Tp) (x y : Tp), dd (l ++ [x, y]) = if x = y then dd (l ++ [x]) else dd (l ++ [x]) ++ [y]
 | [], x, y => by
  simp only [List.nil_append, dd]
  split <;> simp_all
 | [z], x, y => by
  simp only [List.cons_append, List.nil_append, dd]
  split <;> split <;> simp_all
 | z :: u :: l, x, y => by
  have ih := Qp8 (u :: l) x y
  simp only [List.cons_append] at ih ⊢
  rw [dd, dd, ih]
  split
  · split <;> simp_all
  split <;> simp_all
theorem Qee {xs : List Tp} {m : Nat} (h1 : 0 < m) (h : m < xs.length) : dd (xs.take (m + 1)) = if at' xs ((m : Int) - 1) = at' xs (m : Int) then dd (xs.take m) else dd (xs.take m) ++ [at' xs (m : Int)] := by
 obtain ⟨k, rfl⟩ : ∃ k, m = k + 1 := ⟨m - 1, by omega⟩
 rw [show (((k + 1 : Nat) : Int) - 1) = (k : Int) from by omega, Q1 h, Q1 (by omega : k < xs.length), List.take_succ_eq_append_getElem h, List.take_succ_eq_append_getElem (by omega : k < xs.length), List.append_assoc]
 exact Qp8 _ _ _
theorem Qkp {xs : List Tp} (h : xs.length < 2) : dd xs = xs := by
 match xs, h with
 | [], _ => rfl
 | [_], _ => rfl
 | _ :: _ :: _, h => simp at h; omega
theorem Qux : ∀ (l : List Tp), (dd l).length ≤ l.length
 | [] => Nat.le_refl _
 | [_] => Nat.le_refl _
 | x :: y :: l => by
  rw [dd]
  have := Qux (y :: l)
  split
  · rw [List.length_cons (a := x)]; omega
  simp only [List.length_cons] at this ⊢; omega
end Go.Tu
namespace Go.Tu
open Go Go.Gw
section
variable {α : Type}
theorem Qef [Inhabited α] {l m : List α} {k i : Nat} (h : l.drop k = m.drop k) (hk : k ≤ i) (hl : i < l.length) (hm : i < m.length) : at' l (i : Int) = at' m (i : Int) := by
 rw [Q1 hl, Q1 hm]
 have h1 : (l.drop k)[i - k]? = (m.drop k)[i - k]? := by rw [h]
 rw [List.getElem?_drop, List.getElem?_drop, show k + (i - k) = i from by omega, List.getElem?_eq_getElem hl, List.getElem?_eq_getElem hm] at h1
 exact Option.some.inj h1
theorem V1 {l m : List α} {k i : Nat} (h : l.drop k = m.drop k) (hk : k ≤ i) : l.drop i = m.drop i := by
 have : i = k + (i - k) := by omega
 rw [this, ← List.drop_drop, ← List.drop_drop, h]
theorem Qhp {l : List α} {j : Nat} {y : α} (h : j < l.length) : (l.set j y).take (j + 1) = l.take j ++ [y] := by
 rw [List.take_succ_eq_append_getElem (by rw [List.length_set]; exact h), List.getElem_set_self, List.take_set, List.set_eq_of_length_le (by rw [List.length_take]; omega)]
theorem Qeg {l z : List α} {j : Nat} (h : j ≤ l.length) : (l.take j ++ z).take j = l.take j := by
 rw [List.take_append_of_le_length (by rw [List.length_take]; omega), List.take_take, Nat.min_self]
end
end Go.Tu
namespace Go.Proofs.YtklhdalppmjnaaaGreatDoor
open Go Go.Gw Go.So Go.Tu
theorem z40 : Xw Tryz.prog 36 kL [] := ⟨Qo, by kernel_rfl, fun H => ⟨none, 0, rfl, by simp, by simp, fun h => by simp at h⟩⟩
theorem z44 : Xw Tryz.prog 38 kD ([], []) := ⟨.agg #[Qo, Qo], by kernel_rfl, fun H => ⟨[Qo, Qo], ⟨[Qo], [Qo], ⟨Qo, rfl, none, 0, rfl, by simp, by simp, fun h => by simp at h⟩, ⟨Qo, rfl, none, 0, rfl, by simp, by simp, fun h => by simp at h⟩, rfl⟩, rfl⟩⟩

/-- rhizome/tuple.Rises -/
theorem Qtf (l : List Tp) (hsl : l.length ≤ maxLen) : Ct Tryz.prog 74 [SlT kT l] ([]) Unit (fun _ => Xe (Xa l)) (fun _ => []) (fun _ => True) := by
 refine Qn Tryz.func74 rfl rfl ?_
 intro H w
 unfold maxLen at hsl
 refine sq (rg (ak rfl (tn (nn (sq (sq (rg (ak rfl (tn (nn (tb (Qt (σ := Nat) (ec 0 rfl en) (fun k => [(3, I64 ((k : Int) + 1))]) (fun k => []) (fun k => k ≤ l.length ∧ Xa (l.drop k) = Xa l) (fun k => l.length - k) 0 ⟨Nat.zero_le _, rfl⟩ ?_ (op (by exact pn)) ?_))))))))))))
 · exact (ec 3 rfl en)
 rintro k ⟨hk, hk2⟩
 refine sq (sq (rg (mv rfl rfl (mv rfl rfl (oP (pls oz Tryz.underlying36) rfl (oP (Q5 oz oz) rfl (tn (nn (tc oz (fun c7 => ?_) (fun c7 => ?_))))))))))
 · try simp only [cq] at c7
   refine sk (nn (sq (tb (sq ?_))))
   have hst := Qor (l := l) (i := k) (by omega)
   rw [show ((k + 1 : Nat) : Int) = (k : Int) + 1 from by omega, show (k : Int) = (k : Int) + 1 - 1 from by omega] at hst
   apply Xs (m := 9) (ns := [[(0, none)], [(3, none)], [(11, some 1)], [(10, some 0), (12, some 2)], [(13, some 3)], [(0, none)], [(3, none)], [(15, some 5), (16, some 6)], [(17, some 7)]]) (by kernel_rfl) (by kernel_rfl) (Ts := [_, _, _, _, _, _, _, _, _]) rfl
   case hops =>
    exact ⟨rmv rfl, rmv rfl, rP (Kb oz ot (by omega)), rP (Qj oz oz Tryz.underlying36 yko (by omega) (by omega)), rP (pL oz yko), rmv rfl, rmv rfl, rP (Qj oz oz Tryz.underlying36 yko (by omega) (by omega)), rP (pL oz yko), trivial⟩
   case h =>
    refine oA (aC (Qg2 _ _) yuu (oc oz (oc oz oN)) pR) pR rfl rfl (fun _ _ => ?_)
    refine oP (Vi oz ot) rfl (tn (nn (tc oz (fun c20 => ?_) (fun c20 => ?_))))
    · try simp only [cq] at c20
      refine sq (rg (ak rfl (tn (nn (tR (Qw (tt (tt (Qw (tt ?_))))))))))
      exact Qi .ret (.inl rfl) rfl () (OT.val oz (congrArg Value.bool (by rw [← hk2, hst, decide_eq_false (by simpa using c20), Bool.false_and]))) trivial (by exact pn)
    try simp only [cq] at c20
    refine sk (bn (nn (rg (mv rfl rfl (oP (pad oz ot (by omega)) rfl (av rfl rfl (tn (nn ?_))))))))
    exact tg (k + 1) ⟨by omega, by rw [← hk2, hst, decide_eq_true (by simpa using c20), Bool.true_and]⟩ (by omega) ef (op (by exact pn))
 try simp only [cq] at c7
 refine Qx (tx (tx (bh (nn (sq (rg (ak rfl (tn (nn (tR ?_))))))))))
 exact Qi .ret (.inl rfl) rfl () (OT.val oz (congrArg Value.bool (by rw [← hk2, Qrw (by omega)]))) trivial (by exact pn)
theorem Qtg (l : List Tp) : Ct Tryz.prog 74 [SlT kT l] [] Unit (fun _ => Xe (Xa l)) (fun _ => []) (fun _ => True) := Ct.pre Qy7 fun h => Qtf l h
/-- rhizome/rhizomeref10.Same -/
theorem Qli (a b : List Tp) (hs : Small a) (hb : Small b) : Ct Tryz.prog 12 [SlT kT a, SlT kT b] ([]) Unit (fun _ => Xe (decide (a = b))) (fun _ => []) (fun _ => True) := by
 refine Qn Tryz.func12 rfl rfl ?_
 intro H w
 have hsl := hs.1
 have hbl := hb.1
 refine sq (rg (ak rfl (tn (nn (sq (sq (rg (mv rfl rfl (oP (pls oz Tryz.underlying36) rfl (mv rfl rfl (oP (pls oz Tryz.underlying36) rfl (oP (Yj oz oz) rfl (tn (nn (tc oz (fun c10 => ?_) (fun c10 => ?_))))))))))))))))
 · try simp only [cq] at c10
   have hne : ¬ a = b := fun e => by rw [e] at c10; exact c10 rfl
   refine sq (rg (ak rfl (tn (nn (tR (tt ?_))))))
   exact Qi .ret (.inl rfl) rfl () (OT.val oz (congrArg Value.bool ((decide_eq_false hne).symm))) trivial (by exact pn)
 · try simp only [cq] at c10
   have hll : a.length = b.length := by omega
   refine sk (nn (sq (sq (rg (mv rfl rfl (oP (pls oz Tryz.underlying36) rfl (oP (Qm ot) rfl (tn (nn (tb (Qt (σ := Nat) (e2 0 1 rfl (ec 12 rfl en)) (fun k => [(13, I64 (k : Int))]) (fun k => []) (fun k => k ≤ a.length ∧ ∀ j : Nat, j < k → at' a (j : Int) = at' b (j : Int)) (fun k => a.length - k) 0 ⟨Nat.zero_le _, fun j h => by omega⟩ ?_ (op (by exact pn)) ?_)))))))))))
   · exact (ec 13 rfl en)
   rintro k ⟨hk, hk2⟩
   refine sq (rg (oP (Q5 oz oz) rfl (tn (nn (sq (tc oz (fun c14 => ?_) (fun c14 => ?_)))))))
   · try simp only [cq] at c14
     refine sk (nn (sq (tb (sq (rg (mv rfl rfl (av rfl rfl (tn (nn (sq ?_))))))))))
     apply Xs (m := 8) (ns := [[(0, none)], [(5, none)], [(16, some 0), (17, some 1)], [(18, some 2)], [(1, none)], [(5, none)], [(20, some 4), (21, some 5)], [(22, some 6)]]) (by kernel_rfl) (by kernel_rfl) (Ts := [_, _, _, _, _, _, _, _]) rfl
     case hops =>
      exact ⟨rmv rfl, rmv rfl, rP (Qj oz oz Tryz.underlying36 yko (by omega) (by omega)), rP (pL oz yko), rmv rfl, rmv rfl, rP (Qj oz oz Tryz.underlying36 yko (by omega) (by omega)), rP (pL oz yko), trivial⟩
     case h =>
      refine oA (aC (Q1e _ _ (by exact hs.at_ _) (by exact hb.at_ _)) yhx (oc (oT rfl) (oc (oT rfl) oN)) pR) pR rfl rfl (fun _ _ => ?_)
      refine oP (Yj oz ot) rfl (tn (nn (tc oz (fun c25 => ?_) (fun c25 => ?_))))
      · try simp only [cq] at c25
        have hne : ¬ a = b := fun e => by rw [e, We] at c25; exact c25 rfl
        refine sq (rg (ak rfl (tn (nn (tR (Qw (tt (tt (Qw (tt ?_))))))))))
        exact Qi .ret (.inl rfl) rfl () (OT.val oz (congrArg Value.bool ((decide_eq_false hne).symm))) trivial (by exact pn)
      try simp only [cq] at c25
      have heq := U3.1 c25
      refine sk (bn (nn (rg (oP (pad oz ot (by omega)) rfl (mv rfl rfl (tn (nn ?_)))))))
      exact tg (k + 1) ⟨by omega, fun j h => by rcases Nat.lt_or_ge j k with h1 | h1; exact hk2 j h1; (obtain rfl : j = k := by omega); exact heq⟩ (by omega) ef (op (by exact pn))
   try simp only [cq] at c14
   refine Qx (tx (tx (bh (nn (sq (rg (ak rfl (tn (nn (tR ?_))))))))))
   exact Qi .ret (.inl rfl) rfl () (OT.val oz (congrArg Value.bool ((decide_eq_true (Qzb hll fun j h => hk2 j (by omega))).symm))) trivial (by exact pn)
end Go.Proofs.YtklhdalppmjnaaaGreatDoor
namespace Go.Proofs.YtklhdalppmjnaaaGreatDoor
open Go Go.Gw Go.So Go.Tu
theorem Jr {α : Type} {d : Kd α} {H : FH} {v : Value} (h : (IsV Qo).p H v) : (SlT d []).p H v := ⟨none, 0, h, by simp, by simp, fun h => by simp at h⟩
theorem Qrb {α : Type} [Inhabited α] {l : List α} {k : Nat} (h : k < l.length) : l.take (k + 1) = l.take k ++ [at' l (k : Int)] := by rw [Q1 h, List.take_succ_eq_append_getElem h]

end Go.Proofs.YtklhdalppmjnaaaGreatDoor
namespace Go.Tu
open Go Go.Gw Go.So
def Zm : List Tp → List Tp → List Tp × List Tp × List Tp
 | [], b => ([], [], b)
 | a, [] => (a, [], [])
 | x :: a, y :: b =>
  if X6 x y < 0 then (x :: (Zm a (y :: b)).1, (Zm a (y :: b)).2)
  else if 0 < X6 x y then ((Zm (x :: a) b).1, (Zm (x :: a) b).2.1, y :: (Zm (x :: a) b).2.2)
  else ((Zm a b).1, x :: (Zm a b).2.1, (Zm a b).2.2)
termination_by a b => a.length + b.length
def cW : List Tp → List Tp → Int
 | [], _ => 1
 | _ :: _, [] => -1
 | x :: _, y :: _ => X6 x y
theorem Qhq (a : List Tp) : Zm a [] = (a, [], []) := by cases a <;> simp [Zm]
theorem cW1 {a b : List Tp} (h : a.length = 0) : cW a b = 1 := by
 have := List.eq_nil_of_length_eq_zero h; subst this; rfl
theorem cW2 {a b : List Tp} (h : ¬ a.length = 0) (h2 : b.length = 0) : cW a b = -1 := by
 have := List.eq_nil_of_length_eq_zero h2; subst this
 cases a with
 | nil => simp at h
 | cons => rfl
theorem cW3 {a b : List Tp} (h : ¬ a.length = 0) (h2 : ¬ b.length = 0) : cW a b = X6 (at' a 0) (at' b 0) := by
 cases a with
 | nil => simp at h
 | cons => cases b with
  | nil => simp at h2
  | cons => rfl
theorem Qzc {a b : List Tp} (h : cW a b < 0) : 0 < a.length ∧ Zm a b = (at' a 0 :: (Zm (a.drop 1) b).1, (Zm (a.drop 1) b).2) := by
 match a, b with
 | [], _ => simp [cW] at h
 | x :: a, [] => exact ⟨by simp, by rw [Qhq, show (x :: a).drop 1 = a from rfl, Qhq]; rfl⟩
 | x :: a, y :: b =>
  have h1 : X6 x y < 0 := h
  exact ⟨by simp, by rw [Zm, if_pos h1]; rfl⟩
theorem Qzd {a b : List Tp} (h : 0 < cW a b) (h0 : 0 < a.length ∨ 0 < b.length) : 0 < b.length ∧ Zm a b = ((Zm a (b.drop 1)).1, (Zm a (b.drop 1)).2.1, at' b 0 :: (Zm a (b.drop 1)).2.2) := by
 match a, b with
 | [], [] => simp at h0
 | [], y :: b => exact ⟨by simp, by rw [Zm, Zm]; rfl⟩
 | x :: a, [] => simp [cW] at h
 | x :: a, y :: b =>
  have h1 : 0 < X6 x y := h
  exact ⟨by simp, by rw [Zm, if_neg (by omega), if_pos h1]; rfl⟩
theorem Qze {a b : List Tp} (h : cW a b = 0) : 0 < a.length ∧ 0 < b.length ∧ Zm a b = ((Zm (a.drop 1) (b.drop 1)).1, at' a 0 :: (Zm (a.drop 1) (b.drop 1)).2.1, (Zm (a.drop 1) (b.drop 1)).2.2) := by
 match a, b with
 | [], _ => simp [cW] at h
 | x :: a, [] => simp [cW] at h
 | x :: a, y :: b =>
  have h1 : X6 x y = 0 := h
  exact ⟨by simp, by simp, by rw [Zm, if_neg (by omega), if_neg (by omega)]; rfl⟩
theorem Qhr {a b : List Tp} (h1 : a.length = 0) (h2 : b.length = 0) : Zm a b = ([], [], []) := by
 have := List.eq_nil_of_length_eq_zero h1; subst this
 have := List.eq_nil_of_length_eq_zero h2; subst this
 simp [Zm]
def Y5 (a b : List Tp) : List Tp := a.filter fun x => b.contains x
theorem Qa1 {x : Tp} {l : List Tp} (h : ∀ z ∈ l, X6 x z < 0) : x ∉ l := fun hx => by have := h x hx; rw [We] at this; omega
theorem Qf8 (a : List Tp) : Qs a [] = a := by unfold Qs; simp
theorem Qf9 (a : List Tp) : Qs [] a = [] := rfl
theorem Qry (a : List Tp) : Y5 a [] = [] := by unfold Y5; simp
theorem Qcn : ∀ {a b : List Tp}, Ys a → Ys b → Zm a b = (Qs a b, Y5 a b, Qs b a)
 | [], b, _, _ => by rw [Zm, Qf9, Qf8]; rfl
 | x :: a, [], _, _ => by rw [Qhq, Qf8, Qry, Qf9]
 | x :: a, y :: b, ha, hb => by
  have ha1 := List.pairwise_cons.1 ha
  have hb1 := List.pairwise_cons.1 hb
  have hn := Vq x y
  by_cases h1 : X6 x y < 0
  · have hx : x ∉ y :: b := fun hm => by
     rcases List.mem_cons.1 hm with e | hm
     · subst e; rw [We] at h1; omega
     exact Qa1 (fun z hz => Qfl h1 (hb1.1 z hz)) hm
    rw [Zm, if_pos h1, Qcn ha1.2 hb]
    have e1 : Qs (x :: a) (y :: b) = x :: Qs a (y :: b) := by unfold Qs; rw [List.filter_cons_of_pos (by simpa using hx)]
    have e2 : Y5 (x :: a) (y :: b) = Y5 a (y :: b) := by unfold Y5; rw [List.filter_cons_of_neg (by simpa using hx)]
    have e3 : Qs (y :: b) (x :: a) = Qs (y :: b) a := by
     unfold Qs
     refine List.filter_congr fun z hz => ?_
     have : z ≠ x := fun e => hx (e ▸ hz)
     simp [this]
    rw [e1, e2, e3]
  by_cases h2 : 0 < X6 x y
  · have hy : y ∉ x :: a := fun hm => by
     rcases List.mem_cons.1 hm with e | hm
     · subst e; rw [We] at h2; omega
     exact Qa1 (x := y) (fun z hz => Qfl (by omega) (ha1.1 z hz)) hm
    rw [Zm, if_neg h1, if_pos h2, Qcn ha hb1.2]
    have e1 : Qs (y :: b) (x :: a) = y :: Qs b (x :: a) := by unfold Qs; rw [List.filter_cons_of_pos (by simpa using hy)]
    have e2 : Qs (x :: a) (y :: b) = Qs (x :: a) b := by
     unfold Qs
     refine List.filter_congr fun z hz => ?_
     have : z ≠ y := fun e => hy (e ▸ hz)
     simp [this]
    have e3 : Y5 (x :: a) (y :: b) = Y5 (x :: a) b := by
     unfold Y5
     refine List.filter_congr fun z hz => ?_
     have : z ≠ y := fun e => hy (e ▸ hz)
     simp [this]
    rw [e1, e2, e3]
  have e : x = y := U3.1 (by omega)
  subst e
  have hxa : x ∉ a := Qa1 ha1.1
  have hxb : x ∉ b := Qa1 hb1.1
  rw [Zm, if_neg h1, if_neg h2, Qcn ha1.2 hb1.2]
  have f1 : ∀ {c d : List Tp}, x ∉ c → Qs (x :: c) (x :: d) = Qs c d := fun {c d} hc => by
   unfold Qs
   rw [List.filter_cons_of_neg (by simp)]
   refine List.filter_congr fun z hz => ?_
   have : z ≠ x := fun e => hc (e ▸ hz)
   simp [this]
  have f2 : Y5 (x :: a) (x :: b) = x :: Y5 a b := by
   unfold Y5
   rw [List.filter_cons_of_pos (by simp)]
   congr 1
   refine List.filter_congr fun z hz => ?_
   have : z ≠ x := fun e => hxa (e ▸ hz)
   simp [this]
  rw [f1 hxa, f1 hxb, f2]
termination_by a b => a.length + b.length
theorem Qfm (a b : List Tp) : (Y5 a b).length + (Qs a b).length = a.length := by
 unfold Y5 Qs
 induction a with
 | nil => rfl
 | cons x a ih =>
  by_cases h : x ∈ b
  · rw [List.filter_cons_of_pos (by simpa using h), List.filter_cons_of_neg (by simpa using h)]; simp only [List.length_cons]; omega
  rw [List.filter_cons_of_neg (by simpa using h), List.filter_cons_of_pos (by simpa using h)]; simp only [List.length_cons]; omega
theorem Qjh {α : Type} [Inhabited α] {ls : List (List α)} {k : Nat} (h : k < ls.length) : (ls.take (k + 1)).flatten = (ls.take k).flatten ++ at' ls (k : Int) := by
 rw [Q1 h, List.take_succ_eq_append_getElem h, List.flatten_append]; simp
theorem Qp9 {α : Type} (ls : List (List α)) (k : Nat) : (ls.take k).flatten.length ≤ ls.flatten.length := by
 have : ls.flatten = (ls.take k).flatten ++ (ls.drop k).flatten := by rw [← List.flatten_append, List.take_append_drop]
 rw [this, List.length_append]; omega
end Go.Tu
namespace Go.Tu
open Go Go.Gw Go.So
theorem K2 (a b : List Tp) : (0 < ((Y5 a b).length : Int)) ↔ Jj b a = true := by
 have h1 := Qfm b a
 unfold Jj
 rw [decide_eq_true_eq]
 have e1 : 0 < (Y5 a b).length ↔ 0 < (Y5 b a).length := by
  rw [List.length_pos_iff_exists_mem, List.length_pos_iff_exists_mem]
  unfold Y5
  simp only [List.mem_filter, List.contains_iff_mem]
  exact ⟨fun ⟨x, h1, h2⟩ => ⟨x, h2, h1⟩, fun ⟨x, h1, h2⟩ => ⟨x, h2, h1⟩⟩
 omega
theorem meet_comm (a b : List Tp) : Jj a b = Jj b a := by
 have h1 := Qfm a b; have h2 := Qfm b a
 have h3 := K2 a b; have h4 := K2 b a
 cases e1 : Jj a b <;> cases e2 : Jj b a
 · rfl
 · have h5 := h3.2 e2; have h6 : 0 < ((Y5 b a).length : Int) ↔ False := by rw [h4, e1]; simp
   unfold Jj at e1 e2
   simp only [decide_eq_true_eq, decide_eq_false_iff_not] at e1 e2
   omega
 · have h5 := h4.2 e1; have h6 : 0 < ((Y5 a b).length : Int) ↔ False := by rw [h3, e2]; simp
   unfold Jj at e1 e2
   simp only [decide_eq_true_eq, decide_eq_false_iff_not] at e1 e2
   omega
 rfl
end Go.Tu
namespace Go.Proofs.YtklhdalppmjnaaaGreatDoor
open Go Go.Gw Go.So Go.Tu
variable {K0 : FH} {n0 : Nat}
theorem Q5b : Xw Tryz.prog 51 (kF K0 n0) [] := ⟨Qo, by kernel_rfl, fun H => ⟨⟨⟨none, 0, rfl, by simp, by simp, fun h => by simp at h⟩, trivial, trivial⟩, none, rfl⟩⟩
theorem Qlj {α : Type} {d : Kd α} {N : Nat} {Γ : Env} {x : Operand} (h : OT N Γ x (IsV Qo)) : OT N Γ x (Yz K0 n0 d []) := fun a H f => ⟨Jr (h a H f), by rw [show a.eval x = Qo from h a H f]; exact ⟨trivial, trivial⟩⟩
theorem Q1f (x y : Tp) : CtV Tryz.prog (.func (.func 93) #[] #[]) [(kF K0 n0).T x, (kF K0 n0).T y] [] Unit (fun _ => Xe (decide (x = y))) (fun _ => []) (fun _ => True) := CtV.of0 (Ct.args Qjg (Qxt x y)) (by kernel_rfl)

/-- slices.Clone[rhizome/api.Tuple,int] -/
theorem Qxu (xs : Tp) (hm : xs.length ≤ 1000000) : CtM K0 n0 Tryz.prog 66 [SlT kI6 xs] ([]) Unit (fun _ => Yz K0 n0 kI6 xs) (fun _ => []) (fun _ => True) := by
 refine Vy Tryz.func66 rfl rfl ?_
 intro H w hK hn
 refine sq (rg (ak rfl (tn (nn (sq (sq (rg (mv rfl rfl (oA (Wr oz Tryz.underlying51) pR rfl rfl (fun b1 hb1 => ?_))))))))))
 refine tn (nn (tc oz (fun c4 => ?_) (fun c4 => ?_)))
 · try simp only [cq] at c4
   obtain rfl := hb1 c4
   refine sq (rg (ak rfl (tn (nn (tR (tt ?_))))))
   exact Qi .ret (.inl rfl) rfl () (Qlj oz) trivial (by exact pn)
 · try simp only [cq] at c4
   refine sk (nn (sq (rg (oA (Jf (d := kI6) (v0 := 0) ye1 ynm zi3 (show 0 * 1 ≤ 16777216 from by decide) (by decide) Qc) pR rfl rfl (fun v3_0 _ => ?_)))))
   refine mv rfl rfl (oA (Q0 oz (pA 0 rfl) oz ye1 (by (simp; omega)) (by (simp [maxLen]; omega))) (pA 0 rfl) rfl rfl (fun v3_2 _ => ?_))
   refine av rfl rfl (tn (Kx (Qc8 hK hn) (fun g => Ua) (pA 0 rfl) 2 oz (nn (tR ?_))))
   exact Qi .ret (.inl rfl) rfl () oz trivial (by exact pn)
/-- slices.Clip[rhizome/api.Tuple,int] -/
theorem Q1g (xs : Tp) : Ct Tryz.prog 65 [Yz K0 n0 kI6 xs] ([]) Unit (fun _ => Qhb K0 n0 kI6 xs) (fun _ => []) (fun _ => True) := by
 refine Qn Tryz.func65 rfl rfl ?_
 intro H w
 refine sq (rg (ak rfl (tn (nn (sq (rg (mv rfl rfl (mv rfl rfl (Zt 4 (OT.fresh oz) (oP (pls oz Tryz.underlying51) rfl (mv rfl rfl (Zt 6 (OT.fresh oz) (oP (pls oz Tryz.underlying51) rfl (oP (Qd5 oz oz oz Tryz.underlying51 ynm) rfl (av rfl rfl (tn (nn (tR ?_))))))))))))))))))
 exact Qi .ret (.inl rfl) rfl () oz trivial (by exact pn)
/-- slices.Clip[[]rhizome/api.Tuple,rhizome/api.Tuple] -/
theorem Qxv (xs : List Tp) : Ct Tryz.prog 91 [Yz K0 n0 (kF K0 n0) xs] ([]) Unit (fun _ => Yz K0 n0 (kF K0 n0) xs) (fun _ => []) (fun _ => True) := by
 refine Qn Tryz.func91 rfl rfl ?_
 intro H w
 refine sq (rg (ak rfl (tn (nn (sq (rg (mv rfl rfl (mv rfl rfl (Zt 4 (OT.fresh oz) (oP (pls oz Tryz.underlying36) rfl (mv rfl rfl (Zt 6 (OT.fresh oz) (oP (pls oz Tryz.underlying36) rfl (oP (Qd5 oz oz oz Tryz.underlying36 yko) rfl (av rfl rfl (tn (nn (tR ?_))))))))))))))))))
 exact Qi .ret (.inl rfl) rfl () (OT.unclip oz) trivial (by exact pn)
/-- rhizome/tuple.own -/
theorem Qpl (l : List Tp) (hs : Small l) : CtM K0 n0 Tryz.prog 37 [SlT kT l] ([]) Value (fun v => IsV v) (fun v => [Qh 51 (kF K0 n0) v l]) (fun _ => True) := by
 refine Vy Tryz.func37 rfl rfl ?_
 intro H w hK hn
 have hsl := hs.1
 refine sq (rg (ak rfl (tn (nn (sq (rg (mv rfl rfl (oP (pls oz Tryz.underlying36) rfl (oA (Qrs (d := (kF K0 n0)) ot oz yiy (by omega) (by omega) (by (simp [maxLen]; omega))) pR rfl rfl (fun v1_2 _ => ?_))))))))))
 refine av rfl rfl (tn (nn (sq (sq (rg (mv rfl rfl (oP (pls oz Tryz.underlying36) rfl (oP (Qm ot) rfl (tn (nn (tb (Qt (σ := Nat × Value) (e2 9 10 rfl en) (fun s => [(11, I64 (s.1 : Int)), (3, IsV s.2)]) (fun s => [Qh 51 (kF K0 n0) s.2 (l.take s.1)]) (fun s => s.1 ≤ l.length) (fun s => l.length - s.1) (0, v1_2) (Nat.zero_le _) ?_ (op (by repeat first | exact pn | refine pc 0 rfl ?_)) ?_))))))))))))
 · exact (e2 11 3 rfl en)
 rintro ⟨k, v⟩ hk
 dsimp only at hk ⊢
 have htl : (l.take k).length = k := by rw [List.length_take]; omega
 refine sq (rg (oP (Q5 oz oz) rfl (tn (nn (sq (tc oz (fun c12 => ?_) (fun c12 => ?_)))))))
 · try simp only [cq] at c12
   refine sk (nn (sq (tb (sq (rg (oP (Qj oz oz Tryz.underlying36 yko (by omega) (by omega)) rfl (oP (pL oz yko) rfl (av rfl rfl (tn (nn ?_))))))))))
   have hte := hs.at_ (k : Int)
   refine rg (mv rfl rfl (mv rfl rfl (oA (Zo (Qxu _ (by assumption)) (Qc8 hK hn) yz4 (oc oz oN) pR) pR rfl rfl (fun _ _ => ?_))))
   refine oA (aC (Q1g _) y28 (oc oz oN) pR) pR rfl rfl (fun _ _ => ?_)
   refine oA (Q7 (d := (kF K0 n0)) (v0 := []) yiy yko Q5b (show 1 * 1 ≤ 16777216 from by decide) (by decide) (Qv rfl rfl (by decide) oz Qc)) pR rfl rfl (fun _ _ => ?_)
   refine oA (Q0 oz (pA 0 rfl) oz yiy (by (simp; omega)) (by (simp [maxLen]; omega))) (pA 0 rfl) rfl rfl (fun v5_5 _ => ?_)
   refine av rfl rfl (tn (bn (nn (rg (oP (pad oz ot (by omega)) rfl (mv rfl rfl (tn (nn ?_))))))))
   exact tg (k + 1, v5_5) (by show k + 1 ≤ l.length; omega) (by omega) ef (op (by rw [Qrb (by omega)]; exact (by repeat first | exact pn | refine pc 0 rfl ?_)))
 try simp only [cq] at c12
 refine Qx (tx (tx (bh (nn (sq ?_)))))
 obtain rfl : k = l.length := by omega
 rw [List.take_length]
 refine rg (mv rfl rfl (av rfl rfl (tn (nn (tR ?_)))))
 exact Qi .ret (.inl rfl) rfl v oz trivial (by repeat first | exact pn | refine pc 0 rfl ?_)
theorem Qnw (a b : Tp) : Qu.Ct Tryz.prog 63 [SlT kI6 a, SlT kI6 b] (I64 (X6 a b)) := Qu.Ct.pre Qp6 fun h => Qnv a b h.1 h.2
theorem Qnx (Z : Qly) (v : Value) (ts : List Tp) (hm : ts.length ≤ 1000000) (hq : ∀ x y, Qu.Ct Tryz.prog 63 [(kG Z).T x, (kG Z).T y] (I64 (X6 x y))) : Ct Tryz.prog 62 [IsV v, IsV (.func (.func 63) #[] #[])] [Qh 51 (kG Z) v ts] (List Tp) (fun _ => Yu) (fun rs => [Qh 51 (kG Z) v rs]) (fun rs => rs.Perm ts ∧ rs.Pairwise fun x y => X6 x y ≤ 0) :=
 Ct.weak (Quv Tryz.lSortF Z v ts (by omega) swo (by kernel_rfl) hq) (fun _ _ _ _ h => h) fun rs h => ⟨h.1, h.2.imp fun {x y} h2 => by simp only [ltc, decide_eq_false_iff_not] at h2; have := Vq x y; omega⟩
theorem Qny (v : Value) (ts : List Tp) (hm : ts.length ≤ 1000000) : Ct Tryz.prog 62 [IsV v, IsV (.func (.func 63) #[] #[])] [Qh 51 (kF K0 n0) v ts] (List Tp) (fun _ => Yu) (fun rs => [Qh 51 (kF K0 n0) v rs]) (fun rs => rs.Perm ts ∧ rs.Pairwise fun x y => X6 x y ≤ 0) := Qnx (zC K0 n0) v ts hm fun x y => Qu.Ct.args Qjg (Qnw x y)
theorem Qxw (v : Value) (ts : List Tp) (hm : ts.length ≤ 1000000) : Ct Tryz.prog 62 [IsV v, IsV (.func (.func 63) #[] #[])] [Qh 51 kT v ts] (List Tp) (fun _ => Yu) (fun rs => [Qh 51 kT v rs]) (fun rs => rs.Perm ts ∧ rs.Pairwise fun x y => X6 x y ≤ 0) := Qnx zS v ts hm Qnw
/-- slices.CompactFunc[[]rhizome/api.Tuple,rhizome/api.Tuple] -/
theorem Qpm (v fv : Value) (xs : List Tp) (hm : xs.length ≤ 1000000) (hfv : ∀ x y, CtV Tryz.prog fv [(kF K0 n0).T x, (kF K0 n0).T y] [] Unit (fun _ => Xe (decide (x = y))) (fun _ => []) (fun _ => True)) : Ct Tryz.prog 92 [IsV v, IsV fv] ([Qh 51 (kF K0 n0) v xs]) Value (fun r => IsV r) (fun r => [Qh 51 (kF K0 n0) r (dd xs)]) (fun _ => True) := by
 refine Qn Tryz.func92 rfl rfl ?_
 intro H w
 refine sq (rg (ak rfl (tn (nn (sq (sq (rg (mv rfl rfl (oP (Xr oz (mA 0 rfl) Tryz.underlying36) rfl (oP (Q5 oz ot) rfl (tn (nn (tc oz (fun c10 => ?_) (fun c10 => ?_))))))))))))))
 · try simp only [cq] at c10
   refine sq (rg (mv rfl rfl (av rfl rfl (tn (nn (tR (tt ?_)))))))
   exact Qi .ret (.inl rfl) rfl v oz trivial (by rw [Qkp (by omega)]; exact pc 0 rfl pn)
 try simp only [cq] at c10
 refine sk (nn (sq (sq (rg (ak rfl (tn (nn (tb (Qt (σ := Nat) (e2 0 1 rfl en) (fun i => [(5, I64 (i : Int))]) (fun i => [Qh 51 (kF K0 n0) v xs]) (fun i => 1 ≤ i ∧ i ≤ xs.length ∧ dd (xs.take i) = xs.take i) (fun i => xs.length - i) 1 ⟨Nat.le_refl _, by omega, by rw [Qkp (by rw [List.length_take]; omega)]⟩ ?_ (op (by repeat first | exact pn | refine pc 0 rfl ?_)) ?_)))))))))
 · exact (ec 5 rfl en)
 rintro i ⟨hi0, hi1, hdd⟩
 refine sq (sq (rg (mv rfl rfl (mv rfl rfl (oP (Xr oz (mA 0 rfl) Tryz.underlying36) rfl (oP (Q5 oz oz) rfl (tn (nn (tc oz (fun c15 => ?_) (fun c15 => ?_))))))))))
 · try simp only [cq] at c15
   refine sk (nn (sq (tb (sq ?_))))
   have hst := Qee (xs := xs) (m := i) (by omega) (by omega)
   apply Xs (m := 10) (ns := [[(1, none)], [(0, none)], [(5, none)], [(19, some 1), (20, some 2)], [(21, some 3)], [(0, none)], [(5, none)], [(24, some 6)], [(23, some 5), (25, some 7)], [(26, some 8)]]) (by kernel_rfl) (by kernel_rfl) (Ts := [_, _, _, _, _, _, _, _, _, _]) rfl
   case hops =>
    exact ⟨rmv rfl, rmv rfl, rmv rfl, rP (pio oz (mA 0 rfl) oz Tryz.underlying36 yko (by omega) (by omega)), rP (plo oz (mA 0 rfl) (by omega) (by omega) yko), rmv rfl, rmv rfl, rP (Kb oz ot (by omega)), rP (pio oz (mA 0 rfl) oz Tryz.underlying36 yko (by omega) (by omega)), rP (plo oz (mA 0 rfl) (by omega) (by omega) yko), trivial⟩
   case h =>
    refine oA (Z6 oz (hfv _ _) (oc oz (oc oz oN)) pR) pR rfl rfl (fun _ _ => ?_)
    refine tn (nn (tc oz (fun c28 => ?_) (fun c28 => ?_)))
    · try simp only [cq] at c28
      rw [if_pos c28.symm, hdd] at hst
      refine sq (rg (mv rfl rfl (mv rfl rfl (oP (Qaw oz (mA 0 rfl) oz Tryz.underlying36 yko (by omega) (by omega)) rfl (av rfl rfl (tn (nn (sq (sq (rg (ak rfl (tn (nn (tb (Qt (σ := Nat × Nat × List Tp) (e2 0 1 rfl (ec 6 rfl en)) (fun s => [(7, I64 (s.1 : Int)), (5, I64 (s.2.1 : Int))]) (fun s => [Qh 51 (kF K0 n0) v s.2.2]) (fun s => 1 ≤ s.1 ∧ i + s.1 ≤ xs.length ∧ s.2.2.length = xs.length ∧ i ≤ s.2.1 ∧ s.2.1 ≤ i + s.1 - 1 ∧ s.2.2.take s.2.1 = dd (xs.take (i + s.1)) ∧ s.2.2.drop (i + s.1 - 1) = xs.drop (i + s.1 - 1)) (fun s => xs.length - i - s.1) (1, i, xs) ⟨Nat.le_refl _, by show i + 1 ≤ xs.length; omega, rfl, Nat.le_refl _, by show i ≤ i + 1 - 1; omega, hst.symm, rfl⟩ ?_ (op (by repeat first | exact pn | refine pc 0 rfl ?_)) ?_)))))))))))))))
      · exact (e2 7 5 rfl en)
      rintro ⟨k, j, ys⟩ ⟨hk1, hkn, hyl, hij, hji, hyt, hyd⟩
      dsimp only at hk1 hkn hyl hij hji hyt hyd ⊢
      refine sq (sq (rg (mv rfl rfl (mv rfl rfl (oP (Qom oz (mA 0 rfl) Tryz.underlying36 (by omega)) rfl (oP (Q5 oz oz) rfl (tn (nn (tc oz (fun c35 => ?_) (fun c35 => ?_))))))))))
      · try simp only [cq] at c35
        refine sk (nn (sq (tb (sq ?_))))
        have hst2 := Qee (xs := xs) (m := i + k) (by omega) (by omega)
        have hy1 : at' ys ((i : Int) + k) = at' xs ((i + k : Nat) : Int) := by
         have := Qef (l := ys) (m := xs) (k := i + k - 1) (i := i + k) hyd (by omega) (by omega) (by omega)
         rw [← this]; congr 1
        have hy2 : at' ys ((i : Int) + (k - 1)) = at' xs (((i + k : Nat) : Int) - 1) := by
         have := Qef (l := ys) (m := xs) (k := i + k - 1) (i := i + k - 1) hyd (by omega) (by omega) (by omega)
         rw [show ((i : Int) + (k - 1)) = ((i + k - 1 : Nat) : Int) from by omega, this, show ((i + k - 1 : Nat) : Int) = ((i + k : Nat) : Int) - 1 from by omega]
        apply Xs (m := 10) (ns := [[(1, none)], [(6, none)], [(7, none)], [(39, some 1), (40, some 2)], [(41, some 3)], [(6, none)], [(7, none)], [(44, some 6)], [(43, some 5), (45, some 7)], [(46, some 8)]]) (by kernel_rfl) (by kernel_rfl) (Ts := [_, _, _, _, _, _, _, _, _, _]) rfl
        case hops =>
         exact ⟨rmv rfl, rmv rfl, rmv rfl, rP (Qax oz (mA 0 rfl) oz Tryz.underlying36 yko (by omega) (by omega)), rP (plo oz (mA 0 rfl) (by omega) (by omega) yko), rmv rfl, rmv rfl, rP (Kb oz ot (by omega)), rP (Qax oz (mA 0 rfl) oz Tryz.underlying36 yko (by omega) (by omega)), rP (plo oz (mA 0 rfl) (by omega) (by omega) yko), trivial⟩
        case h =>
         refine oA (Z6 oz (hfv _ _) (oc oz (oc oz oN)) pR) pR rfl rfl (fun _ _ => ?_)
         refine oP (Zf oz) rfl (tn (nn (tc oz (fun c49 => ?_) (fun c49 => ?_))))
         · try simp only [cq] at c49
           have hne : ¬ at' xs (((i + k : Nat) : Int) - 1) = at' xs ((i + k : Nat) : Int) := by rw [← hy1, ← hy2]; exact fun e => c49 e.symm
           rw [if_neg hne] at hst2
           refine sq (rg (mv rfl rfl (mv rfl rfl (mv rfl rfl (mv rfl rfl (oP (Qax oz (mA 0 rfl) oz Tryz.underlying36 yko (by omega) (by omega)) rfl (oP (plo oz (mA 0 rfl) (by omega) (by omega) yko) rfl (oP (pio oz (mA 0 rfl) oz Tryz.underlying36 yko (by omega) (by omega)) rfl (oA (Kv oz oz (pA 0 rfl) (by omega) (by omega) yko) (pA 0 rfl) rfl rfl (fun _ _ => ?_))))))))))
           refine tn (nn (rg (mv rfl rfl (oP (pad oz ot (by omega)) rfl (av rfl rfl (tn (bn (nn (rg (mv rfl rfl (oP (pad oz ot (by omega)) rfl (av rfl rfl (tn (nn ?_))))))))))))))
           exact tg (k + 1, j + 1, ys.set j (at' xs ((i + k : Nat) : Int))) ⟨by show 1 ≤ k + 1; omega, by show i + (k + 1) ≤ xs.length; omega, by show (ys.set j _).length = _; rw [List.length_set]; exact hyl, by show i ≤ j + 1; omega, by show j + 1 ≤ i + (k + 1) - 1; omega, by show (ys.set j _).take (j + 1) = dd (xs.take (i + k + 1)); rw [hst2, ← hyt]; exact Qhp (by omega), by show (ys.set j _).drop (i + k) = xs.drop (i + k); rw [List.drop_set, if_pos (by omega)]; exact V1 hyd (by omega)⟩ (by show xs.length - i - (k + 1) < xs.length - i - k; omega) ef (op (by simp only [Int.toNat_natCast]; rw [hy1]; exact (by repeat first | exact pn | refine pc 0 rfl ?_)))
         try simp only [cq] at c49
         have heq : at' xs (((i + k : Nat) : Int) - 1) = at' xs ((i + k : Nat) : Int) := by rw [← hy1, ← hy2]; exact c49.symm
         rw [if_pos heq] at hst2
         refine sk (bn (nn (rg (mv rfl rfl (oP (pad oz ot (by omega)) rfl (av rfl rfl (tn (nn ?_))))))))
         exact tg (k + 1, j, ys) ⟨by show 1 ≤ k + 1; omega, by show i + (k + 1) ≤ xs.length; omega, hyl, hij, by show j ≤ i + (k + 1) - 1; omega, by show ys.take j = dd (xs.take (i + k + 1)); rw [hst2]; exact hyt, by show ys.drop (i + k) = xs.drop (i + k); exact V1 hyd (by omega)⟩ (by show xs.length - i - (k + 1) < xs.length - i - k; omega) ef (op (by repeat first | exact pn | refine pc 0 rfl ?_))
      try simp only [cq] at c35
      refine Qx (tx (tx (bh (nn (sq ?_)))))
      have hik : i + k = xs.length := by omega
      rw [hik, List.take_length] at hyt
      refine rg (mv rfl rfl (mv rfl rfl (oP (Qaw oz (mA 0 rfl) oz Tryz.underlying36 yko (by omega) (by omega)) rfl (oA (Wd (d := (kF K0 n0)) (v0 := []) oz (pA 0 rfl) Tryz.underlying36 yko Q5b (show 0 < 1 from by decide) (by omega)) (pA 0 rfl) rfl rfl (fun _ _ => ?_)))))
      refine tn (nn (sq (rg (mv rfl rfl (mv rfl rfl (oA (Jh oz (pA 0 rfl) oz Tryz.underlying36 yko (by omega) (by (simp; omega))) (pA 0 rfl) rfl rfl (fun v15_2 _ => ?_)))))))
      refine av rfl rfl (tn (nn (tR (Qw (tt (tt (Qw (tt ?_))))))))
      exact Qi .ret (.inl rfl) rfl _ oz trivial (by rw [← hyt]; simp only [Int.toNat_natCast]; rw [Qeg (by omega)]; exact pc 0 rfl pn)
    try simp only [cq] at c28
    rw [if_neg (fun e => c28 e.symm), hdd] at hst
    have hnx : dd (xs.take (i + 1)) = xs.take (i + 1) := by rw [hst, Qrb (by omega)]
    refine sk (bn (nn (rg (mv rfl rfl (oP (pad oz ot (by omega)) rfl (av rfl rfl (tn (nn ?_))))))))
    exact tg (i + 1) ⟨by omega, by omega, hnx⟩ (by omega) ef (op (by repeat first | exact pn | refine pc 0 rfl ?_))
 try simp only [cq] at c15
 refine Qx (tx (tx (bh (nn (sq ?_)))))
 obtain rfl : i = xs.length := by omega
 rw [List.take_length] at hdd
 refine rg (mv rfl rfl (av rfl rfl (tn (nn (tR ?_)))))
 exact Qi .ret (.inl rfl) rfl v oz trivial (by rw [hdd]; exact pc 0 rfl pn)
end Go.Proofs.YtklhdalppmjnaaaGreatDoor
namespace Go.Proofs.YtklhdalppmjnaaaGreatDoor
open Go Go.Gw Go.So Go.Tu
variable {K0 : FH} {n0 : Nat}

/-- rhizome/tuple.Set -/
theorem Qdt (l : List Tp) (hs : Small l) : CtM K0 n0 Tryz.prog 60 [SlT kT l] ([]) Unit (fun _ => Yz K0 n0 (kF K0 n0) (Jm l)) (fun _ => []) (fun _ => True) := by
 refine Vy Tryz.func60 rfl rfl ?_
 intro H w hK hn
 refine sq (rg (ak rfl (tn (nn (sq (rg (mv rfl rfl (oA (Zo (Qpl _ (by assumption)) (Qc8 hK hn) ykz (oc oz oN) pR) pR rfl rfl (fun v1_1 _ => ?_)))))))))
 refine av rfl rfl (tn (nn (sq (rg (mv rfl rfl (oA (aC (Qny _ _ hs.1) yfb (oc oz (oc OT.func oN)) (pA 0 rfl)) (pA 0 rfl) rfl rfl (fun rs hrs => ?_)))))))
 refine tn (nn (sq ?_))
 have hrl : rs.length ≤ 1000000 := by rw [hrs.1.length_eq]; exact hs.1
 refine rg (mv rfl rfl (oA (aC (Qpm _ _ rs hrl Q1f) yxx (oc oz (oc OT.func oN)) (pA 0 rfl)) (pA 0 rfl) rfl rfl (fun r3_1 _ => ?_)))
 rw [Quw hrs.1 hrs.2]
 refine Kx (Qc8 hK hn) (fun g => Ua) (pA 0 rfl) 9 oz (oA (aC (Qxv _) y8z (oc oz oN) pR) pR rfl rfl (fun _ _ => ?_))
 refine av rfl rfl (tn (nn (tR ?_)))
 exact Qi .ret (.inl rfl) rfl () oz trivial (by exact pn)
/-- rhizome/tuple.walk -/
theorem Qxx (a b : List Tp) (ha : a.length ≤ 1000000) (hb : b.length ≤ 1000000) : Ct Tryz.prog 43 [SlT kT a, SlT kT b] ([]) Unit (fun _ => Y1 [SlT kT (Zm a b).1, SlT kT (Zm a b).2.1, SlT kT (Zm a b).2.2]) (fun _ => []) (fun _ => True) := by
 refine Qn Tryz.func43 rfl rfl ?_
 intro H w
 refine Xg 51 kT (Xg 51 kT (Xg 51 kT ?_))
 refine sq (rg (ak rfl (ak rfl (ak rfl (tn (nn (sq (tb (Qt (σ := List Tp × List Tp × Value × Value × Value × List Tp × List Tp × List Tp) en (fun s => [(0, SlT kT s.1), (1, SlT kT s.2.1), (4, IsV s.2.2.1), (5, IsV s.2.2.2.1), (6, IsV s.2.2.2.2.1)]) (fun s => [Qh 51 kT s.2.2.1 s.2.2.2.2.2.1, Qh 51 kT s.2.2.2.1 s.2.2.2.2.2.2.1, Qh 51 kT s.2.2.2.2.1 s.2.2.2.2.2.2.2]) (fun s => (s.2.2.2.2.2.1.length + s.1.length ≤ a.length) ∧ (s.2.2.2.2.2.2.1.length + s.1.length ≤ a.length) ∧ (s.2.2.2.2.2.2.2.length + s.2.1.length ≤ b.length) ∧ Zm a b = (s.2.2.2.2.2.1 ++ (Zm s.1 s.2.1).1, s.2.2.2.2.2.2.1 ++ (Zm s.1 s.2.1).2.1, s.2.2.2.2.2.2.2 ++ (Zm s.1 s.2.1).2.2)) (fun s => s.1.length + s.2.1.length) (a, b, Qo, Qo, Qo, [], [], []) ⟨by simp, by simp, by simp, by simp⟩ ?_ (op (by repeat first | exact pn | refine pc 0 rfl ?_)) ?_)))))))))
 · exact (e4 0 1 4 5 rfl (ec 6 rfl en))
 rintro ⟨a1, b1, vl, vb, vr, l, m, r⟩ ⟨hl1, hl2, hl3, hwk⟩
 dsimp only at hl1 hl2 hl3 hwk ⊢
 refine sq (sq (rg (mv rfl rfl (oP (pls oz Tryz.underlying36) rfl (oP (Y3 oz ot) rfl (mv rfl rfl (oG rfl rfl rfl (gm oz) (fun hg => by (have hg1 := hg.2; (try simp only [cq2] at hg1); exact Qm oz)) rfl ?_)))))))
 refine oG rfl rfl rfl (gm oz) (fun hg => by (have hg1 := hg.2; (try simp only [cq2] at hg1); exact pls (gu oz hg) Tryz.underlying36)) rfl ?_
 refine oG rfl rfl rfl (gm oz) (fun hg => by (have hg1 := hg.2; (try simp only [cq2] at hg1); exact Y3 (gu oz hg) ot)) rfl ?_
 refine oP (Zx oz oz) rfl (tn (nn (tc oz (fun c15 => ?_) (fun c15 => ?_))))
 · try simp only [cq] at c15
   refine sk (nn (tb (sq (rg (ak rfl (tn (nn (Qac (σ := Unit) (e4 0 1 4 5 rfl (ec 6 rfl en)) (fun _ => [(7, I64 (cW a1 b1))]) (fun _ => [Qh 51 kT vl l, Qh 51 kT vb m, Qh 51 kT vr r]) (fun _ => True) ?_ ?_))))))))
   · refine tb (sq (rg (mv rfl rfl (oP (pls oz Tryz.underlying36) rfl (oP (Zs oz ot) rfl (av rfl rfl (tn (nn (tc oz (fun c23 => ?_) (fun c23 => ?_))))))))))
     · try simp only [cq] at c23
       refine rg (ak rfl (tn (bn (nn ?_))))
       exact Y2 () trivial (ea (Qy (t := 7) (OT.val oz (congrArg (Value.int _) (cW1 (by omega)).symm)) en) ef) (op (by repeat first | exact pn | refine pc 0 rfl ?_))
     try simp only [cq] at c23
     refine sq (rg (mv rfl rfl (oP (pls oz Tryz.underlying36) rfl (oP (Zs oz ot) rfl (av rfl rfl (tn (nn (tc oz (fun c27 => ?_) (fun c27 => ?_)))))))))
     · try simp only [cq] at c27
       refine rg (ak rfl (tn (bn (nn ?_))))
       exact Y2 () trivial (ea (Qy (t := 7) (OT.val oz (congrArg (Value.int _) (cW2 (by omega) (by omega)).symm)) en) ef) (op (by repeat first | exact pn | refine pc 0 rfl ?_))
     try simp only [cq] at c27
     apply Xs (m := 6) (ns := [[(0, none)], [(16, some 0)], [(17, some 1)], [(1, none)], [(19, some 3)], [(20, some 4)]]) (by kernel_rfl) (by kernel_rfl) (Ts := [_, _, _, _, _, _]) rfl
     case hops =>
      exact ⟨rmv rfl, rP (Qj oz ot Tryz.underlying36 yko (by omega) (by omega)), rP (pL oz yko), rmv rfl, rP (Qj oz ot Tryz.underlying36 yko (by omega) (by omega)), rP (pL oz yko), trivial⟩
     case h =>
      refine oA (aC (Qg2 _ _) yuu (oc oz (oc oz oN)) pR) pR rfl rfl (fun _ _ => ?_)
      refine av rfl rfl (tn (bn (nn ?_)))
      exact Y2 () trivial (ea (Qy (t := 7) (OT.val oz (congrArg (Value.int _) (cW3 (by omega) (by omega)).symm)) en) ef) (op (by repeat first | exact pn | refine pc 0 rfl ?_))
   rintro _ _
   refine tb (sq ?_)
   skip
   refine rg (mv rfl rfl (oP (Q5 oz ot) rfl (av rfl rfl (tn (nn (tc oz (fun c41 => ?_) (fun c41 => ?_)))))))
   · try simp only [cq] at c41
     obtain ⟨hp, hst⟩ := Qzc c41
     have hlen1 : (l ++ [at' a1 0]).length + (a1.drop 1).length ≤ a.length := by (try simp only [List.length_append, List.length_drop, List.length_cons, List.length_nil]); omega
     have hlen2 : (m).length + (a1.drop 1).length ≤ a.length := by (try simp only [List.length_append, List.length_drop, List.length_cons, List.length_nil]); omega
     have hlen3 : (r).length + (b1).length ≤ b.length := by (try simp only [List.length_append, List.length_drop, List.length_cons, List.length_nil]); omega
     have hw : Zm a b = (l ++ [at' a1 0] ++ (Zm (a1.drop 1) (b1)).1, m ++ (Zm (a1.drop 1) (b1)).2.1, r ++ (Zm (a1.drop 1) (b1)).2.2) := by rw [hwk, hst]; simp
     apply Yg (ρ := Value) (φ := fun rr => True) (p := 5) (Lf := fun c rr => cond c ([Qh 51 kT rr (l ++ [at' a1 0]), Qh 51 kT vb m, Qh 51 kT vr r]) ([Qh 51 kT vl l, Qh 51 kT vb m, Qh 51 kT vr r])) Qo (by kernel_rfl) (m := 9) (ns := [[(4, none)], [(0, none)], [(45, some 1)], [(46, some 2)], [(47, some 3)], [(44, some 0), (48, some 4)], [(0, none)], [(50, some 6)], [(49, some 5)]]) (by kernel_rfl) (by kernel_rfl) (Ts := fun rr => [_, _, _, _, _, IsV rr, _, _, IsV rr]) (fun _ => rfl)
     case hops =>
      refine ⟨?_, ?_, ?_, ?_, ?_, ?_, ?_, ?_, ?_, trivial⟩
      · exact ⟨cBf (by kernel_rfl) fun r _ => rgo r rfl ⟨rfl, trivial⟩ (rmv rfl), fun _ _ _ _ => rfl⟩
      · exact ⟨cBf (by kernel_rfl) fun r _ => rgo r rfl ⟨rfl, trivial⟩ (rmv rfl), fun _ _ _ _ => rfl⟩
      · exact ⟨cBf (by kernel_rfl) fun r _ => rgo r rfl ⟨rfl, trivial⟩ (rP (Qj oz ot Tryz.underlying36 yko (by omega) (by omega))), fun _ _ _ _ => rfl⟩
      · exact ⟨cBf (by kernel_rfl) fun r _ => rgo r rfl ⟨rfl, trivial⟩ (rP (pL oz yko)), fun _ _ _ _ => rfl⟩
      · exact ⟨cBf (by kernel_rfl) fun r _ => rgo r rfl ⟨rfl, trivial⟩ (Zc rfl (Q7 (d := kT) (v0 := []) yiy yko z38 (show 1 * 1 ≤ 16777216 from by decide) (by decide) (Qv rfl rfl (by decide) oz Qc)) (fun _ _ _ _ h => h)), fun _ _ _ _ => rfl⟩
      · refine ⟨?_, ?_⟩
        · exact cBf (by kernel_rfl) fun r _ => Zg rfl (Q0 oz (pA 0 rfl) oz yiy (by (simp; omega)) (by (simp [maxLen]; omega))) (pA 0 rfl) (fun r => pR) (fun _ _ _ => trivial) (fun _ _ _ _ h => h)
        exact fun _ h => absurd h (by decide)
      · exact ⟨by intro c r hc; cases c <;> exact rgo r rfl ⟨rfl, trivial⟩ (rmv rfl), fun _ _ _ _ => rfl⟩
      · exact ⟨by intro c r hc; cases c <;> exact rgo r rfl ⟨rfl, trivial⟩ (rP (K7 oz ot Tryz.underlying36 yko (by omega) (by omega))), fun _ _ _ _ => rfl⟩
      refine ⟨?_, ?_⟩
      · exact cBt (by kernel_rfl) fun r _ => rgo r rfl ⟨rfl, trivial⟩ (rP (Xz oz))
      exact fun h => Bool.noConfusion (h.symm.trans (by kernel_rfl : Jl _ _ _ _ = false))
     case h =>
      intro v10_5 _
      refine av rfl rfl (tn (bn (bn (nn ?_))))
      exact tg (a1.drop 1, b1, v10_5, vb, vr, l ++ [at' a1 0], m, r) ⟨hlen1, hlen2, hlen3, hw⟩ (by dsimp only; (try simp only [List.length_drop]); omega) ef (op (by repeat first | exact pn | refine pc 0 rfl ?_))
   try simp only [cq] at c41
   refine sq (rg (mv rfl rfl (oP (Y3 oz ot) rfl (av rfl rfl (tn (nn (tc oz (fun c52 => ?_) (fun c52 => ?_))))))))
   · try simp only [cq] at c52
     obtain ⟨hp, hst⟩ := Qzd c52 (by omega)
     have hlen1 : (l).length + (a1).length ≤ a.length := by (try simp only [List.length_append, List.length_drop, List.length_cons, List.length_nil]); omega
     have hlen2 : (m).length + (a1).length ≤ a.length := by (try simp only [List.length_append, List.length_drop, List.length_cons, List.length_nil]); omega
     have hlen3 : (r ++ [at' b1 0]).length + (b1.drop 1).length ≤ b.length := by (try simp only [List.length_append, List.length_drop, List.length_cons, List.length_nil]); omega
     have hw : Zm a b = (l ++ (Zm (a1) (b1.drop 1)).1, m ++ (Zm (a1) (b1.drop 1)).2.1, r ++ [at' b1 0] ++ (Zm (a1) (b1.drop 1)).2.2) := by rw [hwk, hst]; simp
     apply Yg (ρ := Value) (φ := fun rr => True) (p := 5) (Lf := fun c rr => cond c ([Qh 51 kT rr (r ++ [at' b1 0]), Qh 51 kT vl l, Qh 51 kT vb m]) ([Qh 51 kT vl l, Qh 51 kT vb m, Qh 51 kT vr r])) Qo (by kernel_rfl) (m := 9) (ns := [[(6, none)], [(1, none)], [(56, some 1)], [(57, some 2)], [(58, some 3)], [(55, some 0), (59, some 4)], [(1, none)], [(61, some 6)], [(60, some 5)]]) (by kernel_rfl) (by kernel_rfl) (Ts := fun rr => [_, _, _, _, _, IsV rr, _, _, IsV rr]) (fun _ => rfl)
     case hops =>
      refine ⟨?_, ?_, ?_, ?_, ?_, ?_, ?_, ?_, ?_, trivial⟩
      · exact ⟨cBf (by kernel_rfl) fun r _ => rgo r rfl ⟨rfl, trivial⟩ (rmv rfl), fun _ _ _ _ => rfl⟩
      · exact ⟨cBf (by kernel_rfl) fun r _ => rgo r rfl ⟨rfl, trivial⟩ (rmv rfl), fun _ _ _ _ => rfl⟩
      · exact ⟨cBf (by kernel_rfl) fun r _ => rgo r rfl ⟨rfl, trivial⟩ (rP (Qj oz ot Tryz.underlying36 yko (by omega) (by omega))), fun _ _ _ _ => rfl⟩
      · exact ⟨cBf (by kernel_rfl) fun r _ => rgo r rfl ⟨rfl, trivial⟩ (rP (pL oz yko)), fun _ _ _ _ => rfl⟩
      · exact ⟨cBf (by kernel_rfl) fun r _ => rgo r rfl ⟨rfl, trivial⟩ (Zc rfl (Q7 (d := kT) (v0 := []) yiy yko z38 (show 1 * 1 ≤ 16777216 from by decide) (by decide) (Qv rfl rfl (by decide) oz Qc)) (fun _ _ _ _ h => h)), fun _ _ _ _ => rfl⟩
      · refine ⟨?_, ?_⟩
        · exact cBf (by kernel_rfl) fun r _ => Zg rfl (Q0 oz (pA 2 rfl) oz yiy (by (simp; omega)) (by (simp [maxLen]; omega))) (pA 2 rfl) (fun r => pR) (fun _ _ _ => trivial) (fun _ _ _ _ h => h)
        exact fun _ h => absurd h (by decide)
      · exact ⟨by intro c r hc; cases c <;> exact rgo r rfl ⟨rfl, trivial⟩ (rmv rfl), fun _ _ _ _ => rfl⟩
      · exact ⟨by intro c r hc; cases c <;> exact rgo r rfl ⟨rfl, trivial⟩ (rP (K7 oz ot Tryz.underlying36 yko (by omega) (by omega))), fun _ _ _ _ => rfl⟩
      refine ⟨?_, ?_⟩
      · exact cBt (by kernel_rfl) fun r _ => rgo r rfl ⟨rfl, trivial⟩ (rP (Xz oz))
      exact fun h => Bool.noConfusion (h.symm.trans (by kernel_rfl : Jl _ _ _ _ = false))
     case h =>
      intro v12_5 _
      refine av rfl rfl (tn (bn (bn (nn ?_))))
      exact tg (a1, b1.drop 1, vl, vb, v12_5, l, m, r ++ [at' b1 0]) ⟨hlen1, hlen2, hlen3, hw⟩ (by dsimp only; (try simp only [List.length_drop]); omega) ef (op (by repeat first | exact pn | refine pc 0 rfl ?_ | refine pc 1 rfl ?_))
   try simp only [cq] at c52
   obtain ⟨hp, hp2, hst⟩ := Qze (a := a1) (b := b1) (by omega)
   have hlen1 : (l).length + (a1.drop 1).length ≤ a.length := by (try simp only [List.length_append, List.length_drop, List.length_cons, List.length_nil]); omega
   have hlen2 : (m ++ [at' a1 0]).length + (a1.drop 1).length ≤ a.length := by (try simp only [List.length_append, List.length_drop, List.length_cons, List.length_nil]); omega
   have hlen3 : (r).length + (b1.drop 1).length ≤ b.length := by (try simp only [List.length_append, List.length_drop, List.length_cons, List.length_nil]); omega
   have hw : Zm a b = (l ++ (Zm (a1.drop 1) (b1.drop 1)).1, m ++ [at' a1 0] ++ (Zm (a1.drop 1) (b1.drop 1)).2.1, r ++ (Zm (a1.drop 1) (b1.drop 1)).2.2) := by rw [hwk, hst]; simp
   apply Yg (ρ := Value) (φ := fun rr => True) (p := 5) (Lf := fun c rr => cond c ([Qh 51 kT rr (m ++ [at' a1 0]), Qh 51 kT vl l, Qh 51 kT vr r]) ([Qh 51 kT vl l, Qh 51 kT vb m, Qh 51 kT vr r])) Qo (by kernel_rfl) (m := 12) (ns := [[(5, none)], [(0, none)], [(32, some 1)], [(33, some 2)], [(34, some 3)], [(31, some 0), (35, some 4)], [(0, none)], [(37, some 6)], [(1, none)], [(39, some 8)], [(36, some 5)], [(38, some 7)]]) (by kernel_rfl) (by kernel_rfl) (Ts := fun rr => [_, _, _, _, _, IsV rr, _, _, _, _, IsV rr, _]) (fun _ => rfl)
   case hops =>
    refine ⟨?_, ?_, ?_, ?_, ?_, ?_, ?_, ?_, ?_, ?_, ?_, ?_, trivial⟩
    · exact ⟨cBf (by kernel_rfl) fun r _ => rgo r rfl ⟨rfl, trivial⟩ (rmv rfl), fun _ _ _ _ => rfl⟩
    · exact ⟨cBf (by kernel_rfl) fun r _ => rgo r rfl ⟨rfl, trivial⟩ (rmv rfl), fun _ _ _ _ => rfl⟩
    · exact ⟨cBf (by kernel_rfl) fun r _ => rgo r rfl ⟨rfl, trivial⟩ (rP (Qj oz ot Tryz.underlying36 yko (by omega) (by omega))), fun _ _ _ _ => rfl⟩
    · exact ⟨cBf (by kernel_rfl) fun r _ => rgo r rfl ⟨rfl, trivial⟩ (rP (pL oz yko)), fun _ _ _ _ => rfl⟩
    · exact ⟨cBf (by kernel_rfl) fun r _ => rgo r rfl ⟨rfl, trivial⟩ (Zc rfl (Q7 (d := kT) (v0 := []) yiy yko z38 (show 1 * 1 ≤ 16777216 from by decide) (by decide) (Qv rfl rfl (by decide) oz Qc)) (fun _ _ _ _ h => h)), fun _ _ _ _ => rfl⟩
    · refine ⟨?_, ?_⟩
      · exact cBf (by kernel_rfl) fun r _ => Zg rfl (Q0 oz (pA 1 rfl) oz yiy (by (simp; omega)) (by (simp [maxLen]; omega))) (pA 1 rfl) (fun r => pR) (fun _ _ _ => trivial) (fun _ _ _ _ h => h)
      exact fun _ h => absurd h (by decide)
    · exact ⟨by intro c r hc; cases c <;> exact rgo r rfl ⟨rfl, trivial⟩ (rmv rfl), fun _ _ _ _ => rfl⟩
    · exact ⟨by intro c r hc; cases c <;> exact rgo r rfl ⟨rfl, trivial⟩ (rP (K7 oz ot Tryz.underlying36 yko (by omega) (by omega))), fun _ _ _ _ => rfl⟩
    · exact ⟨by intro c r hc; cases c <;> exact rgo r rfl ⟨rfl, trivial⟩ (rmv rfl), fun _ _ _ _ => rfl⟩
    · exact ⟨by intro c r hc; cases c <;> exact rgo r rfl ⟨rfl, trivial⟩ (rP (K7 oz ot Tryz.underlying36 yko (by omega) (by omega))), fun _ _ _ _ => rfl⟩
    · refine ⟨?_, ?_⟩
      · exact cBt (by kernel_rfl) fun r _ => rgo r rfl ⟨rfl, trivial⟩ (rP (Xz oz))
      exact fun h => Bool.noConfusion (h.symm.trans (by kernel_rfl : Jl _ _ _ _ = false))
    refine ⟨?_, ?_⟩
    · exact cBt (by kernel_rfl) fun r _ => rgo r rfl ⟨rfl, trivial⟩ (rP (Xz oz))
    exact fun h => Bool.noConfusion (h.symm.trans (by kernel_rfl : Jl _ _ _ _ = false))
   case h =>
    intro v8_5 _
    refine av rfl rfl (tn (bn (bn (nn ?_))))
    exact tg (a1.drop 1, b1.drop 1, vl, v8_5, vr, l, m ++ [at' a1 0], r) ⟨hlen1, hlen2, hlen3, hw⟩ (by dsimp only; (try simp only [List.length_drop]); omega) ef (op (by repeat first | exact pn | refine pc 0 rfl ?_ | refine pc 1 rfl ?_))
 try simp only [cq] at c15
 have hfin := hwk
 rw [Qhr (a := a1) (b := b1) (by omega) (by omega)] at hfin
 simp only [List.append_nil] at hfin
 refine Qx (tx (tx (bh (nn (sq (Xh (pA 0 rfl) 4 oz (Xh (pA 0 rfl) 5 oz (Xh (pA 0 rfl) 6 oz (rg (mv rfl rfl (mv rfl rfl (mv rfl rfl (av rfl rfl (av rfl rfl (av rfl rfl (tn (nn (tR ?_))))))))))))))))))
 exact Qfe .ret (.inl rfl) rfl () (OT.eq oz (congrArg (SlT kT) (by rw [hfin]))) (OT.eq oz (congrArg (SlT kT) (by rw [hfin]))) (OT.eq oz (congrArg (SlT kT) (by rw [hfin]))) (fun _ _ h => h) trivial (by exact pn)
end Go.Proofs.YtklhdalppmjnaaaGreatDoor
namespace Go.Gw
open Go Go.MapKept
def Frz (J : List It) (Q : FH → Prop) : Prop := ∀ (ok : Nat → Prop) (w : World) (H : FH) (R : List It), On H w → Xu ok w H (J ++ R) →
 ∃ H', Sub H H' ∧ On H' w ∧ (∀ k o, H' k = some o → H k = some o ∨ ok k) ∧ Xu ok w H' R ∧ Q H'
def Qa2 (Q : FH → Prop) : Prop := ∀ {H H' : FH}, Sub H H' → Q H → Q H'
theorem Qa2.ty {T : Ty} {v : Value} : Qa2 fun H => T.p H v := fun hs h => T.mono hs h
theorem Frz.nil : Frz [] fun _ => True := fun ok w H R hon ho => ⟨H, Sub.refl _, hon, fun k o e => .inl e, ho, trivial⟩
theorem Frz.imp {J : List It} {Q Q' : FH → Prop} (h : Frz J Q) (hi : ∀ H, Q H → Q' H) : Frz J Q' := fun ok w H R hon ho => let ⟨H', a, b, c, d, e⟩ := h ok w H R hon ho; ⟨H', a, b, c, d, hi H' e⟩
theorem Frz.app {J J' : List It} {Q Q' : FH → Prop} (h : Frz J Q) (hm : Qa2 Q) (h' : Frz J' Q') : Frz (J ++ J') fun H => Q H ∧ Q' H := by
 intro ok w H R hon ho
 rw [List.append_assoc] at ho
 obtain ⟨H1, a1, b1, c1, d1, e1⟩ := h ok w H (J' ++ R) hon ho
 obtain ⟨H2, a2, b2, c2, d2, e2⟩ := h' ok w H1 R b1 d1
 exact ⟨H2, a1.trans a2, b2, fun k o e => (c2 k o e).elim (fun e => c1 k o e) .inr, d2, hm a2 e1, e2⟩
theorem Frz.cons {I : It} {J' : List It} {Q Q' : FH → Prop} (h : Frz [I] Q) (hm : Qa2 Q) (h' : Frz J' Q') : Frz (I :: J') fun H => Q H ∧ Q' H := h.app hm h'
theorem Frz.flat {α : Type} {f : α → List It} {Q : α → FH → Prop} (hm : ∀ x, Qa2 (Q x)) : ∀ (l : List α), (∀ x ∈ l, Frz (f x) (Q x)) → Frz (l.flatMap f) fun H => ∀ x ∈ l, Q x H
 | [], _ => Frz.nil.imp fun H _ x hx => by cases hx
 | x :: l, h => by
  rw [List.flatMap_cons]
  refine ((h x List.mem_cons_self).app (hm x) (Frz.flat hm l fun y hy => h y (List.mem_cons_of_mem _ hy))).imp ?_
  rintro H ⟨h1, h2⟩ y hy
  rcases List.mem_cons.1 hy with rfl | hy
  · exact h1
  exact h2 y hy
theorem Frz.map_ {α : Type} {f : α → It} {Q : α → FH → Prop} (hm : ∀ x, Qa2 (Q x)) (l : List α) (h : ∀ x, Frz [f x] (Q x)) : Frz (l.map f) fun H => ∀ x ∈ l, Q x H := by
 rw [show l.map f = l.flatMap fun x => [f x] from by induction l <;> simp_all]
 exact Frz.flat hm l fun x _ => h x
section
variable {α κ : Type} {d : Kd α}
theorem Frz.own {t : TypeId} {v : Value} {xs : List α} : Frz [Qh t d v xs] fun H => (SlT d xs).p H v := by
 intro ok w H R hon ho
 have hb : ∀ g, v.ownBlock = some g → g < w.heap.size ∧ H g = none ∧ ok g := fun g hg => ho.own g (Xn (i := Qh t d v xs) List.mem_cons_self hg)
 obtain ⟨H', h1, h2, h3, h4⟩ := Qdc (ho.all _ List.mem_cons_self) (fun g hg => (hb g hg).2.1) hon
 exact ⟨H', h1, h2, fun k o e => (h3 k o e).imp id fun e => (hb k e).2.2, Qaq ho h1 h3, h4⟩
theorem Frz.obj {I : It} {g : Nat} {Q : FH → Prop} (hI : I.blk = some g) (h : ∀ w H, I.p w H → ∃ o, w.heap[g]? = some o ∧ ∀ H', Sub H H' → H' g = some o → Q H') : Frz [I] Q := by
 intro ok w H R hon ho
 have hb := ho.own g (Xn (i := I) List.mem_cons_self hI)
 obtain ⟨o, h1, h2⟩ := h w H (ho.all _ List.mem_cons_self)
 have hs := V9 (o := o) hb.2.1
 refine ⟨Up H g o, hs, Qdy hon h1, fun k u e => ?_, Qaq ho hs fun k u e => ?_, h2 _ hs (by simp [Up])⟩
 all_goals
  unfold Up at e
  by_cases hk : k = g
  · subst hk; first | exact .inr hb.2.2 | exact .inr hI
  rw [if_neg hk] at e; exact .inl e
theorem Frz.blk {g : Nat} {t : TypeId} {x : α} : Frz [Qb g t d x] fun H => (AtT d x).p H (pt g 0) :=
 Frz.obj (I := Qb g t d x) rfl fun w H ⟨cs, h1, h2⟩ => ⟨_, h2, fun H' hs hg => ⟨g, 0, cs.toArray, t, (0, 0), cs, rfl, hg, d.mono hs h1, fun i u e => by simpa using e⟩⟩
theorem Frz.mapI {g : Nat} {enc : κ → Value} {V : α → Ty} {m : List (κ × α)} : Frz [Qg g enc V m] fun H => (Qhj enc V m).p H (mp g) :=
 Frz.obj (I := Qg g enc V m) rfl fun w H ⟨es, clock, h1, h2⟩ => ⟨_, h1, fun H' hs hg => .inr ⟨g, es, clock, rfl, hg, h2.mono hs⟩⟩
theorem AtT.conv {β : Type} {e : Kd β} {H : FH} {v : Value} {x : α} {y : β} (h : (AtT d x).p H v) (hc : ∀ cs, d.K H x cs → e.K H y cs) : (AtT e y).p H v := by
 obtain ⟨g, off, cells, t, fr, cs, h1, h2, h3, h4⟩ := h
 exact ⟨g, off, cells, t, fr, cs, h1, h2, hc cs h3, h4⟩
end
section
variable {C : Cx} {Γ : Env} {L R J : List It} {dst : Option Tmp} {ty : TypeId} {pos : String} {after : Array Edge} {guard : Option (Nat × Bool)} {x y : Operand}
theorem Qhs {Q : FH → Prop} {v : Value} {T : Ty} {φ : Act → World → Prop} (hf : Frz J Q) (hp : List.Perm L (J ++ R)) (sl : Nat) (hv : OT C.N Γ (.tmp sl) (IsV v)) (hT : ∀ H, Q H → T.p H v) (h : Tr C ((sl, T) :: Γ) R φ) : Tr C Γ L φ := by
 intro a w H f s o
 obtain ⟨H', h1, h2, h3, h4, h5⟩ := hf _ w H R s.on (o.perm hp)
 refine h a w H' (Yq ?_ (f.mono h1)) ⟨s.sub.trans h1, h2, s.os, s.tape, s.output, s.size, s.keep, fun k o e => ?_⟩ h4
 · have : a.eval (.tmp sl) = v := hv a H f
   simp only [Act.eval] at this
   rw [this]; exact hT H' h5
 rcases h3 k o e with e | e
 · exact s.new k o e
 rcases e with e | e
 · exact .inr (.inr e)
 exact .inr (.inl e)
theorem Vr {I : It} {p : Prop} {φ : Act → World → Prop} (hm : I ∈ L) (hp : ∀ w H, I.p w H → p) (h : p → Tr C Γ L φ) : Tr C Γ L φ := fun a w H f s o => h (hp w H (o.all _ hm)) a w H f s o
theorem Vf {α : Type} {d : Kd α} {t : TypeId} {v : Value} {xs : List α} : ∀ w H, (Qh t d v xs).p w H → v.oneCell' = true := fun w H h => by
 obtain ⟨⟨A, c, rfl, _⟩, _⟩ := Qlr h
 rfl
theorem Quy {α κ : Type} {g : Nat} {enc : κ → Value} {V : α → Ty} {m : List (κ × α)} : ∀ w H, (Qg g enc V m).p w H → (keys m).Nodup := fun w H ⟨_, _, _, h⟩ => h.nd
theorem Qp {α : Type} {d : Kd α} {v : α} (hx : OT C.N Γ x (AtT d v)) : Pure C Γ L ⟨dst, .nilCheck x, ty, pos, after, guard⟩ (AtT d v) := fun a w H f s ow => by
 obtain ⟨g, off, cells, t, fr, cs, h1, h2⟩ := hx a H f
 exact ⟨_, by simp [execOp, h1], g, off, cells, t, fr, cs, rfl, h2⟩
theorem Qht {P : Program} {w : World} {t : TypeId} {el : TypeId} (ht : P.underlying t = some (.pointer el)) (a : Option Addr) (d : Nat) : (Op.equalIn (d + 1) t (.pointer a) (.pointer none)).run P w = .ok a.isNone w := by
 rw [Op.equalIn]
 cases a <;> simp [run_underlying ht]
theorem Y6 {t t2 el : TypeId} {a : Option Addr} {T : Ty} (hT : ∀ H v, T.p H v → ∃ a', v = .pointer a' ∧ a'.isNone = a.isNone) (hx : OT C.N Γ x T) (ht : C.P.underlying t = some (.pointer el)) : Pure C Γ L ⟨dst, .binOp .eql t x (.const (.pointer none)) t2, ty, pos, after, guard⟩ (Xe a.isNone) := fun ac w H f s ow => by
 obtain ⟨a', hv, ha⟩ := hT _ _ (hx ac H f)
 have hc : ac.eval (.const (.pointer none)) = .pointer none := rfl
 have hg : (eqGuard .eql t x (.const (.pointer none)) (.pointer a') (.pointer none)).run C.P w = .ok () w := by simp [eqGuard]
 have hb : (binOp .eql t (.pointer a') (.pointer none)).run C.P w = .ok (.bool a'.isNone) w := by
  show ((Op.equal t (.pointer a') (.pointer none)) >>= fun r => pure (Value.bool r)).run C.P w = _
  rw [Sem.run_bind, show (Op.equal t (.pointer a') (.pointer none)).run C.P w = _ from Qht ht a' 9999]; rfl
 exact ⟨.bool a'.isNone, by simp only [execOp, hv, hc, Sem.run_bind, hg, hb, Result.andThen_ok, Sem.run_pure], by rw [ha]; rfl⟩
theorem Qou {t t2 el : TypeId} {a : Option Addr} {T : Ty} (hT : ∀ H v, T.p H v → ∃ a', v = .pointer a' ∧ a'.isNone = a.isNone) (hx : OT C.N Γ x T) (ht : C.P.underlying t = some (.pointer el)) : Pure C Γ L ⟨dst, .binOp .neq t x (.const (.pointer none)) t2, ty, pos, after, guard⟩ (Xe (!a.isNone)) := fun ac w H f s ow => by
 obtain ⟨a', hv, ha⟩ := hT _ _ (hx ac H f)
 have hc : ac.eval (.const (.pointer none)) = .pointer none := rfl
 have hg : (eqGuard .neq t x (.const (.pointer none)) (.pointer a') (.pointer none)).run C.P w = .ok () w := by simp [eqGuard]
 have hb : (binOp .neq t (.pointer a') (.pointer none)).run C.P w = .ok (.bool (!a'.isNone)) w := by
  show ((Op.equal t (.pointer a') (.pointer none)) >>= fun r => pure (Value.bool !r)).run C.P w = _
  rw [Sem.run_bind, show (Op.equal t (.pointer a') (.pointer none)).run C.P w = _ from Qht ht a' 9999]; rfl
 exact ⟨.bool (!a'.isNone), by simp only [execOp, hv, hc, Sem.run_bind, hg, hb, Result.andThen_ok, Sem.run_pure], by rw [ha]; rfl⟩
theorem U4 {a : Option Addr} : ∀ H v, (IsV (.pointer a)).p H v → ∃ a', v = .pointer a' ∧ a'.isNone = a.isNone := fun H v h => ⟨a, h, rfl⟩
theorem Qqa {α : Type} {d : Kd α} {o : Option α} : ∀ H v, (Qlz d o).p H v → ∃ a', v = .pointer a' ∧ a'.isNone = (o.map fun _ => (⟨0, 0, none⟩ : Addr)).isNone := fun H v h => by
 cases o with
 | none => exact ⟨none, h, rfl⟩
 | some x => obtain ⟨g, off, cells, t, fr, cs, h1, _⟩ := h; exact ⟨_, h1, rfl⟩
theorem Qdg {α : Type} {d : Kd α} {o : Option α} {t t2 el : TypeId} (hx : OT C.N Γ x (Qlz d o)) (ht : C.P.underlying t = some (.pointer el)) : Pure C Γ L ⟨dst, .binOp .eql t x (.const (.pointer none)) t2, ty, pos, after, guard⟩ (Xe o.isNone) := by
 have h := Y6 (dst := dst) (ty := ty) (pos := pos) (after := after) (guard := guard) (t2 := t2) (L := L) Qqa hx ht
 cases o <;> exact h
theorem Qov {α : Type} {d : Kd α} {o : Option α} {t t2 el : TypeId} (hx : OT C.N Γ x (Qlz d o)) (ht : C.P.underlying t = some (.pointer el)) : Pure C Γ L ⟨dst, .binOp .neq t x (.const (.pointer none)) t2, ty, pos, after, guard⟩ (Xe (!o.isNone)) := by
 have h := Qou (dst := dst) (ty := ty) (pos := pos) (after := after) (guard := guard) (t2 := t2) (L := L) Qqa hx ht
 cases o <;> exact h
end
end Go.Gw
namespace Go.Gw
open Go Go.MapKept
section
variable {C : Cx} {Γ : Env} {L R : List It} {dst : Option Tmp} {ty : TypeId} {pos : String} {after : Array Edge} {guard : Option (Nat × Bool)} {x y z : Operand}
variable {Q : Exit → Act → World → Prop} {ops : Array Oper} {rest : List Oper}
theorem X9 {t t' : TypeId} {b : Nat} {v : Value} (hx : OT C.N Γ x (IsV (pt b 0))) (hm : Qb b t' Q3 v ∈ L) (ht : Xy C.P t false 1 = true) : Pure C Γ L ⟨dst, .load t x, ty, pos, after, guard⟩ (IsV v) :=
 (Qf4 hx hm ht).conv fun _ _ h => h.1
theorem Ql {α : Type} {d : Kd α} {t t' : TypeId} {b off : Nat} {v : α} {g : Value} {set : Value → α} (hx : OT C.N Γ x (IsV (pt b off))) (hm : Qb b t' d v ∈ L) (hl : Qf d Q3 off v g set) (ht : Xy C.P t false 1 = true) : Pure C Γ L ⟨dst, .load t x, ty, pos, after, guard⟩ (IsV g) :=
 (W9 hx hm hl ht).conv fun _ _ h => h.1
theorem Qbi {t t' : TypeId} {b : Nat} {v u : Value} (hx : OT C.N Γ x (IsV (pt b 0))) (hy : OT C.N Γ y (IsV u)) (h1 : u.oneCell' = true) (hp : List.Perm L (Qb b t' Q3 v :: R)) (ht : Xy C.P t false 1 = true) :
 Yp C Γ L ⟨dst, .store t x y, ty, pos, after, guard⟩ [Qb b t' Q3 v] Unit (fun _ => Yu) (fun _ => [Qb b t' Q3 u]) (fun _ => True) := Qbq hx (hy.raw h1) hp ht
theorem Zq {α : Type} {d : Kd α} {t t' : TypeId} {b off : Nat} {v : α} {g u : Value} {set : Value → α} (hx : OT C.N Γ x (IsV (pt b off))) (hy : OT C.N Γ y (IsV u)) (h1 : u.oneCell' = true) (hp : List.Perm L (Qb b t' d v :: R)) (hl : Qf d Q3 off v g set) (ht : Xy C.P t false 1 = true) :
 Yp C Γ L ⟨dst, .store t x y, ty, pos, after, guard⟩ [Qb b t' d v] Unit (fun _ => Yu) (fun _ => [Qb b t' d (set u)]) (fun _ => True) := Yd hx (hy.raw h1) hp hl ht
theorem Ql7 {o : Oper} {j d : Nat} {want b : Bool} (hg : o.guard = some (j, want)) (hj : (ops[j]?).bind (·.dst) = some d) (hdN : decide (d < C.N) = true) (hd : Wb C.N o.dst = true) (hb : OT C.N Γ (.tmp d) (Xe b))
 (h1 : b = want → Tr C Γ L (wpList C.P ops Q ({ o with guard := none } :: rest))) (h2 : b = !want → Tr C (upd o.dst (IsV undef) Γ) L (wpList C.P ops Q rest)) : Tr C Γ L (wpList C.P ops Q (o :: rest)) := by
 by_cases e : b = want
 · subst e; exact Qrm hg hj hdN hb (h1 rfl)
 have e2 : b = !want := by cases b <;> cases want <;> simp_all
 exact Quj hg hj hdN hb e2 hd (h2 e2)
theorem OT.gu_out {N : Nat} {p : Prop} {T : Ty} (h : OT N Γ x (IsV undef)) (hp : ¬ p) : OT N Γ x (GuT p T) := fun a H f => ⟨fun e => absurd e hp, fun _ => h a H f⟩
end
end Go.Gw
namespace Go.Jn
open Go Go.Gw Go.Tu
abbrev Lab := List UInt8
abbrev Ed := Int × Lab × Int
abbrev Atm := Lab × Lab × Lab
abbrev Vw := Lab × Int × List Lab × List Atm × Lab
abbrev Pr := Int × Int
abbrev Ix := List (Int × List Int) × List Pr × List (Pr × Int)
def Wg (out : List Lab) (x : Lab) : List Lab := if out.contains x then out else out ++ [x]
def Qa3 (out : List Lab) (a : Atm) : List Lab := Wg (Wg out a.1) a.2.2
def Qa (al : List Atm) : List Lab := al.foldl Qa3 []
theorem Qaf {out : List Lab} {x y : Lab} : y ∈ Wg out x ↔ y ∈ out ∨ y = x := by
 unfold Wg
 split
 · rename_i h
   have h1 : x ∈ out := by simpa using h
   exact ⟨.inl, fun h => h.elim id fun e => e ▸ h1⟩
 simp
theorem Qhu {out : List Lab} {x : Lab} (h : out.Nodup) : (Wg out x).Nodup := by
 unfold Wg
 split
 · exact h
 rename_i hc
 refine List.nodup_append.2 ⟨h, by simp, fun a ha b hb e => ?_⟩
 have : b = x := by simpa using hb
 subst this; subst e
 exact hc (by simpa using ha)
theorem Qeh {out : List Lab} {x : Lab} : out <+: Wg out x := by
 unfold Wg
 split
 · exact List.prefix_refl _
 exact ⟨[x], rfl⟩
theorem Qbx {out : List Lab} {x : Lab} : (Wg out x).length = if out.contains x then out.length else out.length + 1 := by
 unfold Wg; split <;> simp
theorem Quz {out : List Lab} {a : Atm} : out <+: Qa3 out a := List.IsPrefix.trans Qeh Qeh
theorem Qdh (al : List Atm) (a : Atm) : Qa (al ++ [a]) = Qa3 (Qa al) a := by unfold Qa; rw [List.foldl_append]; rfl
theorem Qby (al : List Atm) : (Qa al).Nodup := by
 have : ∀ (al : List Atm) (out : List Lab), out.Nodup → (al.foldl Qa3 out).Nodup := by
  intro al
  induction al with
  | nil => exact fun out h => h
  | cons a al ih => exact fun out h => ih _ (Qhu (Qhu h))
 exact this al [] List.nodup_nil
theorem Ql8 : ∀ (al : List Atm) (out : List Lab), out <+: al.foldl Qa3 out
 | [], out => List.prefix_refl _
 | a :: al, out => List.IsPrefix.trans Quz (Ql8 al (Qa3 out a))
theorem Qfn (al bs : List Atm) : Qa al <+: Qa (al ++ bs) := by unfold Qa; rw [List.foldl_append]; exact Ql8 _ _
theorem K3 (al : List Atm) (k : Nat) : Qa (al.take k) <+: Qa al := by
 have := Qfn (al.take k) (al.drop k)
 rwa [List.take_append_drop] at this
theorem Jd {al : List Atm} {x : Lab} : x ∈ Qa al ↔ ∃ a ∈ al, x = a.1 ∨ x = a.2.2 := by
 have : ∀ (al : List Atm) (out : List Lab), x ∈ al.foldl Qa3 out ↔ x ∈ out ∨ ∃ a ∈ al, x = a.1 ∨ x = a.2.2 := by
  intro al
  induction al with
  | nil => intro out; simp
  | cons a al ih =>
   intro out
   rw [List.foldl_cons, ih]
   unfold Qa3
   rw [Qaf, Qaf]
   simp only [List.mem_cons, exists_eq_or_imp]
   constructor
   · rintro (((h | h) | h) | h)
     · exact .inl h
     · exact .inr (.inl (.inl h))
     · exact .inr (.inl (.inr h))
     exact .inr (.inr h)
   rintro (h | (h | h) | h)
   · exact .inl (.inl (.inl h))
   · exact .inl (.inl (.inr h))
   · exact .inl (.inr h)
   exact .inr h
 unfold Qa
 rw [this]; simp
theorem K8 (al : List Atm) : (Qa al).length ≤ 2 * al.length := by
 have : ∀ (al : List Atm) (out : List Lab), (al.foldl Qa3 out).length ≤ out.length + 2 * al.length := by
  intro al
  induction al with
  | nil => intro out; simp
  | cons a al ih =>
   intro out
   have h1 := ih (Qa3 out a)
   have h2 : (Qa3 out a).length ≤ out.length + 2 := by
    unfold Qa3
    rw [Qbx]
    have h3 : (Wg out a.1).length ≤ out.length + 1 := by rw [Qbx]; split <;> omega
    split <;> omega
   rw [List.foldl_cons, List.length_cons]; omega
 exact Nat.le_trans (this al []) (by simp)
theorem Ki {V W : List Lab} (h : V <+: W) {x : Lab} (hx : x ∈ V) : W.idxOf x = V.idxOf x := by
 obtain ⟨t, rfl⟩ := h
 rw [List.idxOf_append, if_pos hx]
structure Qc3 (n m f t : Nat) : Prop where
 f1 : f ≤ n
 t1 : t ≤ n + 1
 t2 : f < n → t ≤ n
 m1 : f < n → t < n → m = n
 m2 : f < n → t = n → m = n + 1
 m3 : f = n → t ≤ n → m = n + 1
 m4 : f = n → t = n + 1 → m = n + 2
theorem Qur {V W U : List Lab} {a : Atm} (hV : V.Nodup) (hW : W = Qa3 V a) (hU : W <+: U) : Qc3 V.length W.length (U.idxOf a.1) (U.idxOf a.2.2) := by
 have h1 : a.1 ∈ W := by rw [hW]; unfold Qa3; rw [Qaf, Qaf]; exact .inl (.inr rfl)
 have h2 : a.2.2 ∈ W := by rw [hW]; unfold Qa3; rw [Qaf]; exact .inr rfl
 rw [Ki hU h1, Ki hU h2]
 have hp1 : V <+: Wg V a.1 := Qeh
 have hp2 : Wg V a.1 <+: W := by rw [hW]; exact Qeh
 have i1 : W.idxOf a.1 = (Wg V a.1).idxOf a.1 := Ki hp2 (Qaf.2 (.inr rfl))
 have l1 := Qbx (out := V) (x := a.1)
 have l2 : W.length = if (Wg V a.1).contains a.2.2 then (Wg V a.1).length else (Wg V a.1).length + 1 := by rw [hW]; exact Qbx
 by_cases c1 : a.1 ∈ V
 · have e1 : Wg V a.1 = V := by unfold Wg; rw [if_pos (by simpa using c1)]
   rw [e1] at i1 l2
   have b1 : V.idxOf a.1 < V.length := List.idxOf_lt_length_of_mem c1
   by_cases c2 : a.2.2 ∈ V
   · have i2 : W.idxOf a.2.2 = V.idxOf a.2.2 := Ki (hp1.trans hp2) c2
     have b2 : V.idxOf a.2.2 < V.length := List.idxOf_lt_length_of_mem c2
     rw [if_pos (by simpa using c2)] at l2
     constructor <;> omega
   rw [if_neg (by simpa using c2)] at l2
   have i2 : W.idxOf a.2.2 = V.length := by
    rw [hW, Qa3, e1, Wg, if_neg (by simpa using c2), List.idxOf_append, if_neg c2]; simp
   constructor <;> omega
 have e1 : Wg V a.1 = V ++ [a.1] := by unfold Wg; rw [if_neg (by simpa using c1)]
 rw [if_neg (by simpa using c1)] at l1
 have i1' : W.idxOf a.1 = V.length := by rw [i1, e1, List.idxOf_append, if_neg c1]; simp
 by_cases c2 : a.2.2 ∈ V
 · have i2 : W.idxOf a.2.2 = V.idxOf a.2.2 := Ki (hp1.trans hp2) c2
   have b2 : V.idxOf a.2.2 < V.length := List.idxOf_lt_length_of_mem c2
   rw [if_pos (by rw [e1]; simp [c2])] at l2
   constructor <;> omega
 by_cases c3 : a.2.2 = a.1
 · rw [if_pos (by rw [e1, c3]; simp)] at l2
   rw [c3]
   constructor <;> omega
 rw [if_neg (by rw [e1]; simp [c2, c3])] at l2
 have i2 : W.idxOf a.2.2 = V.length + 1 := by
  rw [hW, Qa3, Wg, if_neg (by rw [e1]; simp [c2, c3]), List.idxOf_append, if_neg (by rw [e1]; simp [c2, c3]), e1]; simp
 constructor <;> omega
def Qga (x : Ix) (p : Pr) : Ix :=
 let c := (lkp p x.2.2).getD 0 + 1
 if c = 1 then (ptk p.1 ((lkp p.1 x.1).getD [] ++ [p.2]) x.1, x.2.1 ++ [p], ptk p c x.2.2) else (x.1, x.2.1, ptk p c x.2.2)
def Ql9 (m : List (Lab × Ix)) (e : Ed) : List (Lab × Ix) := ptk e.2.1 (Qga ((lkp e.2.1 m).getD ([], [], [])) (e.1, e.2.2)) m
def Za (l : List Ed) : List (Lab × Ix) := l.foldl Ql9 []
def prs (l : List Ed) (lab : Lab) : List Pr := (l.filter fun e => decide (e.2.1 = lab)).map fun e => (e.1, e.2.2)
theorem Qqb {l : List Ed} {lab : Lab} {p : Pr} : p ∈ prs l lab ↔ (p.1, lab, p.2) ∈ l := by
 unfold prs
 simp only [List.mem_map, List.mem_filter, decide_eq_true_eq]
 constructor
 · rintro ⟨⟨a, b, c⟩, ⟨h1, rfl⟩, rfl⟩; exact h1
 intro h; exact ⟨_, ⟨h, rfl⟩, rfl⟩
structure Qhv (x : Ix) (ps : List Pr) : Prop where
 all : ∀ p, p ∈ x.2.1 ↔ p ∈ ps
 nd : x.2.1.Nodup
 from_ : ∀ n b, b ∈ (lkp n x.1).getD [] ↔ (n, b) ∈ ps
 fnd : ∀ n, ((lkp n x.1).getD []).Nodup
 has : ∀ p, (lkp p x.2.2).getD 0 = 0 ↔ p ∉ ps
 h0 : ∀ p, 0 ≤ (lkp p x.2.2).getD 0
 hl : ∀ p, (lkp p x.2.2).getD 0 ≤ ps.length
 fl : ∀ n, ((lkp n x.1).getD []).length ≤ ps.length
 al : x.2.1.length ≤ ps.length
theorem Qhv.nil : Qhv ([], [], []) [] := by constructor <;> simp [lkp]
theorem Qhv.step {x : Ix} {ps : List Pr} (h : Qhv x ps) (p : Pr) : Qhv (Qga x p) (ps ++ [p]) := by
 have hh := h.has p
 have hl := h.hl p
 have h0 := h.h0 p
 unfold Qga
 by_cases hc : (lkp p x.2.2).getD 0 + 1 = 1
 · have hn : p ∉ ps := hh.1 (by omega)
   simp only [if_pos hc]
   refine ⟨?_, ?_, ?_, ?_, ?_, ?_, ?_, ?_, ?_⟩
   · intro q; simp [h.all]
   · refine List.nodup_append.2 ⟨h.nd, by simp, fun a ha b hb e => ?_⟩
     have : b = p := by simpa using hb
     subst this; subst e
     exact hn ((h.all _).1 ha)
   · intro n b
     rw [Xl]
     by_cases e : p.1 = n
     · rw [if_pos e]
       simp only [Option.getD_some, List.mem_append, h.from_, List.mem_singleton]
       rw [e]
       constructor
       · rintro (h1 | h1)
         · exact .inl h1
         exact .inr (Prod.ext e.symm h1)
       rintro (h1 | h1)
       · exact .inl h1
       exact .inr (congrArg Prod.snd h1)
     rw [if_neg e, h.from_, List.mem_append, List.mem_singleton]
     exact ⟨.inl, fun h1 => h1.elim id fun h2 => absurd (congrArg Prod.fst h2).symm e⟩
   · intro n
     rw [Xl]
     by_cases e : p.1 = n
     · rw [if_pos e]
       simp only [Option.getD_some]
       refine List.nodup_append.2 ⟨h.fnd _, by simp, fun a ha b hb e2 => ?_⟩
       have : b = p.2 := by simpa using hb
       subst this; subst e2
       exact hn ((h.from_ _ _).1 ha)
     rw [if_neg e]; exact h.fnd n
   · intro q
     rw [Xl]
     by_cases e : p = q
     · subst e; simp; omega
     rw [if_neg e, h.has]; simp [Ne.symm e]
   · intro q
     rw [Xl]
     by_cases e : p = q
     · rw [if_pos e]; simp only [Option.getD_some]; omega
     rw [if_neg e]; exact h.h0 q
   · intro q
     rw [Xl, List.length_append, List.length_singleton]
     by_cases e : p = q
     · rw [if_pos e]; simp only [Option.getD_some]; omega
     rw [if_neg e]; have := h.hl q; omega
   · intro n
     rw [Xl, List.length_append, List.length_singleton]
     by_cases e : p.1 = n
     · rw [if_pos e]; have := h.fl p.1; simp only [Option.getD_some, List.length_append, List.length_singleton]; omega
     rw [if_neg e]; have := h.fl n; omega
   have := h.al; simp only [List.length_append, List.length_singleton]; omega
 have hin : p ∈ ps := Classical.byContradiction fun e => hc (by rw [hh.2 e]; rfl)
 simp only [if_neg hc]
 have hm : ∀ q, q ∈ ps ++ [p] ↔ q ∈ ps := fun q => by
  simp only [List.mem_append, List.mem_singleton]
  exact ⟨fun h => h.elim id fun e => e ▸ hin, .inl⟩
 refine ⟨?_, h.nd, ?_, h.fnd, ?_, ?_, ?_, ?_, ?_⟩
 · intro q; rw [hm, h.all]
 · intro n b; rw [hm, h.from_]
 · intro q
   rw [Xl, hm]
   by_cases e : p = q
   · subst e; simp [hin]; omega
   rw [if_neg e, h.has]
 · intro q
   rw [Xl]
   by_cases e : p = q
   · rw [if_pos e]; simp only [Option.getD_some]; omega
   rw [if_neg e]; exact h.h0 q
 · intro q
   rw [Xl, List.length_append, List.length_singleton]
   by_cases e : p = q
   · rw [if_pos e]; simp only [Option.getD_some]; omega
   rw [if_neg e]; have := h.hl q; omega
 · intro n; show ((lkp n x.1).getD []).length ≤ _; rw [List.length_append]; have := h.fl n; omega
 show x.2.1.length ≤ _; rw [List.length_append]; have := h.al; omega
theorem Qhw (l : List Ed) (lab : Lab) : Qhv ((lkp lab (Za l)).getD ([], [], [])) (prs l lab) ∧ (lkp lab (Za l) = none → prs l lab = []) := by
 have : ∀ (l : List Ed) (m : List (Lab × Ix)) (done : List Ed), (∀ lab, Qhv ((lkp lab m).getD ([], [], [])) (prs done lab) ∧ (lkp lab m = none → prs done lab = [])) → ∀ lab, Qhv ((lkp lab (l.foldl Ql9 m)).getD ([], [], [])) (prs (done ++ l) lab) ∧ (lkp lab (l.foldl Ql9 m) = none → prs (done ++ l) lab = []) := by
  intro l
  induction l with
  | nil => intro m done h; simpa using h
  | cons e l ih =>
   intro m done h lab
   have h2 := ih (Ql9 m e) (done ++ [e]) ?_ lab
   · rw [List.append_assoc] at h2; exact h2
   intro lab2
   unfold Ql9
   rw [Xl]
   by_cases hl : e.2.1 = lab2
   · subst hl
     have hp : prs (done ++ [e]) e.2.1 = prs done e.2.1 ++ [(e.1, e.2.2)] := by unfold prs; simp
     rw [if_pos rfl, hp]
     exact ⟨(h e.2.1).1.step _, fun h => by cases h⟩
   have hp : prs (done ++ [e]) lab2 = prs done lab2 := by unfold prs; simp [hl]
   rw [if_neg hl, hp]; exact h lab2
 have h9 := this l [] [] (fun lab => ⟨Qhv.nil, fun _ => rfl⟩) lab
 rw [List.nil_append] at h9
 exact h9
theorem Qqc (l : List Ed) (lab : Lab) : (prs l lab).length ≤ l.length := by unfold prs; rw [List.length_map]; exact List.length_filter_le _ _
def Wa (r : Tp) (t : Nat) (p : Pr) : Option Tp := if t = r.length + 1 then some (r ++ [p.1] ++ [p.2]) else if (r ++ [p.1]).getD t 0 = p.2 then some (r ++ [p.1]) else none
def ext (o : Option Ix) (r : Tp) (f t : Nat) : List Tp := match o with
 | none => []
 | some x =>
  if f < r.length ∧ t < r.length then (if (lkp (r.getD f 0, r.getD t 0) x.2.2).getD 0 = 0 then [] else [r])
  else if f < r.length then ((lkp (r.getD f 0) x.1).getD []).map fun b => r ++ [b]
  else x.2.1.filterMap (Wa r t)
theorem Qei {r : Tp} {i : Nat} {b : Int} (h : i < r.length) : (r ++ [b]).getD i 0 = r.getD i 0 := by
 rw [List.getD_eq_getElem?_getD, List.getD_eq_getElem?_getD, List.getElem?_append_left h]
theorem Kj {r : Tp} {b : Int} : (r ++ [b]).getD r.length 0 = b := by
 rw [List.getD_eq_getElem?_getD, List.getElem?_append_right (Nat.le_refl _)]; simp
theorem Qag {r s : Tp} : (r ++ s).take r.length = r := by simp
theorem Qbz {x : Ix} {r : Tp} {f t : Nat} : ext (some x) r f t = if f < r.length ∧ t < r.length then (if (lkp (r.getD f 0, r.getD t 0) x.2.2).getD 0 = 0 then [] else [r]) else if f < r.length then ((lkp (r.getD f 0) x.1).getD []).map (fun b => r ++ [b]) else x.2.1.filterMap (Wa r t) := rfl
theorem Qqd {s r : Tp} (h : s.take r.length = r) (hl : s.length = r.length + 1) : s = r ++ [s.getD r.length 0] := by
 have h4 : r.length < s.length := by omega
 have h5 := List.take_append_drop r.length s
 rw [h, List.drop_eq_getElem_cons h4, List.drop_of_length_le (by omega)] at h5
 rw [List.getD_eq_getElem?_getD, List.getElem?_eq_getElem h4]; exact h5.symm
theorem Q2e {s r : Tp} (h : s.take r.length = r) (hl : s.length = r.length + 2) : s = r ++ [s.getD r.length 0] ++ [s.getD (r.length + 1) 0] := by
 have h4 : r.length < s.length := by omega
 have h6 : r.length + 1 < s.length := by omega
 have h5 := List.take_append_drop r.length s
 rw [h, List.drop_eq_getElem_cons h4, List.drop_eq_getElem_cons h6, List.drop_of_length_le (by omega)] at h5
 rw [List.getD_eq_getElem?_getD, List.getElem?_eq_getElem h4, List.getD_eq_getElem?_getD, List.getElem?_eq_getElem h6, List.append_assoc]; exact h5.symm
theorem Qgs {o : Option Ix} {ps : List Pr} (hx : Qhv (o.getD ([], [], [])) ps) (h0 : o = none → ps = []) {r : Tp} {f t m : Nat} (hl : Qc3 r.length m f t) (s : Tp) :
 s ∈ ext o r f t ↔ s.length = m ∧ s.take r.length = r ∧ (s.getD f 0, s.getD t 0) ∈ ps := by
 cases o with
 | none => simp [ext, h0 rfl]
 | some x =>
  simp only [Option.getD_some] at hx
  rw [Qbz]
  by_cases c1 : f < r.length
  · by_cases c2 : t < r.length
    · have hm := hl.m1 c1 c2
      rw [if_pos ⟨c1, c2⟩]
      have hh := hx.has (r.getD f 0, r.getD t 0)
      split
      · rename_i h
        have hn := hh.1 h
        simp only [List.not_mem_nil, false_iff]
        rintro ⟨h1, h2, h3⟩
        rw [List.take_of_length_le (by omega)] at h2
        subst h2; exact hn h3
      rename_i h
      have hin : (r.getD f 0, r.getD t 0) ∈ ps := Classical.byContradiction fun e => h (hh.2 e)
      rw [List.mem_singleton]
      constructor
      · rintro rfl; exact ⟨hm.symm, by simp, hin⟩
      rintro ⟨h1, h2, h3⟩; rwa [List.take_of_length_le (by omega)] at h2
    rw [if_neg (fun e => c2 e.2), if_pos c1]
    have ht : t = r.length := by have := hl.t2 c1; omega
    subst ht
    have hm := hl.m2 c1 rfl
    rw [List.mem_map]
    constructor
    · rintro ⟨b, hb, rfl⟩
      refine ⟨by simp [hm], Qag, ?_⟩
      rw [Qei c1, Kj]
      exact (hx.from_ _ _).1 hb
    rintro ⟨h1, h2, h3⟩
    refine ⟨s.getD r.length 0, ?_, ?_⟩
    · have e : s.getD f 0 = r.getD f 0 := by
       have h9 : (s.take r.length)[f]? = s[f]? := List.getElem?_take_of_lt c1
       rw [h2] at h9
       rw [List.getD_eq_getElem?_getD, List.getD_eq_getElem?_getD, h9]
      rw [← e]; exact (hx.from_ _ _).2 h3
    exact (Qqd h2 (by omega)).symm
  rw [if_neg (fun e => c1 e.1), if_neg c1]
  have hf : f = r.length := by have := hl.f1; omega
  subst hf
  rw [List.mem_filterMap]
  by_cases c3 : t = r.length + 1
  · have hm := hl.m4 rfl c3
    constructor
    · rintro ⟨p, hp, he⟩
      unfold Wa at he
      rw [if_pos c3] at he
      cases he
      have e1 : (r ++ [p.1] ++ [p.2]).getD r.length 0 = p.1 := by rw [Qei (by simp), Kj]
      have e2 : (r ++ [p.1] ++ [p.2]).getD t 0 = p.2 := by
       have := Kj (r := r ++ [p.1]) (b := p.2)
       rwa [List.length_append, List.length_singleton, ← c3] at this
      refine ⟨by simp [hm], by rw [List.append_assoc]; exact Qag, ?_⟩
      rw [e1, e2]
      exact (hx.all p).1 hp
    rintro ⟨h1, h2, h3⟩
    refine ⟨(s.getD r.length 0, s.getD t 0), (hx.all _).2 h3, ?_⟩
    unfold Wa
    rw [if_pos c3]
    rw [c3]; exact congrArg some (Q2e h2 (by omega)).symm
  have ht : t ≤ r.length := by have := hl.t1; omega
  have hm := hl.m3 rfl ht
  have key : ∀ q : Int, (r ++ [q]).getD r.length 0 = q := fun q => Kj
  constructor
  · rintro ⟨p, hp, he⟩
    unfold Wa at he
    rw [if_neg c3] at he
    split at he
    · rename_i hq
      cases he
      refine ⟨by simp [hm], Qag, ?_⟩
      rw [key, hq]; exact (hx.all p).1 hp
    cases he
  rintro ⟨h1, h2, h3⟩
  refine ⟨(s.getD r.length 0, s.getD t 0), (hx.all _).2 h3, ?_⟩
  have hs := Qqd h2 (by omega)
  unfold Wa
  rw [if_neg c3]
  simp only
  rw [← hs, if_pos rfl]
theorem Qrz {o : Option Ix} {ps : List Pr} (hx : Qhv (o.getD ([], [], [])) ps) {r : Tp} {f t : Nat} : (ext o r f t).Nodup := by
 cases o with
 | none => exact List.nodup_nil
 | some x =>
  simp only [Option.getD_some] at hx
  rw [Qbz]
  split
  · split <;> simp
  split
  · refine List.Pairwise.map _ (fun a b h e => h ?_) (hx.fnd _)
    simpa using e
  refine List.Pairwise.filterMap _ (fun a b h u hu v hv e => h ?_) hx.nd
  subst e
  unfold Wa at hu hv
  have hinj : ∀ {c d : Int}, r ++ [c] = r ++ [d] → c = d := fun e => by simpa using e
  split at hu
  · rename_i ht
    rw [if_pos ht] at hv
    have e : r ++ [a.1] ++ [a.2] = r ++ [b.1] ++ [b.2] := (Option.some.inj hu).trans (Option.some.inj hv).symm
    simp only [List.append_assoc, List.append_cancel_left_eq] at e
    have e2 : a.1 = b.1 ∧ a.2 = b.2 := by simpa using e
    exact Prod.ext e2.1 e2.2
  rename_i ht
  rw [if_neg ht] at hv
  split at hu
  · rename_i h1
    split at hv
    · rename_i h2
      have e := hinj ((Option.some.inj hu).trans (Option.some.inj hv).symm)
      rw [e, h2] at h1
      exact Prod.ext e h1.symm
    cases hv
  cases hu
def ix (V : List Lab) (x : Lab) : Nat := V.idxOf x
def Qma (m : List (Lab × Ix)) (V : List Lab) (rows : List Tp) (a : Atm) : List Tp := rows.flatMap fun r => ext (lkp a.2.1 m) r (ix V a.1) (ix V a.2.2)
def Zr (m : List (Lab × Ix)) (V : List Lab) (al : List Atm) : List Tp := al.foldl (Qma m V) [[]]
theorem Qhx (m : List (Lab × Ix)) (V : List Lab) (al : List Atm) (a : Atm) : Zr m V (al ++ [a]) = Qma m V (Zr m V al) a := by unfold Zr; rw [List.foldl_append]; rfl
def env (V : List Lab) (r : Tp) (x : Lab) : Int := r.getD (ix V x) 0
def Sat (l : List Ed) (V : List Lab) (al : List Atm) (r : Tp) : Prop := ∀ a ∈ al, (env V r a.1, a.2.1, env V r a.2.2) ∈ l
theorem getD_take {r : Tp} {i n : Nat} (h : i < n) : (r.take n).getD i 0 = r.getD i 0 := by
 rw [List.getD_eq_getElem?_getD, List.getD_eq_getElem?_getD, List.getElem?_take_of_lt h]
theorem Qdi {α β : Type} {f : α → List β} : ∀ {l : List α}, (∀ r ∈ l, (f r).Nodup) → l.Pairwise (fun a b => ∀ x ∈ f a, x ∉ f b) → (l.flatMap f).Nodup
 | [], _, _ => List.nodup_nil
 | a :: l, h1, h2 => by
  obtain ⟨h3, h4⟩ := List.pairwise_cons.1 h2
  rw [List.flatMap_cons]
  refine List.nodup_append.2 ⟨h1 a List.mem_cons_self, Qdi (fun r hr => h1 r (List.mem_cons_of_mem _ hr)) h4, fun x hx y hy e => ?_⟩
  obtain ⟨b, hb, hyb⟩ := List.mem_flatMap.1 hy
  exact h3 b hb x hx (e ▸ hyb)
theorem Qu0 {α : Type} {P : List α → Prop} (h0 : P []) (h1 : ∀ l a, P l → P (l ++ [a])) (l : List α) : P l := by
 have : ∀ l : List α, P l.reverse := by
  intro l
  induction l with
  | nil => exact h0
  | cons a l ih => rw [List.reverse_cons]; exact h1 _ _ ih
 have h := this l.reverse
 rwa [List.reverse_reverse] at h
theorem Qfo (l : List Ed) {V : List Lab} : ∀ (al : List Atm), Qa al <+: V →
 (Zr (Za l) V al).Nodup ∧ ∀ r, r ∈ Zr (Za l) V al ↔ r.length = (Qa al).length ∧ Sat l V al r := by
 refine Qu0 ?_ ?_
 · intro _; refine ⟨by simp [Zr], fun r => ?_⟩; simp [Zr, Qa, Sat]
 intro al a ih hV
 have hpre : Qa al <+: Qa (al ++ [a]) := Qfn _ _
 obtain ⟨ih1, ih2⟩ := ih (hpre.trans hV)
 obtain ⟨hx, h0⟩ := Qhw l a.2.1
 have hW : Qa (al ++ [a]) = Qa3 (Qa al) a := Qdh al a
 have hlies := Qur (Qby al) hW hV
 rw [Qhx]
 unfold Qma
 constructor
 · refine Qdi (fun r hr => Qrz hx) (ih1.imp_of_mem ?_)
   intro r r' hr hr' hne s hs hs'
   have l1 := ((ih2 r).1 hr).1
   have l2 := ((ih2 r').1 hr').1
   have e1 := ((Qgs hx h0 (by rw [l1]; exact hlies) s).1 hs).2.1
   have e2 := ((Qgs hx h0 (by rw [l2]; exact hlies) s).1 hs').2.1
   exact hne (by rw [← e1, ← e2, l1, l2])
 intro s
 rw [List.mem_flatMap]
 constructor
 · rintro ⟨r, hr, hs⟩
   have hr2 := (ih2 r).1 hr
   obtain ⟨h1, h2, h3⟩ := (Qgs hx h0 (by rw [hr2.1]; exact hlies) s).1 hs
   refine ⟨h1, fun b hb => ?_⟩
   rcases List.mem_append.1 hb with hb | hb
   · have := hr2.2 b hb
     have hm1 : b.1 ∈ Qa al := Jd.2 ⟨b, hb, .inl rfl⟩
     have hm2 : b.2.2 ∈ Qa al := Jd.2 ⟨b, hb, .inr rfl⟩
     have i1 : ix V b.1 < r.length := by unfold ix; rw [Ki (hpre.trans hV) hm1, hr2.1]; exact List.idxOf_lt_length_of_mem hm1
     have i2 : ix V b.2.2 < r.length := by unfold ix; rw [Ki (hpre.trans hV) hm2, hr2.1]; exact List.idxOf_lt_length_of_mem hm2
     unfold env at this ⊢
     rw [← h2, getD_take i1, getD_take i2] at this
     exact this
   have : b = a := by simpa using hb
   subst this
   exact Qqb.1 h3
 rintro ⟨h1, h2⟩
 have hle : (Qa al).length ≤ s.length := by rw [h1]; exact hpre.length_le
 have hrl : (s.take (Qa al).length).length = (Qa al).length := by rw [List.length_take]; omega
 refine ⟨s.take (Qa al).length, (ih2 _).2 ⟨hrl, fun b hb => ?_⟩, (Qgs hx h0 (by rw [hrl]; exact hlies) s).2 ⟨h1, by rw [hrl], Qqb.2 (h2 a (by simp))⟩⟩
 have := h2 b (by simp [hb])
 have hm1 : b.1 ∈ Qa al := Jd.2 ⟨b, hb, .inl rfl⟩
 have hm2 : b.2.2 ∈ Qa al := Jd.2 ⟨b, hb, .inr rfl⟩
 have i1 : ix V b.1 < (Qa al).length := by unfold ix; rw [Ki (hpre.trans hV) hm1]; exact List.idxOf_lt_length_of_mem hm1
 have i2 : ix V b.2.2 < (Qa al).length := by unfold ix; rw [Ki (hpre.trans hV) hm2]; exact List.idxOf_lt_length_of_mem hm2
 unfold env at this ⊢
 rw [getD_take i1, getD_take i2]; exact this
def Qbj (b : UInt8) : Bool := decide (97 ≤ b.toNat) && decide (b.toNat ≤ 122)
def Yt (v : List UInt8) : Bool := decide (0 < v.length) && decide (v.length ≤ 16) && v.all Qbj
def Qr0 (v : Vw) : Bool := Yt v.1 && decide (v.2.2.2.2 = []) && decide (1 ≤ v.2.2.1.length) && decide (v.2.2.1.length ≤ 6) && decide (1 ≤ v.2.2.2.1.length) && decide (v.2.2.2.1.length ≤ 8)
 && v.2.2.2.1.all (fun a => Yt a.1 && Yt a.2.1 && Yt a.2.2)
def Qhy (V out : List Lab) : Bool := out.all (fun o => V.contains o) && decide out.Nodup
def okV (v : Vw) : Bool := decide (v.2.1 = 1) && Qr0 v && Qhy (Qa v.2.2.2.1) v.2.2.1
def Kw (l : List Ed) (al : List Atm) : Prop := ∃ k, k ≤ al.length ∧ 3000 < (Zr (Za l) (Qa al) (al.take k)).length
def Qkq (v : Vw) (l : List Ed) (r : List Tp × Int) : Prop :=
 (okV v = false ∧ r = ([], 1)) ∨ (okV v = true ∧ Kw l v.2.2.2.1 ∧ r = ([], 5)) ∨ (okV v = true ∧ ¬ Kw l v.2.2.2.1 ∧ r = (Jm (Zr (Za l) (Qa v.2.2.2.1) v.2.2.2.1), 0))
def proj (V out : List Lab) (r : Tp) : Tp := out.map fun o => env V r o
def Vg (v : Vw) (l : List Ed) : List Tp := (Jm (Zr (Za l) (Qa v.2.2.2.1) v.2.2.2.1)).map (proj (Qa v.2.2.2.1) v.2.2.1)
def Qej (all : List Tp) : List Int := (Jm all).map fun t => (all.count t : Int)
def Qdj (v : Vw) (l : List Ed) (r : List Tp × List Int × Int) : Prop :=
 (okV v = false ∧ r = ([], [], 1)) ∨ (okV v = true ∧ Kw l v.2.2.2.1 ∧ r = ([], [], 5)) ∨ (okV v = true ∧ ¬ Kw l v.2.2.2.1 ∧ r = (Jm (Vg v l), Qej (Vg v l), 0))
end Go.Jn
