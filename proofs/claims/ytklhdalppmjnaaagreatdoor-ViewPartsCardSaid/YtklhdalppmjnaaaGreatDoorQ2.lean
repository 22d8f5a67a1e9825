/- The texts G30, SoK of this claim, put together in their order. No condition of their own. -/
import Derived.Test.YtklhdalppmjnaaaGreatDoorQ1
import Derived.MapKept
import Derived.Shelf.SlSortCmp.NoneTotal
set_option linter.unusedVariables false
set_option linter.unusedSimpArgs false
set_option linter.unusedSectionVars false
set_option maxHeartbeats 1000000
set_option maxRecDepth 20000
namespace Go.Gw
open Go Go.MapKept
section
variable {κ α : Type} [DecidableEq κ]
def lkp (k : κ) : List (κ × α) → Option α
 | [] => none
 | p :: m => if p.1 = k then some p.2 else lkp k m
def ptk (k : κ) (x : α) : List (κ × α) → List (κ × α)
 | [] => [(k, x)]
 | p :: m => if p.1 = k then (k, x) :: m else p :: ptk k x m
def dlk (k : κ) : List (κ × α) → List (κ × α)
 | [] => []
 | p :: m => if p.1 = k then m else p :: dlk k m
def keys (m : List (κ × α)) : List κ := m.map Prod.fst
theorem Qd7 {k : κ} {x : α} : ∀ {m : List (κ × α)}, lkp k m = some x → (k, x) ∈ m
 | [], h => by cases h
 | (a, b) :: m, h => by
  unfold lkp at h
  by_cases e : a = k
  · rw [if_pos e] at h; cases h; subst e; exact List.mem_cons_self
  rw [if_neg e] at h; exact List.mem_cons_of_mem _ (Qd7 h)
theorem Xx {k : κ} : ∀ {m : List (κ × α)}, lkp k m = none ↔ k ∉ keys m
 | [] => by simp [lkp, keys]
 | (a, b) :: m => by
  unfold lkp keys
  by_cases e : a = k
  · simp [e]
  have := Xx (k := k) (m := m)
  unfold keys at this
  simp only [e, if_false, List.map_cons, List.mem_cons, this]
  constructor
  · rintro h (h2 | h2)
    · exact e h2.symm
    exact h h2
  exact fun h h2 => h (.inr h2)
theorem Qhf {k : κ} : ∀ {m : List (κ × α)} {j : Nat} {x : α}, (keys m).Nodup → m[j]? = some (k, x) → lkp k m = some x
 | [], _, _, _, h => by simp at h
 | (a, b) :: m, 0, x, hn, h => by simp at h; obtain ⟨rfl, rfl⟩ := h; simp [lkp]
 | (a, b) :: m, j + 1, x, hn, h => by
  have h2 : m[j]? = some (k, x) := by simpa using h
  have hk : k ∈ keys m := List.mem_map.2 ⟨(k, x), List.mem_of_getElem? h2, rfl⟩
  have hn2 : a ∉ keys m ∧ (keys m).Nodup := List.nodup_cons.1 hn
  unfold lkp
  rw [if_neg (show ¬ a = k from fun e => hn2.1 (e ▸ hk))]
  exact Qhf hn2.2 h2
theorem Qd8 {k : κ} {x y : α} : ∀ {m : List (κ × α)} {j : Nat}, (keys m).Nodup → m[j]? = some (k, y) → ptk k x m = m.set j (k, x)
 | [], _, _, h => by simp at h
 | (a, b) :: m, 0, hn, h => by simp at h; obtain ⟨rfl, rfl⟩ := h; simp [ptk]
 | (a, b) :: m, j + 1, hn, h => by
  have h2 : m[j]? = some (k, y) := by simpa using h
  have hk : k ∈ keys m := List.mem_map.2 ⟨(k, y), List.mem_of_getElem? h2, rfl⟩
  have hn2 : a ∉ keys m ∧ (keys m).Nodup := List.nodup_cons.1 hn
  unfold ptk
  rw [if_neg (show ¬ a = k from fun e => hn2.1 (e ▸ hk)), List.set_cons_succ, Qd8 hn2.2 h2]
theorem Qd9 {k : κ} {x : α} : ∀ {m : List (κ × α)}, k ∉ keys m → ptk k x m = m ++ [(k, x)]
 | [], _ => rfl
 | (a, b) :: m, h => by
  have h2 : k ≠ a ∧ k ∉ keys m := by simpa [keys] using h
  unfold ptk
  rw [if_neg (show ¬ a = k from fun e => h2.1 e.symm), Qd9 h2.2]; rfl
theorem Qck {k : κ} {y : α} : ∀ {m : List (κ × α)} {j : Nat}, (keys m).Nodup → m[j]? = some (k, y) → dlk k m = m.eraseIdx j
 | [], _, _, h => by simp at h
 | (a, b) :: m, 0, hn, h => by simp at h; obtain ⟨rfl, rfl⟩ := h; simp [dlk]
 | (a, b) :: m, j + 1, hn, h => by
  have h2 : m[j]? = some (k, y) := by simpa using h
  have hk : k ∈ keys m := List.mem_map.2 ⟨(k, y), List.mem_of_getElem? h2, rfl⟩
  have hn2 : a ∉ keys m ∧ (keys m).Nodup := List.nodup_cons.1 hn
  unfold dlk
  rw [if_neg (show ¬ a = k from fun e => hn2.1 (e ▸ hk)), List.eraseIdx_cons_succ, Qck hn2.2 h2]
theorem J5 {k : κ} : ∀ {m : List (κ × α)}, k ∉ keys m → dlk k m = m
 | [], _ => rfl
 | (a, b) :: m, h => by
  have h2 : k ≠ a ∧ k ∉ keys m := by simpa [keys] using h
  unfold dlk
  rw [if_neg (show ¬ a = k from fun e => h2.1 e.symm), J5 h2.2]
theorem Vd {k : κ} {x : α} : ∀ {m : List (κ × α)}, (ptk k x m).Perm ((k, x) :: dlk k m)
 | [] => List.Perm.refl _
 | (a, b) :: m => by
  unfold ptk dlk
  by_cases e : a = k
  · rw [if_pos e, if_pos e]
  rw [if_neg e, if_neg e]
  exact (List.Perm.cons _ Vd).trans (List.Perm.swap _ _ _)
theorem Uc {k : κ} {x : α} : ∀ {m : List (κ × α)}, lkp k m = some x → m.Perm ((k, x) :: dlk k m)
 | [], h => by cases h
 | (a, b) :: m, h => by
  unfold lkp at h
  unfold dlk
  by_cases e : a = k
  · rw [if_pos e] at h; cases h; subst e; rw [if_pos rfl]
  rw [if_neg e] at h; rw [if_neg e]
  exact (List.Perm.cons _ (Uc h)).trans (List.Perm.swap _ _ _)
theorem Qea {k : κ} : ∀ {m : List (κ × α)}, (keys (dlk k m)).Sublist (keys m)
 | [] => List.Sublist.refl _
 | (a, b) :: m => by
  unfold dlk
  by_cases e : a = k
  · rw [if_pos e]; exact List.sublist_cons_self _ _
  rw [if_neg e]; exact List.Sublist.cons_cons _ Qea
theorem Qp7 {k : κ} : ∀ {m : List (κ × α)}, (keys m).Nodup → k ∉ keys (dlk k m)
 | [], _ => by simp [dlk, keys]
 | (a, b) :: m, hn => by
  have hn2 : a ∉ keys m ∧ (keys m).Nodup := List.nodup_cons.1 hn
  unfold dlk
  by_cases e : a = k
  · subst e; rw [if_pos rfl]; exact hn2.1
  rw [if_neg e]; intro h
  rcases List.mem_cons.1 h with h | h
  · exact e h.symm
  exact Qp7 hn2.2 h
theorem Yr {k : κ} {x : α} {m : List (κ × α)} (h : (keys m).Nodup) : (keys (ptk k x m)).Nodup := by
 have hp : (keys (ptk k x m)).Perm (k :: keys (dlk k m)) := Vd.map Prod.fst
 rw [hp.nodup_iff]
 exact List.nodup_cons.2 ⟨Qp7 h, h.sublist Qea⟩
theorem Qad {k : κ} {m : List (κ × α)} (h : (keys m).Nodup) : (keys (dlk k m)).Nodup := h.sublist Qea
theorem Xl {k k' : κ} {x : α} : ∀ {m : List (κ × α)}, lkp k' (ptk k x m) = if k = k' then some x else lkp k' m
 | [] => by simp [ptk, lkp]
 | (a, b) :: m => by
  unfold ptk
  by_cases e : a = k
  · subst e; rw [if_pos rfl]; simp only [lkp]; split <;> rfl
  rw [if_neg e]; simp only [lkp]
  by_cases e2 : a = k'
  · subst e2; rw [if_pos rfl, if_pos rfl, if_neg (fun h => e h.symm)]
  rw [if_neg e2, if_neg e2, Xl]
theorem Ut {k k' : κ} : ∀ {m : List (κ × α)}, (keys m).Nodup → lkp k' (dlk k m) = if k = k' then none else lkp k' m
 | [], _ => by simp [dlk, lkp]
 | (a, b) :: m, hn => by
  have hn2 : a ∉ keys m ∧ (keys m).Nodup := List.nodup_cons.1 hn
  unfold dlk
  by_cases e : a = k
  · subst e; rw [if_pos rfl]
    by_cases e2 : a = k'
    · subst e2; rw [if_pos rfl]; exact Xx.2 hn2.1
    rw [if_neg e2]; simp [lkp, e2]
  rw [if_neg e]; simp only [lkp]
  by_cases e2 : a = k'
  · subst e2; rw [if_pos rfl, if_neg (fun h => e h.symm), if_pos rfl]
  rw [if_neg e2, Ut hn2.2, if_neg e2]
theorem Qy8 {k : κ} {x : α} {m : List (κ × α)} : (ptk k x m).length ≤ m.length + 1 := by
 have h1 := (Vd (k := k) (x := x) (m := m)).length_eq
 have h2 := (Qea (k := k) (m := m)).length_le
 simp only [keys, List.length_map] at h2
 rw [h1, List.length_cons]; omega
theorem W5 {β : Type} (f : α → β) {k : κ} : ∀ {m : List (κ × α)}, lkp k (m.map fun p => (p.1, f p.2)) = (lkp k m).map f
 | [] => rfl
 | (a, b) :: m => by
  simp only [List.map_cons, lkp]
  split
  · rfl
  exact W5 f
theorem Qay {β : Type} (f : α → β) {k : κ} {x : α} : ∀ {m : List (κ × α)}, (ptk k x m).map (fun p => (p.1, f p.2)) = ptk k (f x) (m.map fun p => (p.1, f p.2))
 | [] => rfl
 | (a, b) :: m => by
  simp only [List.map_cons, ptk]
  split
  · rfl
  rw [List.map_cons, Qay f]
end
theorem keys_map {κ α β : Type} (f : α → β) {m : List (κ × α)} : keys (m.map fun p => (p.1, f p.2)) = keys m := by simp [keys]
def Q3 : Kd Value where
 sz := 1
 agg := false
 K := fun _ x cs => cs = [x] ∧ x.oneCell' = true
 T := fun x => ⟨fun _ v => v = x ∧ x.oneCell' = true, fun _ h => h⟩
 len := fun h => by rw [h.1]; rfl
 one := fun h u hu => by rw [h.1] at hu; rw [List.mem_singleton.1 hu]; exact h.2
 mono := fun _ h => h
 toT := fun h => by rw [h.1]; exact ⟨rfl, h.2⟩
 ofT := fun {H x v} h => ⟨[x], ⟨rfl, h.2⟩, h.1⟩
 szone := fun _ => rfl
theorem OT.raw {N : Nat} {Γ : Env} {x : Operand} {v : Value} (h : OT N Γ x (IsV v)) (h1 : v.oneCell' = true) : OT N Γ x (Q3.T v) := fun a H f => ⟨h a H f, h1⟩
structure Ky {κ : Type} (P : Program) (t : TypeId) (K : Kd κ) (enc : κ → Value) : Prop where
 val : ∀ {H k v}, (K.T k).p H v → v = enc k
 chk : ∀ em k w, (Instr.checkKey em 10000 t (enc k)).run P w = .ok () w
 find : ∀ (es : List MapEntry) (ks : List κ) (k : κ) (w : World), es.map (·.key) = ks.map enc → ((Instr.findKey t (enc k) es).run P w = .ok none w ∧ k ∉ ks) ∨ ∃ j e, (Instr.findKey t (enc k) es).run P w = .ok (some (j, e.val)) w ∧ es[j]? = some e ∧ ks[j]? = some k
 stay : ∀ k w, (Instr.keyThatStays (enc k) (enc k)).run P w = .ok (enc k) w
theorem Qeb {κ : Type} [DecidableEq κ] {d : TypeDesc} {enc : κ → Value} (hs : ∀ a b, Instr.sameNow d (enc a) (enc b) = some (decide (a = b))) (k : κ) :
 ∀ (es : List MapEntry) (ks : List κ) (i : Nat), es.map (·.key) = ks.map enc → (Instr.findNow d (enc k) es i = some none ∧ k ∉ ks) ∨ ∃ j e, Instr.findNow d (enc k) es i = some (some (i + j, e.val)) ∧ es[j]? = some e ∧ ks[j]? = some k
 | [], [], i, h => .inl ⟨rfl, by simp⟩
 | [], _ :: _, _, h => by simp at h
 | _ :: _, [], _, h => by simp at h
 | e :: es, q :: ks, i, h => by
  have h1 : e.key = enc q ∧ es.map (·.key) = ks.map enc := by simpa using h
  unfold Instr.findNow
  rw [h1.1, hs]
  by_cases hk : k = q
  · subst hk; exact .inr ⟨0, e, by simp, rfl, rfl⟩
  simp only [hk, decide_false]
  rcases Qeb hs k es ks (i + 1) h1.2 with ⟨h2, h3⟩ | ⟨j, e', h2, h3, h4⟩
  · exact .inl ⟨h2, by simp [hk, h3]⟩
  exact .inr ⟨j + 1, e', by rw [h2]; congr 3; omega, by simpa using h3, by simpa using h4⟩
theorem Ky.ofNow {κ : Type} [DecidableEq κ] {P : Program} {t : TypeId} {d : TypeDesc} {enc : κ → Value} {h1 : ∀ x, (enc x).oneCell' = true} (ht : P.underlying t = some d) (hk : ∀ x, IsKey d (enc x)) (hs : ∀ a b, Instr.sameNow d (enc a) (enc b) = some (decide (a = b))) : Ky P t (scalar enc h1) enc where
 val := fun h => h
 chk := fun em k w => run_checkKey ht (hk k) em 9999
 find := fun es ks k w h => by
  rcases Qeb hs k es ks 0 h with ⟨h2, h3⟩ | ⟨j, e, h2, h3, h4⟩
  · exact .inl ⟨run_findKey ht h2, h3⟩
  exact .inr ⟨j, e, by rw [Nat.zero_add] at h2; exact run_findKey ht h2, h3, h4⟩
 stay := fun k w => run_keyThatStays (hk k)
theorem Qus {P : Program} {t : TypeId} {q : IntKind} (ht : P.underlying t = some (.int q)) : Ky P t (Jw q) (Value.int q) :=
 Ky.ofNow ht (fun x => by simp [IsKey]) fun a b => by simp [Instr.sameNow]; rw [Bool.eq_iff_iff]; simp
theorem Qec {κ : Type} [DecidableEq κ] {P : Program} {t : TypeId} {enc : κ → Value} {w : World} (hs : ∀ a b, (Op.equal t (enc a) (enc b)).run P w = .ok (decide (a = b)) w) (k : κ) :
 ∀ (es : List MapEntry) (ks : List κ) (i : Nat), es.map (·.key) = ks.map enc → ((Instr.findAsking t (enc k) es i).run P w = .ok none w ∧ k ∉ ks) ∨ ∃ j e, (Instr.findAsking t (enc k) es i).run P w = .ok (some (i + j, e.val)) w ∧ es[j]? = some e ∧ ks[j]? = some k
 | [], [], i, h => .inl ⟨rfl, by simp⟩
 | [], _ :: _, _, h => by simp at h
 | _ :: _, [], _, h => by simp at h
 | e :: es, q :: ks, i, h => by
  have h1 : e.key = enc q ∧ es.map (·.key) = ks.map enc := by simpa using h
  unfold Instr.findAsking
  simp only [Sem.run_bind, h1.1, hs, Result.andThen_ok]
  by_cases hk : k = q
  · subst hk; exact .inr ⟨0, e, by simp, rfl, rfl⟩
  simp only [hk, decide_false, Bool.false_eq_true, if_false]
  rcases Qec hs k es ks (i + 1) h1.2 with ⟨h2, h3⟩ | ⟨j, e', h2, h3, h4⟩
  · exact .inl ⟨h2, by simp [hk, h3]⟩
  exact .inr ⟨j + 1, e', by rw [h2]; congr 3; omega, by simpa using h3, by simpa using h4⟩
theorem Ky.ofAsk {κ : Type} [DecidableEq κ] {P : Program} {t : TypeId} {d : TypeDesc} {K : Kd κ} {enc : κ → Value} (ht : P.underlying t = some d) (hv : ∀ {H k v}, (K.T k).p H v → v = enc k) (hn : ∀ a b, Instr.sameNow d (enc a) (enc b) = none)
 (hc : ∀ em k w, (Instr.checkKey em 10000 t (enc k)).run P w = .ok () w) (hs : ∀ w a b, (Op.equal t (enc a) (enc b)).run P w = .ok (decide (a = b)) w) (hy : ∀ k, Instr.sameBits 10000 (enc k) (enc k) = true) : Ky P t K enc where
 val := hv
 chk := hc
 find := fun es ks k w h => by
  match es, ks, h with
  | [], [], h => exact .inl ⟨run_findKey ht (by simp [Instr.findNow]), by simp⟩
  | [], _ :: _, h => simp at h
  | _ :: _, [], h => simp at h
  | e :: es, q :: ks, h =>
   have h1 : e.key = enc q := by have : e.key = enc q ∧ es.map (·.key) = ks.map enc := by simpa using h
                                 exact this.1
   have hr : (Instr.findKey t (enc k) (e :: es)).run P w = (Instr.findAsking t (enc k) (e :: es)).run P w := by
    simp only [Instr.findKey, Sem.run_bind, run_underlying ht, Result.andThen_ok, Instr.findNow, h1, hn]
   rw [hr]
   simpa using Qec (hs w) k (e :: es) (q :: ks) 0 h
 stay := fun k w => by simp [Instr.keyThatStays, hy]
structure J2 {κ α : Type} (enc : κ → Value) (V : α → Ty) (H : FH) (m : List (κ × α)) (es : Array MapEntry) (clock : Nat) : Prop where
 key : es.toList.map (·.key) = m.map fun p => enc p.1
 val : ∀ (i : Nat) (e : MapEntry) (p : κ × α), es.toList[i]? = some e → m[i]? = some p → (V p.2).p H e.val
 nd : (keys m).Nodup
 bn : (es.toList.map (·.born)).Nodup
 lt : ∀ e ∈ es.toList, e.born < clock
section
variable {κ α : Type} {enc : κ → Value} {V : α → Ty} {H : FH} {m : List (κ × α)} {es : Array MapEntry} {clock : Nat}
theorem J2.mono {H' : FH} (h : J2 enc V H m es clock) (hs : Sub H H') : J2 enc V H' m es clock := ⟨h.key, fun i e p h1 h2 => Ty.mono _ hs (h.val i e p h1 h2), h.nd, h.bn, h.lt⟩
theorem J2.empty : J2 enc V H [] #[] 0 := ⟨rfl, fun i e p h => by simp at h, List.nodup_nil, List.nodup_nil, fun e h => by simp at h⟩
theorem J2.len (h : J2 enc V H m es clock) : es.size = m.length := by
 have := congrArg List.length h.key
 simpa using this
theorem J2.ks (h : J2 enc V H m es clock) : es.toList.map (·.key) = (keys m).map enc := by rw [h.key, keys, List.map_map]; rfl
theorem J2.at_ (h : J2 enc V H m es clock) {k : κ} {j : Nat} {e : MapEntry} (h1 : es.toList[j]? = some e) (h2 : (keys m)[j]? = some k) : ∃ x, m[j]? = some (k, x) ∧ e.key = enc k ∧ (V x).p H e.val := by
 unfold keys at h2
 rw [List.getElem?_map] at h2
 cases hm : m[j]? with
 | none => rw [hm] at h2; cases h2
 | some p =>
  rw [hm] at h2
  have e1 : p.1 = k := by simpa using h2
  subst e1
  refine ⟨p.2, rfl, ?_, h.val j e p h1 hm⟩
  have h3 : (es.toList.map (·.key))[j]? = some e.key := by rw [List.getElem?_map, h1]; rfl
  rw [h.key, List.getElem?_map, hm] at h3
  exact (Option.some.inj h3).symm
theorem Kz {β : Type} {l : List β} {j : Nat} {e : β} {f : β → β} (h : l[j]? = some e) : l.modify j f = l.set j (f e) := by
 apply List.ext_getElem?
 intro i
 have hj : j < l.length := (List.getElem?_eq_some_iff.1 h).1
 rw [List.getElem?_modify, List.getElem?_set]
 by_cases hi : j = i
 · subst hi; rw [h]; simp [hj]
 simp [hi]
theorem Qut {β : Type} {l : List β} {j : Nat} {e : β} (h : l[j]? = some e) : l.set j e = l := by
 apply List.ext_getElem?
 intro i
 have hj : j < l.length := (List.getElem?_eq_some_iff.1 h).1
 rw [List.getElem?_set]
 by_cases hi : j = i
 · subst hi; rw [h]; simp [hj]
 simp [hi]
theorem Kf {es : Array MapEntry} {j : Nat} {f : MapEntry → MapEntry} : (es.modify j f).toList = es.toList.modify j f := by simp
theorem J2.set_ [DecidableEq κ] (h : J2 enc V H m es clock) {k : κ} {j : Nat} {e : MapEntry} {x y : α} {v : Value} (h1 : es.toList[j]? = some e) (h2 : m[j]? = some (k, x)) (he : e.key = enc k) (hv : (V y).p H v) :
 J2 enc V H (ptk k y m) (es.modify j fun e => { e with key := enc k, val := v }) clock := by
 have hj : j < es.toList.length := (List.getElem?_eq_some_iff.1 h1).1
 have hjm : j < m.length := (List.getElem?_eq_some_iff.1 h2).1
 have hl : (es.modify j fun e => { e with key := enc k, val := v }).toList = es.toList.set j { e with key := enc k, val := v } := by
  rw [Kf, Kz h1]
 rw [Qd8 h.nd h2]
 refine ⟨?_, ?_, ?_, ?_, ?_⟩
 · rw [hl, List.map_set, List.map_set, h.key]
 · intro i e' p h3 h4
   rw [hl, List.getElem?_set] at h3
   rw [List.getElem?_set] at h4
   by_cases hi : j = i
   · rw [if_pos hi, if_pos hj] at h3
     rw [if_pos hi, if_pos hjm] at h4
     cases h3; cases h4; exact hv
   rw [if_neg hi] at h3 h4
   exact h.val i e' p h3 h4
 · rw [← Qd8 (x := y) h.nd h2]; exact Yr h.nd
 · rw [hl, List.map_set]
   rw [show ({ e with key := enc k, val := v } : MapEntry).born = e.born from rfl, Qut (by rw [List.getElem?_map, h1]; rfl)]; exact h.bn
 intro e' he'
 rw [hl] at he'
 rcases List.mem_or_eq_of_mem_set he' with h3 | h3
 · exact h.lt _ h3
 rw [h3]; exact h.lt e (List.mem_of_getElem? h1)
end
end Go.Gw
namespace Go.Gw
open Go Go.MapKept
section
variable {κ α : Type} {enc : κ → Value} {V : α → Ty} {H : FH} {m : List (κ × α)} {es : Array MapEntry} {clock : Nat}
theorem J2.push_ [DecidableEq κ] (h : J2 enc V H m es clock) {k : κ} {y : α} {v : Value} (hk : k ∉ keys m) (hv : (V y).p H v) :
 J2 enc V H (ptk k y m) (es.push { key := enc k, val := v, born := clock }) (clock + 1) := by
 rw [Qd9 hk]
 have hlen := h.len
 refine ⟨?_, ?_, ?_, ?_, ?_⟩
 · rw [Array.toList_push, List.map_append, List.map_append, h.key]; rfl
 · intro i e p h1 h2
   rw [Array.toList_push] at h1
   by_cases hi : i < m.length
   · rw [List.getElem?_append_left (by simpa [hlen] using hi)] at h1
     rw [List.getElem?_append_left hi] at h2
     exact h.val i e p h1 h2
   rw [List.getElem?_append_right (by simp; omega)] at h1
   rw [List.getElem?_append_right (by omega)] at h2
   have hi0 : i - m.length = 0 := by
    have := (List.getElem?_eq_some_iff.1 h2).1
    simp at this; omega
   rw [hi0] at h2
   have : i - es.toList.length = 0 := by simp [hlen]; omega
   rw [this] at h1
   cases h1; cases h2; exact hv
 · rw [← Qd9 (x := y) hk]; exact Yr h.nd
 · rw [Array.toList_push, List.map_append]
   refine List.nodup_append.2 ⟨h.bn, by simp, fun a ha b hb => ?_⟩
   obtain ⟨e, he, rfl⟩ := List.mem_map.1 ha
   have : b = clock := by simpa using hb
   subst this
   exact Nat.ne_of_lt (h.lt e he)
 intro e he
 rw [Array.toList_push] at he
 rcases List.mem_append.1 he with h1 | h1
 · exact Nat.lt_succ_of_lt (h.lt e h1)
 have : e = { key := enc k, val := v, born := clock } := by simpa using h1
 rw [this]; exact Nat.lt_succ_self _
theorem W6 {β γ : Type} (f : β → γ) : ∀ (l : List β) (j : Nat), (l.eraseIdx j).map f = (l.map f).eraseIdx j
 | [], _ => rfl
 | _ :: _, 0 => rfl
 | a :: l, j + 1 => by simp [W6 f l j]
theorem J2.erase_ [DecidableEq κ] (h : J2 enc V H m es clock) {k : κ} {j : Nat} {x : α} (h2 : m[j]? = some (k, x)) : J2 enc V H (dlk k m) (es.eraseIdxIfInBounds j) clock := by
 have hj : j < m.length := (List.getElem?_eq_some_iff.1 h2).1
 have hl : (es.eraseIdxIfInBounds j).toList = es.toList.eraseIdx j := by
  unfold Array.eraseIdxIfInBounds
  rw [dif_pos (by rw [h.len]; exact hj)]; simp
 rw [Qck h.nd h2]
 refine ⟨?_, ?_, ?_, ?_, ?_⟩
 · rw [hl, W6, W6, h.key]
 · intro i e p h3 h4
   rw [hl, List.getElem?_eraseIdx] at h3
   rw [List.getElem?_eraseIdx] at h4
   by_cases hi : i < j
   · rw [if_pos hi] at h3 h4; exact h.val i e p h3 h4
   rw [if_neg hi] at h3 h4; exact h.val (i + 1) e p h3 h4
 · rw [← Qck h.nd h2]; exact Qad h.nd
 · rw [hl]; exact h.bn.sublist ((List.eraseIdx_sublist _ _).map _)
 intro e he; rw [hl] at he; exact h.lt e ((List.eraseIdx_sublist _ _).subset he)
end
section
variable {κ α : Type} [DecidableEq κ] {P : Program} {w : World} {t kt et : TypeId} {K : Kd κ} {enc : κ → Value} {V : α → Ty} {H : FH} {m : List (κ × α)} {es : Array MapEntry} {clock g : Nat} {k : κ}
theorem Qae (mk : Ky P kt K enc) (h : J2 enc V H m es clock) (w : World) :
 ((Instr.findKey kt (enc k) es.toList).run P w = .ok none w ∧ k ∉ keys m) ∨ ∃ j e x, (Instr.findKey kt (enc k) es.toList).run P w = .ok (some (j, e.val)) w ∧ es.toList[j]? = some e ∧ m[j]? = some (k, x) ∧ e.key = enc k ∧ (V x).p H e.val := by
 rcases mk.find es.toList (keys m) k w h.ks with ⟨h1, h2⟩ | ⟨j, e, h1, h2, h3⟩
 · exact .inl ⟨h1, h2⟩
 obtain ⟨x, h4, h5, h6⟩ := h.at_ h2 h3
 exact .inr ⟨j, e, x, h1, h2, h4, h5, h6⟩
theorem Ud (mk : Ky P kt K enc) (ht : P.underlying t = some (.map kt et)) (hb : w.heap[g]? = some (.map es clock)) (h : J2 enc V H m es clock) {z : Value} (hz : (zeroValue et).run P w = .ok z w) :
 (lkp k m = none ∧ (Instr.lookup t (.map (some g)) (enc k) false).run P w = .ok z w ∧ (Instr.lookup t (.map (some g)) (enc k) true).run P w = .ok (.tuple #[z, .bool false]) w) ∨
 ∃ x v, lkp k m = some x ∧ (V x).p H v ∧ (Instr.lookup t (.map (some g)) (enc k) false).run P w = .ok v w ∧ (Instr.lookup t (.map (some g)) (enc k) true).run P w = .ok (.tuple #[v, .bool true]) w := by
 rcases Qae (k := k) mk h w with ⟨h1, h2⟩ | ⟨j, e, x, h1, h2, h3, h4, h5⟩
 · refine .inl ⟨Xx.2 h2, ?_, ?_⟩ <;> simp [Instr.lookup, run_underlying ht, MapKept.run_getObj_map hb, mk.chk, h1, hz, Result.andThen]
 refine .inr ⟨x, e.val, Qhf h.nd h3, h5, ?_, ?_⟩ <;> simp [Instr.lookup, run_underlying ht, MapKept.run_getObj_map hb, mk.chk, h1, Result.andThen]
theorem Qhg (mk : Ky P kt K enc) (ht : P.underlying t = some (.map kt et)) {z : Value} (hz : (zeroValue et).run P w = .ok z w) :
 (Instr.lookup t (.map none) (enc k) false).run P w = .ok z w ∧ (Instr.lookup t (.map none) (enc k) true).run P w = .ok (.tuple #[z, .bool false]) w := by
 rcases mk.find [] [] k w rfl with ⟨h1, _⟩ | ⟨j, e, _, h2, _⟩
 · refine ⟨?_, ?_⟩ <;> simp [Instr.lookup, run_underlying ht, mk.chk, h1, hz, Result.andThen]
 simp at h2
abbrev K1 (w : World) (g : Nat) (es : Array MapEntry) (clock : Nat) : World := { w with heap := w.heap.setIfInBounds g (.map es clock) }
theorem Qhh (mk : Ky P kt K enc) (ht : P.underlying t = some (.map kt et)) (hb : w.heap[g]? = some (.map es clock)) (h : J2 enc V H m es clock) {y : α} {v : Value} (hv : (V y).p H v) :
 ∃ es' clock', (Instr.mapUpdate t (.map (some g)) (enc k) v).run P w = .ok () (K1 w g es' clock') ∧ J2 enc V H (ptk k y m) es' clock' := by
 rcases Qae (k := k) mk h w with ⟨h1, h2⟩ | ⟨j, e, x, h1, h2, h3, h4, h5⟩
 · refine ⟨_, _, ?_, h.push_ h2 hv⟩
   simp [Instr.mapUpdate, run_underlying ht, MapKept.run_getObj_map hb, mk.chk, h1, MapKept.run_setObj_map _ hb, Result.andThen]
 refine ⟨_, _, ?_, h.set_ h2 h3 h4 hv⟩
 have h2' : es[j]? = some e := by simpa using h2
 simp [Instr.mapUpdate, run_underlying ht, MapKept.run_getObj_map hb, mk.chk, h1, h2', h4, mk.stay, MapKept.run_setObj_map _ hb, Result.andThen]
theorem Qru (mk : Ky P kt K enc) (ht : P.underlying t = some (.map kt et)) (hb : w.heap[g]? = some (.map es clock)) (h : J2 enc V H m es clock) {z : Value} {y : α} (hz : (zeroValue et).run P w = .ok z w) (hzy : (V y).p H z) :
 ∃ es' clock' v, ∃ s : Nat, (Instr.mapEntry t (.map (some g)) (enc k)).run P w = .ok (.tuple #[v, .int .i64 s]) (K1 w g es' clock') ∧ (V ((lkp k m).getD y)).p H v ∧ J2 enc V H (ptk k ((lkp k m).getD y) m) es' clock' ∧ ∃ (j : Nat) (e : MapEntry), es'.toList[j]? = some e ∧ e.born = s ∧ e.key = enc k ∧ (keys (ptk k ((lkp k m).getD y) m))[j]? = some k := by
 rcases Qae (k := k) mk h w with ⟨h1, h2⟩ | ⟨j, e, x, h1, h2, h3, h4, h5⟩
 · have hl : lkp k m = none := Xx.2 h2
   rw [hl]
   refine ⟨_, _, z, clock, ?_, hzy, h.push_ h2 hzy, es.size, { key := enc k, val := z, born := clock }, by simp, rfl, rfl, ?_⟩
   · simp [Instr.mapEntry, run_underlying ht, MapKept.run_getObj_map hb, mk.chk, h1, hz, MapKept.run_setObj_map _ hb, Result.andThen, goInt]
   rw [show (none : Option α).getD y = y from rfl, Qd9 h2]; simp [keys, h.len]
 have hl : lkp k m = some x := Qhf h.nd h3
 rw [hl]
 have h2' : es[j]? = some e := by simpa using h2
 have hset := h.set_ (y := x) h2 h3 h4 h5
 refine ⟨_, _, e.val, e.born, ?_, h5, hset, j, { e with key := enc k, val := e.val }, ?_, rfl, rfl, ?_⟩
 · have hme : (es.modify j fun e => { e with key := enc k }) = (es.modify j fun e' => { e' with key := enc k, val := e.val }) := by
    apply Array.ext'
    rw [Kf, Kf, Kz h2, Kz h2]
   simp [Instr.mapEntry, run_underlying ht, MapKept.run_getObj_map hb, mk.chk, h1, h2', h4, mk.stay, MapKept.run_setObj_map _ hb, Result.andThen, goInt]
   rw [hme]
 · rw [Kf, Kz h2, List.getElem?_set_self (List.getElem?_eq_some_iff.1 h2).1]
 rw [show (some x).getD y = x from rfl, Qd8 h.nd h3]
 simp only [keys, List.map_set, List.getElem?_set]
 have : j < m.length := (List.getElem?_eq_some_iff.1 h3).1
 simp [this]
theorem Qkn {es : List MapEntry} {j : Nat} {e : MapEntry} (hn : (es.map (·.born)).Nodup) (h : es[j]? = some e) : es.findIdx? (fun x => ((x.born : Int) == (e.born : Int))) = some j := by
 have hj : j < es.length := (List.getElem?_eq_some_iff.1 h).1
 rw [List.findIdx?_eq_some_iff_getElem]
 have he : es[j] = e := (List.getElem?_eq_some_iff.1 h).2
 refine ⟨hj, by simp [he], fun i hi => ?_⟩
 have hil : i < es.length := by omega
 intro hb
 have hb2 : es[i].born = es[j].born := by
  have h9 : ((es[i].born : Int)) = (e.born : Int) := by simpa using hb
  rw [he]; omega
 have := List.pairwise_iff_getElem.1 hn i j (by simpa using hil) (by simpa using hj) hi
 exact this (by simpa using hb2)
theorem Qhi (hb : w.heap[g]? = some (.map es clock)) (h : J2 enc V H m es clock) {j : Nat} {e : MapEntry} (h1 : es.toList[j]? = some e) (hk : e.key = enc k) (h2 : (keys m)[j]? = some k) {y : α} {v : Value} (hv : (V y).p H v) :
 ∃ es', (Instr.entryStore t (.map (some g)) (.int .i64 e.born) v).run P w = .ok () (K1 w g es' clock) ∧ J2 enc V H (ptk k y m) es' clock := by
 obtain ⟨x, h3, _, h5⟩ := h.at_ h1 h2
 have hset := h.set_ (y := y) h1 h3 hk hv
 refine ⟨_, ?_, hset⟩
 have hf := Qkn h.bn h1
 have hf2 : es.findIdx? (fun x => ((x.born : Int) == (e.born : Int))) = some j := by
  have h9 := List.findIdx?_toArray (fun x : MapEntry => ((x.born : Int) == (e.born : Int))) es.toList
  rw [hf] at h9; simpa using h9
 have hme : (es.modify j fun e => { e with val := v }) = (es.modify j fun e' => { e' with key := enc k, val := v }) := by
  apply Array.ext'
  rw [Kf, Kf, Kz h1, Kz h1, ← hk]
 simp only [Instr.entryStore, Sem.run_bind, MapKept.run_getObj_map hb, Result.andThen_ok, asInt, asIntOf, Sem.run_pure, hf2, MapKept.run_setObj_map _ hb]
 rw [hme]
theorem Qoo (mk : Ky P kt K enc) (ht : P.underlying t = some (.map kt et)) (hb : w.heap[g]? = some (.map es clock)) (h : J2 enc V H m es clock) (r : TypeId) {ts : Array TypeId} (hts : ts[0]? = some t) :
 ∃ es' w', (Builtin.delete_ ts r #[.map (some g), enc k]).run P w = .ok (.tuple #[]) w' ∧ w' = K1 w g es' clock ∧ J2 enc V H (dlk k m) es' clock := by
 rcases Qae (k := k) mk h w with ⟨h1, h2⟩ | ⟨j, e, x, h1, h2, h3, h4, h5⟩
 · refine ⟨es, _, ?_, rfl, by rw [J5 h2]; exact h⟩
   simp [Builtin.delete_, hts, run_underlying ht, MapKept.run_getObj_map hb, mk.chk, h1, MapKept.run_setObj_map _ hb, Result.andThen]
 refine ⟨_, _, ?_, rfl, h.erase_ h3⟩
 simp [Builtin.delete_, hts, run_underlying ht, MapKept.run_getObj_map hb, mk.chk, h1, MapKept.run_setObj_map _ hb, Result.andThen]
end
end Go.Gw
namespace Go.Gw
open Go Go.MapKept
section
variable {κ α : Type}
def Qg (g : Nat) (enc : κ → Value) (V : α → Ty) (m : List (κ × α)) : It where
 blk := some g
 p := fun w H => ∃ es clock, w.heap[g]? = some (.map es clock) ∧ J2 enc V H m es clock
 st := fun hb hs ⟨es, clock, h1, h2⟩ => ⟨es, clock, (hb g rfl).trans h1, h2.mono hs⟩
abbrev mp (g : Nat) : Value := .map (some g)
def Qhj (enc : κ → Value) (V : α → Ty) (m : List (κ × α)) : Ty :=
 ⟨fun H v => (v = .map none ∧ m = []) ∨ ∃ g es clock, v = mp g ∧ H g = some (.map es clock) ∧ J2 enc V H m es clock, fun hs h => h.imp id fun ⟨g, es, clock, h1, h2, h3⟩ => ⟨g, es, clock, h1, hs _ _ h2, h3.mono hs⟩⟩
def Q20 (enc : κ → Value) (V : α → Ty) : Kd (List (κ × α)) where
 sz := 1
 agg := false
 K := fun H m cs => ∃ v, cs = [v] ∧ (Qhj enc V m).p H v
 T := fun m => Qhj enc V m
 len := by rintro H x cs ⟨v, rfl, _⟩; rfl
 one := by
  rintro H x cs ⟨v, rfl, h⟩ u hu
  rw [List.mem_singleton.1 hu]
  rcases h with ⟨rfl, _⟩ | ⟨g, es, clock, rfl, _⟩ <;> rfl
 mono := by rintro H H' x cs hs ⟨v, e, h⟩; exact ⟨v, e, Ty.mono _ hs h⟩
 toT := by rintro H x cs ⟨v, rfl, h⟩; exact h
 ofT := fun {H x v} h => ⟨[v], ⟨v, rfl, h⟩, rfl⟩
 szone := fun _ => rfl
def Qlz (d : Kd α) : Option α → Ty
 | none => IsV (.pointer none)
 | some x => AtT d x
def kpt (d : Kd α) : Kd (Option α) where
 sz := 1
 agg := false
 K := fun H m cs => ∃ v, cs = [v] ∧ (Qlz d m).p H v
 T := fun m => Qlz d m
 len := by rintro H x cs ⟨v, rfl, _⟩; rfl
 one := by
  rintro H x cs ⟨v, rfl, h⟩ u hu
  rw [List.mem_singleton.1 hu]
  cases x with
  | none => rw [show v = .pointer none from h]; rfl
  | some x => obtain ⟨g, off, cells, t, fr, cs, rfl, _⟩ := h; rfl
 mono := by rintro H H' x cs hs ⟨v, e, h⟩; exact ⟨v, e, Ty.mono _ hs h⟩
 toT := by rintro H x cs ⟨v, rfl, h⟩; exact h
 ofT := fun {H x v} h => ⟨[v], ⟨v, rfl, h⟩, rfl⟩
 szone := fun _ => rfl
end
theorem Qde {M : Nat → Prop} {H : FH} {w : World} {g : Nat} (hon : On H w) (hH : H g = none) (hM : M g) (es : Array MapEntry) (clock : Nat) : St M H w H (K1 w g es clock) := by
 refine Y4 (row := some g) hon ⟨rfl, rfl, rfl, by simp, fun k hk hne => ?_⟩ fun k hk => by cases hk; exact ⟨hH, hM⟩
 have : k ≠ g := fun e => hne (by rw [e])
 simp [Array.getElem?_setIfInBounds, Ne.symm this]
theorem Ue {w : World} {g : Nat} {o : Obj} {es : Array MapEntry} {clock : Nat} (h : w.heap[g]? = some o) : (K1 w g es clock).heap[g]? = some (.map es clock) := by
 have hlt : g < w.heap.size := (Array.getElem?_eq_some_iff.1 h).1
 simp [hlt]
theorem Js {I J : It} {b : Nat} {ok : Nat → Prop} {H : FH} {w w' : World} {R : List It} (hJ : J.blk = some b) (hI : I.blk = some b) (hp : J.p w' H) (ho : Xu ok w H (I :: R)) (hs : w.heap.size ≤ w'.heap.size) : Xu (fun g => g ∈ X8 [I] ∨ w.heap.size ≤ g) w' H [J] where
 all := fun i hi => by rw [List.mem_singleton.1 hi]; exact hp
 nodup := by unfold X8; rw [List.filterMap_cons_some hJ]; simp
 own := fun g hg => by
  obtain ⟨it, hit, h1⟩ := List.mem_filterMap.1 hg
  rw [List.mem_singleton.1 hit, hJ] at h1
  cases h1
  have h2 := ho.own b (Xn (i := I) List.mem_cons_self hI)
  exact ⟨Nat.lt_of_lt_of_le h2.1 hs, h2.2.1, .inl (Xn (i := I) List.mem_cons_self hI)⟩
section
variable {C : Cx} {Γ : Env} {L R : List It} {dst : Option Tmp} {ty : TypeId} {pos : String} {after : Array Edge} {guard : Option (Nat × Bool)} {x y z : Operand}
variable {κ α : Type} [DecidableEq κ] {t kt et : TypeId} {K : Kd κ} {enc : κ → Value} {V : α → Ty} {m : List (κ × α)} {g : Nat} {k : κ}
theorem Q9 (enc : κ → Value) (V : α → Ty) : Yp C Γ L ⟨dst, .makeMap t none, ty, pos, after, guard⟩ [] Nat (fun g => IsV (mp g)) (fun g => [Qg g enc V []]) (fun _ => True) := by
 intro a w H f s ow Q K hK
 have hrun : (execOp a.eval ⟨dst, .makeMap t none, ty, pos, after, guard⟩).run C.P w = .ok (.value (mp w.heap.size)) (w.alloc (.map #[] 0)) := by
  simp [execOp, Instr.makeMap, Result.andThen, mp]
 simp only [Oper.wp, hrun, Oper.upon_value]
 exact hK w.heap.size _ _ H trivial (Wc s.on _) rfl (Kp (J := Qg w.heap.size enc V []) ⟨_, _, heap_alloc_new w _, J2.empty⟩ (.inr rfl) (by simp) s.on)
theorem Xq {d : Kd α} {z0 : α} (mk : Ky C.P kt K enc) (ht : C.P.underlying t = some (.map kt et)) (hz : Xw C.P et d z0) (hx : OT C.N Γ x (IsV (mp g))) (hm : Qg g enc d.T m ∈ L) (hy : OT C.N Γ y (K.T k)) :
 Pure C Γ L ⟨dst, .lookup t x y false, ty, pos, after, guard⟩ (d.T ((lkp k m).getD z0)) := fun a w H f s ow => by
 obtain ⟨es, clock, hb, hR⟩ := ow.all _ hm
 obtain ⟨zv, hzr, hzt⟩ := Kq (w := w) hz
 have hxv : a.eval x = mp g := hx a H f
 have hyv : a.eval y = enc k := mk.val (hy a H f)
 rcases Ud (k := k) mk ht hb hR hzr with ⟨h1, h2, _⟩ | ⟨v0, v, h1, h2, h3, _⟩
 · rw [h1]; exact ⟨zv, by simp [execOp, hxv, hyv, h2, Result.andThen], hzt H⟩
 rw [h1]; exact ⟨v, by simp [execOp, hxv, hyv, h3, Result.andThen], h2⟩
theorem X7 {m : List (κ × Value)} {z0 : Value} (mk : Ky C.P kt K enc) (ht : C.P.underlying t = some (.map kt et)) (hz : (C.P.info? et).bind (·.zero) = some z0) (hx : OT C.N Γ x (IsV (mp g))) (hm : Qg g enc IsV m ∈ L) (hy : OT C.N Γ y (K.T k)) :
 Pure C Γ L ⟨dst, .lookup t x y false, ty, pos, after, guard⟩ (IsV ((lkp k m).getD z0)) := fun a w H f s ow => by
 obtain ⟨es, clock, hb, hR⟩ := ow.all _ hm
 have hzr : (zeroValue et).run C.P w = .ok z0 w := by
  cases hi : C.P.info? et with
  | none => rw [hi] at hz; cases hz
  | some i => rw [hi] at hz; have h3 : i.zero = some z0 := hz; simp [zeroValue, typeInfo, hi, h3]
 have hxv : a.eval x = mp g := hx a H f
 have hyv : a.eval y = enc k := mk.val (hy a H f)
 rcases Ud (k := k) mk ht hb hR hzr with ⟨h1, h2, _⟩ | ⟨v0, v, h1, h2, h3, _⟩
 · rw [h1]; exact ⟨z0, by simp [execOp, hxv, hyv, h2, Result.andThen], rfl⟩
 rw [h1]; exact ⟨v, by simp [execOp, hxv, hyv, h3, Result.andThen], h2⟩
theorem Qhk {d : Kd α} {z0 : α} (mk : Ky C.P kt K enc) (ht : C.P.underlying t = some (.map kt et)) (hz : Xw C.P et d z0) (hx : OT C.N Γ x (IsV (mp g))) (hm : Qg g enc d.T m ∈ L) (hy : OT C.N Γ y (K.T k)) :
 Pure C Γ L ⟨dst, .lookup t x y true, ty, pos, after, guard⟩ (Y1 [d.T ((lkp k m).getD z0), Xe (lkp k m).isSome]) := fun a w H f s ow => by
 obtain ⟨es, clock, hb, hR⟩ := ow.all _ hm
 obtain ⟨zv, hzr, hzt⟩ := Kq (w := w) hz
 have hxv : a.eval x = mp g := hx a H f
 have hyv : a.eval y = enc k := mk.val (hy a H f)
 rcases Ud (k := k) mk ht hb hR hzr with ⟨h1, _, h2⟩ | ⟨v0, v, h1, h2, _, h3⟩
 · rw [h1]; exact ⟨_, by simp [execOp, hxv, hyv, h2, Result.andThen], [_, _], rfl, hzt H, rfl, trivial⟩
 rw [h1]; exact ⟨_, by simp [execOp, hxv, hyv, h3, Result.andThen], [_, _], rfl, h2, rfl, trivial⟩
theorem V0 {d : Kd α} {z0 : α} (mk : Ky C.P kt K enc) (ht : C.P.underlying t = some (.map kt et)) (hz : Xw C.P et d z0) (hx : OT C.N Γ x (Qhj enc d.T m)) (hy : OT C.N Γ y (K.T k)) :
 Pure C Γ L ⟨dst, .lookup t x y false, ty, pos, after, guard⟩ (d.T ((lkp k m).getD z0)) := fun a w H f s ow => by
 obtain ⟨zv, hzr, hzt⟩ := Kq (w := w) hz
 have hyv : a.eval y = enc k := mk.val (hy a H f)
 rcases hx a H f with ⟨hxv, rfl⟩ | ⟨g, es, clock, hxv, hb, hR⟩
 · exact ⟨zv, by simp [execOp, hxv, hyv, (Qhg (k := k) mk ht hzr).1, Result.andThen], hzt H⟩
 have hxv' : a.eval x = .map (some g) := hxv
 rcases Ud (k := k) mk ht (s.on _ _ hb) hR hzr with ⟨h1, h2, _⟩ | ⟨v0, v, h1, h2, h3, _⟩
 · rw [h1]; exact ⟨zv, by simp [execOp, hxv', hyv, h2, Result.andThen], hzt H⟩
 rw [h1]; exact ⟨v, by simp [execOp, hxv', hyv, h3, Result.andThen], h2⟩
theorem X4 {v : α} (mk : Ky C.P kt K enc) (ht : C.P.underlying t = some (.map kt et)) (hx : OT C.N Γ x (IsV (mp g))) (hp : List.Perm L (Qg g enc V m :: R)) (hy : OT C.N Γ y (K.T k)) (hz : OT C.N Γ z (V v)) :
 Yp C Γ L ⟨dst, .mapUpdate t x y z, ty, pos, after, guard⟩ [Qg g enc V m] Unit (fun _ => Yu) (fun _ => [Qg g enc V (ptk k v m)]) (fun _ => True) := by
 intro a w H f s ow Q K' hK
 have o' := ow.perm hp
 obtain ⟨es, clock, hb, hR⟩ := o'.all _ List.mem_cons_self
 have hown := o'.own g (Xn (i := Qg g enc V m) List.mem_cons_self rfl)
 have hxv : a.eval x = .map (some g) := hx a H f
 have hyv : a.eval y = enc k := mk.val (hy a H f)
 obtain ⟨es', clock', hr, hR'⟩ := Qhh (k := k) mk ht hb hR (hz a H f)
 have hrun : (execOp a.eval ⟨dst, .mapUpdate t x y z, ty, pos, after, guard⟩).run C.P w = .ok .skip (K1 w g es' clock') := by simp [execOp, hxv, hyv, hr, Result.andThen]
 simp only [Oper.wp, hrun, Oper.upon_skip]
 refine hK () _ _ H trivial (Qde s.on hown.2.1 (Xn (i := Qg g enc V m) List.mem_cons_self rfl) _ _) trivial ?_
 exact Js (I := Qg g enc V m) rfl rfl ⟨_, _, Ue hb, hR'⟩ o' (by simp)
def Qi5 (g : Nat) (enc : κ → Value) (V : α → Ty) (m : List (κ × α)) (k : κ) (st : Nat) : It where
 blk := some g
 p := fun w H => ∃ es clock, w.heap[g]? = some (.map es clock) ∧ J2 enc V H m es clock ∧ ∃ (j : Nat) (e : MapEntry), es.toList[j]? = some e ∧ e.born = st ∧ e.key = enc k ∧ (keys m)[j]? = some k
 st := fun hb hs ⟨es, clock, h1, h2, h3⟩ => ⟨es, clock, (hb g rfl).trans h1, h2.mono hs, h3⟩
theorem Qdf {d : Kd α} {z0 : α} (mk : Ky C.P kt K enc) (ht : C.P.underlying t = some (.map kt et)) (hz : Xw C.P et d z0) (hx : OT C.N Γ x (IsV (mp g))) (hp : List.Perm L (Qg g enc d.T m :: R)) (hy : OT C.N Γ y (K.T k)) :
 Yp C Γ L ⟨dst, .mapEntry t x y, ty, pos, after, guard⟩ [Qg g enc d.T m] Nat (fun st => Y1 [d.T ((lkp k m).getD z0), I64 (st : Int)]) (fun st => [Qi5 g enc d.T (ptk k ((lkp k m).getD z0) m) k st]) (fun _ => True) := by
 intro a w H f s ow Q K' hK
 have o' := ow.perm hp
 obtain ⟨es, clock, hb, hR⟩ := o'.all _ List.mem_cons_self
 have hown := o'.own g (Xn (i := Qg g enc d.T m) List.mem_cons_self rfl)
 have hxv : a.eval x = .map (some g) := hx a H f
 have hyv : a.eval y = enc k := mk.val (hy a H f)
 obtain ⟨zv, hzr, hzt⟩ := Kq (w := w) hz
 obtain ⟨es', clock', v, st, hr, hv, hR', j, e, h1, h2, h3, h4⟩ := Qru (k := k) mk ht hb hR hzr (hzt H)
 have hrun : (execOp a.eval ⟨dst, .mapEntry t x y, ty, pos, after, guard⟩).run C.P w = .ok (.value (.tuple #[v, .int .i64 st])) (K1 w g es' clock') := by simp [execOp, hxv, hyv, hr, Result.andThen]
 simp only [Oper.wp, hrun, Oper.upon_value]
 refine hK st _ _ H trivial (Qde s.on hown.2.1 (Xn (i := Qg g enc d.T m) List.mem_cons_self rfl) _ _) ⟨[_, _], rfl, hv, rfl, trivial⟩ ?_
 exact Js (I := Qg g enc d.T m) rfl rfl ⟨_, _, Ue hb, hR', j, e, h1, h2, h3, h4⟩ o' (by simp)
theorem Vj {v : α} {st : Nat} (hx : OT C.N Γ x (IsV (mp g))) (hp : List.Perm L (Qi5 g enc V m k st :: R)) (hy : OT C.N Γ y (I64 (st : Int))) (hz : OT C.N Γ z (V v)) :
 Yp C Γ L ⟨dst, .entryStore t x y z, ty, pos, after, guard⟩ [Qi5 g enc V m k st] Unit (fun _ => Yu) (fun _ => [Qg g enc V (ptk k v m)]) (fun _ => True) := by
 intro a w H f s ow Q K' hK
 have o' := ow.perm hp
 obtain ⟨es, clock, hb, hR, j, e, h1, h2, h3, h4⟩ := o'.all _ List.mem_cons_self
 have hown := o'.own g (Xn (i := Qi5 g enc V m k st) List.mem_cons_self rfl)
 have hxv : a.eval x = .map (some g) := hx a H f
 have hyv : a.eval y = .int .i64 st := hy a H f
 obtain ⟨es', hr, hR'⟩ := Qhi (t := t) (P := C.P) hb hR h1 h3 h4 (hz a H f)
 have hrun : (execOp a.eval ⟨dst, .entryStore t x y z, ty, pos, after, guard⟩).run C.P w = .ok .skip (K1 w g es' clock) := by simp [execOp, hxv, hyv, ← h2, hr, Result.andThen]
 simp only [Oper.wp, hrun, Oper.upon_skip]
 refine hK () _ _ H trivial (Qde s.on hown.2.1 (Xn (i := Qi5 g enc V m k st) List.mem_cons_self rfl) _ _) trivial ?_
 exact Js (I := Qi5 g enc V m k st) rfl rfl ⟨_, _, Ue hb, hR'⟩ o' (by simp)
theorem Qgr {k : κ} {x y : α} : ∀ {m : List (κ × α)}, ptk k y (ptk k x m) = ptk k y m
 | [] => by simp [ptk]
 | (a, b) :: m => by
  unfold ptk
  by_cases e : a = k
  · simp [e, ptk]
  simp [e, ptk, Qgr]
theorem Ve {ts : Array TypeId} (mk : Ky C.P kt K enc) (ht : C.P.underlying t = some (.map kt et)) (hts : ts[0]? = some t) (hx : OT C.N Γ x (IsV (mp g))) (hp : List.Perm L (Qg g enc V m :: R)) (hy : OT C.N Γ y (K.T k)) :
 Yp C Γ L ⟨dst, .call ⟨.builtin .delete, #[x, y], ts⟩, ty, pos, after, guard⟩ [Qg g enc V m] Unit (fun _ => Yu) (fun _ => [Qg g enc V (dlk k m)]) (fun _ => True) := by
 intro a w H f s ow Q K' hK
 have o' := ow.perm hp
 obtain ⟨es, clock, hb, hR⟩ := o'.all _ List.mem_cons_self
 have hown := o'.own g (Xn (i := Qg g enc V m) List.mem_cons_self rfl)
 have hxv : a.eval x = .map (some g) := hx a H f
 have hyv : a.eval y = enc k := mk.val (hy a H f)
 obtain ⟨es', w', hr, rfl, hR'⟩ := Qoo (k := k) mk ht hb hR ty hts
 have hrun : (execOp a.eval ⟨dst, .call ⟨.builtin .delete, #[x, y], ts⟩, ty, pos, after, guard⟩).run C.P w = .ok (.value (.tuple #[])) (K1 w g es' clock) := by
  simp [execOp, resolve, invoke, builtin, hxv, hyv, hr, Result.andThen]
 simp only [Oper.wp, hrun, Oper.upon_value]
 refine hK () _ _ H trivial (Qde s.on hown.2.1 (Xn (i := Qg g enc V m) List.mem_cons_self rfl) _ _) trivial ?_
 exact Js (I := Qg g enc V m) rfl rfl ⟨_, _, Ue hb, hR'⟩ o' (by simp)
end
end Go.Gw
namespace Go.Gw
open Go Go.Shelf Go.RowKit Go.Sort Go.Proofs Go.So
section
variable {α : Type} [Inhabited α] {enc : α → Value} {w : World} {g cap n : Nat} {cur : Array Value} {e : TypeId} {os : Array Obj}
theorem Qrv {ss : List α} (hb : w.heap[g]? = some (.cells cur e (0, 0))) (ht : cur.toList.take ss.length = ss.map enc) : Holds enc w g 0 ss.toArray := by
 intro j hj
 have hj' : j < ss.length := by simpa using hj
 refine ⟨?_, by simp [World.frozen?, hb]⟩
 have h1 : (cur.toList.take ss.length)[j]? = (ss.map enc)[j]? := by rw [ht]
 rw [List.getElem?_take_of_lt hj'] at h1
 simp only [World.cell?, hb, Nat.zero_add, Option.isSome_none, Bool.false_eq_true, if_false]
 rw [← Array.getElem?_toList, h1]
 simp [hj']
theorem Qhl (d : Array α) : w.grownBy (sortWorld enc w g 0 n d os) (some g) := by
 unfold sortWorld
 refine ⟨rfl, rfl, rfl, by simp, fun k hk hne => ?_⟩
 rw [heap_grow_old _ _ (by simpa using hk)]
 have : g ≠ k := fun e => hne (by rw [e])
 simp [putRow, mapBlock, Sort.ahead, Array.getElem?_modify, this]
theorem Qop {ss ts : List α} (hl : ts.length = ss.length) (hb : w.heap[g]? = some (.cells cur e (0, 0))) (h1 : ss.length ≤ cap) (h2 : cap ≤ maxLen) (h3 : cur.size = cap * 1) :
 (sortWorld enc w g 0 n ts.toArray os).ownsRow 0 e 1 (.slice (some ⟨g, 0, none⟩) ss.length cap) ss.length (ts.map enc) := by
 have hg : g < w.heap.size := (Array.getElem?_eq_some_iff.1 hb).1
 refine ⟨by simp [hl], .inr ⟨g, cap, putCells enc 0 ts.toArray cur, rfl, Nat.zero_le _, ?_, h1, h2, ?_, ?_⟩⟩
 · unfold sortWorld
   rw [heap_grow_old _ _ (by simpa using hg)]
   simp [putRow, mapBlock, Sort.ahead, Array.getElem?_modify, hb, onCells]
 · simp [putCells, h3]
 rw [Nat.mul_one, ← hl]
 apply List.ext_getElem?
 intro j
 by_cases hj : j < ts.length
 · rw [List.getElem?_take_of_lt hj, Array.getElem?_toList]
   simp [putCells, hj, show j < cur.size by omega]
 rw [List.getElem?_take_eq_none (by omega), List.getElem?_eq_none (by simp; omega)]
end
abbrev Hd (Z : Qly) (H : FH) : Type := { p : Value × List Int // (Z.T p.2).p H p.1 }
theorem Qy9 {Z : Qly} {H : FH} : ∀ {xs : List (List Int)} {cs : List Value}, Ja (kG Z) H xs cs → ∃ ps : List (Hd Z H), cs = ps.map (·.1.1) ∧ ps.map (·.1.2) = xs := by
 intro xs cs h
 obtain ⟨h1, h2⟩ := h
 have h1 : cs.length = xs.length := by rw [h1]; exact Nat.mul_one _
 obtain ⟨ps, hp, hq⟩ := Qgp (p := fun i (v : Hd Z H) => cs[i]? = some v.1.1 ∧ xs[i]? = some v.1.2) xs.length fun i hi => by
  obtain ⟨v, hv, ht⟩ := h2 i _ (List.getElem?_eq_getElem hi)
  have hv : (cs.drop (i * 1)).take 1 = [v] := hv
  rw [Nat.mul_one, List.drop_eq_getElem_cons (by omega), List.take_succ_cons, List.take_zero] at hv
  have hv := (List.cons.inj hv).1
  exact ⟨⟨(v, xs[i]), ht⟩, by rw [List.getElem?_eq_getElem (by omega), hv], List.getElem?_eq_getElem hi⟩
 refine ⟨ps, ?_, ?_⟩
 · refine List.ext_getElem? fun i => ?_
   rw [List.getElem?_map]
   by_cases hi : i < xs.length
   · rw [List.getElem?_eq_getElem (by omega : i < ps.length), (hq i _ (List.getElem?_eq_getElem (by omega))).1]; rfl
   rw [List.getElem?_eq_none (by omega), List.getElem?_eq_none (by omega)]; rfl
 refine List.ext_getElem? fun i => ?_
 rw [List.getElem?_map]
 by_cases hi : i < xs.length
 · rw [List.getElem?_eq_getElem (by omega : i < ps.length), (hq i _ (List.getElem?_eq_getElem (by omega))).2]; rfl
 rw [List.getElem?_eq_none (by omega), List.getElem?_eq_none (by omega)]; rfl
theorem Qza {Z : Qly} {H : FH} (ps : List (Hd Z H)) : Ja (kG Z) H (ps.map (·.1.2)) (ps.map (·.1.1)) := by
 refine ⟨by rw [List.length_map, List.length_map]; exact (Nat.mul_one _).symm, fun j x h => ?_⟩
 have hj : j < ps.length := by have := (List.getElem?_eq_some_iff.1 h).1; simpa using this
 have hx : x = ps[j].1.2 := by have := (List.getElem?_eq_some_iff.1 h).2; simpa using this.symm
 refine ⟨ps[j].1.1, ?_, by rw [hx]; exact ps[j].2⟩
 show ((ps.map (·.1.1)).drop (j * 1)).take 1 = _
 rw [Nat.mul_one, List.drop_eq_getElem_cons (by simpa using hj), List.take_succ_cons, List.take_zero, List.getElem_map]
theorem Quu {α : Type} [Inhabited α] {ts : List α} {r : Array α} (h : Sort.PermIn 0 ts.length ts.toArray r) : r.toList.Perm ts := by
 have h1 : r.size = ts.length := by simpa using h.1
 have h2 := h.2.2
 have e1 : r.extract 0 ts.length = r := by rw [← h1]; exact Array.extract_size
 have e2 : ts.toArray.extract 0 ts.length = ts.toArray := by simp
 rw [e1, e2] at h2
 simpa using h2
theorem Qoq {α : Type} [Inhabited α] {lt : α → α → Bool} {n : Nat} {r : Array α} (h1 : r.size = n) (hs : Sort.SortedIn lt 0 n r) : r.toList.Pairwise fun x y => lt y x = false := by
 rw [List.pairwise_iff_getElem]
 intro i j hi hj hij
 have hi' : i < r.size := by simpa using hi
 have hj' : j < r.size := by simpa using hj
 have := hs i j (Nat.zero_le _) hij (by omega)
 rw [show r[i]! = r[i] from by simp [hi'], show r[j]! = r[j] from by simp [hj']] at this
 simpa using this
theorem Quv {P : Program} {ρ : Ren} (L : SlLaysF.n6 P ρ) {e : TypeId} (Z : Qly) (v : Value) (ts : List (List Int)) {g : FuncId} {c : List Int → List Int → Int} (hsz : ts.length < 4611686018427387904) (hO : SWO (ltc c)) (eg : enters P g = true) (hq : ∀ x y, Qu.Ct P g [(kG Z).T x, (kG Z).T y] (I64 (c x y))) :
 Ct P (ρ.f 6) [IsV v, IsV (.func (.func g) #[] #[])] [Qh e (kG Z) v ts] (List (List Int)) (fun _ => Yu) (fun rs => [Qh e (kG Z) v rs]) (fun rs => rs.Perm ts ∧ rs.Pairwise fun x y => ltc c y x = false) := by
 intro H w args hon hA hOw
 match args, hA with
 | [u, fv], hA =>
  obtain rfl : u = v := hA.1
  obtain rfl : fv = .func (.func g) #[] #[] := hA.2.1
  obtain ⟨inner, hr, hp⟩ := hOw.all _ List.mem_cons_self
  obtain ⟨ps, rfl, rfl⟩ := Qy9 hp
  rw [List.length_map] at hr hsz
  rcases hr.2 with ⟨rfl, h0⟩ | ⟨b, cap, cur, rfl, _, hb, h1, h2, h3, h4⟩
  · obtain rfl : ps = [] := List.eq_nil_of_length_eq_zero h0
    refine (AnyF.slices_SortFunc_none { L with } none 0 _ w).mono fun e' w' hp => ?_
    obtain ⟨rfl, rfl⟩ := hp
    exact ⟨[], _, H, rfl, ⟨List.Perm.refl _, List.Pairwise.nil⟩, St.refl hon, trivial, ⟨hOw.all, hOw.nodup, fun k hk => ⟨(hOw.own k hk).1, (hOw.own k hk).2.1, .inl hk⟩⟩⟩
  have hlt : b < w.heap.size := (Array.getElem?_eq_some_iff.1 hb).1
  have hown := hOw.own b (Xn (i := Qh e (kG Z) (.slice (some ⟨b, 0, none⟩) ps.length cap) (ps.map (·.1.2))) List.mem_cons_self rfl)
  cases hps : ps with
  | nil =>
   subst hps
   refine (AnyF.slices_SortFunc_none { L with } _ cap _ w).mono fun e' w' hp => ?_
   obtain ⟨rfl, rfl⟩ := hp
   exact ⟨[], _, H, rfl, ⟨List.Perm.refl _, List.Pairwise.nil⟩, St.refl hon, trivial, ⟨hOw.all, hOw.nodup, fun k hk => ⟨(hOw.own k hk).1, (hOw.own k hk).2.1, .inl hk⟩⟩⟩
  | cons p0 _ =>
   rw [← hps]
   letI : Inhabited (Hd Z H) := ⟨p0⟩
   have hcmp : CmpLays1 P g #[] (fun x : Hd Z H => x.1.1) (fun x y => c x.1.2 y.1.2) b 0 ps.toArray.size w := fun m os dk hd x y => by
    have hgr : w.grownBy (sortWorld (fun x : Hd Z H => x.1.1) w b 0 m dk os) (some b) := Qhl dk
    have hst : St (fun k => k = b) H w H (sortWorld (fun x : Hd Z H => x.1.1) w b 0 m dk os) := Y4 (row := some b) hon hgr fun k hk => by cases hk; exact ⟨hown.2.1, rfl⟩
    refine (hq x.1.2 y.1.2 H _ [x.1.1, y.1.1] hst.on ⟨x.2, y.2, trivial⟩).mono fun e' w' hp => ?_
    obtain ⟨rfl, v', rfl, hv⟩ := hp
    have hv : v' = .int .i64 (c x.1.2 y.1.2) := hv
    subst hv
    exact ⟨rfl, 0, #[], by rw [grow_empty]; rfl⟩
   have hswo : SWO (ltOf fun x y : Hd Z H => c x.1.2 y.1.2) := ⟨fun x => hO.irrefl x.1.2, fun x y z => hO.trans x.1.2 y.1.2 z.1.2, fun x y z => hO.ntrans x.1.2 y.1.2 z.1.2⟩
   have h1c : OneCell (fun x : Hd Z H => x.1.1) := fun x => by obtain ⟨A, n, c', h⟩ := Z.h x.2; show x.1.1.oneCell' = true; rw [h]; rfl
   have hH : Holds (fun x : Hd Z H => x.1.1) w b 0 ps.toArray := Qrv hb (by rw [← h4]; exact congrArg (fun n => List.take n cur.toList) (Nat.mul_one _).symm)
   refine (Any.slices_SortFunc L _ h1c _ hswo g #[] b 0 cap ps.toArray w (fun args w => Wp eg args w) hcmp hH hlt (by simpa using hsz)).mono fun e' w' hp => ?_
   obtain ⟨rfl, d', n, os, hP, hS, rfl⟩ := hp
   rw [show ps.toArray.size = ps.length from by simp] at hP hS
   have hpm := Quu hP
   have hl : d'.toList.length = ps.length := hpm.length_eq
   have hsr := Qoq (by simpa using hl) hS
   have hr := Qop (enc := fun x : Hd Z H => x.1.1) (w := w) (n := n) (os := os) hl hb h1 h2 h3
   have hgr : w.grownBy (sortWorld (fun x : Hd Z H => x.1.1) w b 0 n d' os) (some b) := Qhl d'
   refine ⟨d'.toList.map (·.1.2), _, H, rfl, ⟨hpm.map _, by rw [List.pairwise_map]; exact hsr⟩, Y4 (row := some b) hon hgr fun k hk => ?_, trivial, ?_⟩
   · cases hk; exact ⟨hown.2.1, Xn (i := Qh e (kG Z) (.slice (some ⟨b, 0, none⟩) ps.length cap) (ps.map (·.1.2))) List.mem_cons_self rfl⟩
   refine Js (I := Qh e (kG Z) (.slice (some ⟨b, 0, none⟩) ps.length cap) (ps.map (·.1.2))) (R := []) rfl rfl ⟨_, ?_, Qza _⟩ hOw hgr.size
   rw [List.length_map, hl]; exact hr
end Go.Gw
