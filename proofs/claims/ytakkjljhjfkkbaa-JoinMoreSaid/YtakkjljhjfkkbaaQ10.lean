/- The texts JnL, JnM, JnN, Jn7, Jn8, JnP, JnT, Jn12 of this claim, put together in their order. No condition of their own. -/
import Derived.Test.YtakkjljhjfkkbaaQ9
import Derived.Test.YtakkjljhjfkkbaaQ1
import Derived.Test.YtakkjljhjfkkbaaQ2
import Derived.Test.YtakkjljhjfkkbaaQ6
/- The order of atoms, of edges; more edges: what rows and results are then. Plain Lean. -/
namespace Go.Jn
open Go Go.Gw Go.Tu
set_option linter.unusedVariables false
set_option linter.unusedSimpArgs false
abbrev ats (v : Vw) : List Atm := v.2.2.2.1
abbrev outs (v : Vw) : List Lab := v.2.2.1
/-- The rows of a pattern. -/
def rowsV (v : Vw) (l : List Ed) : List Tp := rowsK (byLab l) (varsL (ats v)) (ats v)
theorem rowsV_spec (v : Vw) (l : List Ed) : (rowsV v l).Nodup ∧ ∀ r, r ∈ rowsV v l ↔ r.length = (varsL (ats v)).length ∧ Sat l (varsL (ats v)) (ats v) r := rows_spec l (ats v) (List.prefix_refl _)
theorem perm_mem {α : Type} [DecidableEq α] {l m : List α} (h1 : l.Nodup) (h2 : m.Nodup) (h : ∀ x, x ∈ l ↔ x ∈ m) : l.Perm m := (List.perm_ext_iff_of_nodup h1 h2).2 h
theorem map_nodup {α β : Type} {f : α → β} {l : List α} (hl : l.Nodup) (hf : ∀ a ∈ l, ∀ b ∈ l, f a = f b → a = b) : (l.map f).Nodup := by
  induction l with
  | nil => exact List.nodup_nil
  | cons a l ih =>
    obtain ⟨h1, h2⟩ := List.nodup_cons.1 hl
    rw [List.map_cons]
    refine List.nodup_cons.2 ⟨fun h => ?_, ih h2 fun x hx y hy => hf x (List.mem_cons_of_mem _ hx) y (List.mem_cons_of_mem _ hy)⟩
    obtain ⟨b, hb, e⟩ := List.mem_map.1 h
    have := hf b (List.mem_cons_of_mem _ hb) a List.mem_cons_self e
    subst this; exact h1 hb
theorem Sat.congr {l l' : List Ed} {V W : List Lab} {al bl : List Atm} {r s : Tp} (h : Sat l V al r) (hA : ∀ a ∈ bl, a ∈ al) (hE : ∀ e ∈ l, e ∈ l') (he : ∀ a ∈ bl, env W s a.1 = env V r a.1 ∧ env W s a.2.2 = env V r a.2.2) : Sat l' W bl s := fun a ha => by
  rw [(he a ha).1, (he a ha).2]
  exact hE _ (h a (hA a ha))
section
variable {v w : Vw} {l l' : List Ed}
end
theorem sub_len {α : Type} [DecidableEq α] {l m : List α} (h1 : l.Nodup) (h : ∀ x ∈ l, x ∈ m) (h2 : m.Nodup) : l.length ≤ m.length := by
  have hp : l.Perm (m.filter fun x => decide (x ∈ l)) := perm_mem h1 (h2.sublist List.filter_sublist) fun x => by
    rw [List.mem_filter]; simp only [decide_eq_true_eq]; exact ⟨fun hx => ⟨h x hx, hx⟩, fun hx => hx.2⟩
  rw [hp.length_eq]; exact List.length_filter_le _ _
/-! ### More edges -/
section
variable {v : Vw} {l : List Ed} {m : Ed}
theorem rowsK_more {al : List Atm} {V : List Lab} (hV : varsL al <+: V) : (∀ r ∈ rowsK (byLab l) V al, r ∈ rowsK (byLab (l ++ [m])) V al) ∧ (rowsK (byLab l) V al).length ≤ (rowsK (byLab (l ++ [m])) V al).length := by
  obtain ⟨n1, s1⟩ := rows_spec l al hV
  obtain ⟨n2, s2⟩ := rows_spec (l ++ [m]) al hV
  have hs : ∀ r ∈ rowsK (byLab l) V al, r ∈ rowsK (byLab (l ++ [m])) V al := fun r hr => by
    obtain ⟨h1, h2⟩ := (s1 r).1 hr
    exact (s2 r).2 ⟨h1, fun a ha => List.mem_append_left _ (h2 a ha)⟩
  exact ⟨hs, sub_len n1 hs n2⟩
theorem more_many (h : tooMany l (ats v)) : tooMany (l ++ [m]) (ats v) := by
  obtain ⟨k, hk, h1⟩ := h
  exact ⟨k, hk, Nat.lt_of_lt_of_le h1 (rowsK_more (varsL_take _ _)).2⟩
theorem more_code {a b : List Tp × Int} (ha : RowsSay v l a) (hb : RowsSay v (l ++ [m]) b) (h : a.2 ≠ 0 ∨ b.2 ≠ 0) : a.2 = b.2 ∨ b.2 = 5 := by
  rcases ha with ⟨x1, rfl⟩ | ⟨x1, x2, rfl⟩ | ⟨x1, x2, rfl⟩ <;> rcases hb with ⟨y1, rfl⟩ | ⟨y1, y2, rfl⟩ | ⟨y1, y2, rfl⟩
  · exact .inl rfl
  · exact .inr rfl
  · rw [x1] at y1; cases y1
  · rw [x1] at y1; cases y1
  · exact .inr rfl
  · exact absurd (more_many x2) y2
  · rw [x1] at y1; cases y1
  · exact .inr rfl
  · simp at h
theorem more_sub {a b : List Tp × Int} (ha : RowsSay v l a) (hb : RowsSay v (l ++ [m]) b) (h1 : a.2 = 0) (h2 : b.2 = 0) : ∀ r ∈ a.1, r ∈ b.1 := by
  obtain ⟨_, _, e1⟩ := rows_ok ha h1
  obtain ⟨_, _, e2⟩ := rows_ok hb h2
  rw [e1, e2]
  intro r hr
  exact ((setR_spec _).2 r).2 ((rowsK_more (List.prefix_refl _)).1 r (((setR_spec _).2 r).1 hr))
theorem more_new {a b : List Tp × Int} (ha : RowsSay v l a) (hb : RowsSay v (l ++ [m]) b) (h1 : a.2 = 0) (h2 : b.2 = 0) {r : Tp} (hr : r ∈ b.1) (hn : r ∉ a.1) : r.length = (varsL (ats v)).length ∧ ∃ x ∈ ats v, m = (env (varsL (ats v)) r x.1, x.2.1, env (varsL (ats v)) r x.2.2) := by
  obtain ⟨_, _, e1⟩ := rows_ok ha h1
  obtain ⟨_, _, e2⟩ := rows_ok hb h2
  rw [e2] at hr
  rw [e1] at hn
  obtain ⟨h3, h4⟩ := ((rowsV_spec v (l ++ [m])).2 r).1 (((setR_spec _).2 r).1 hr)
  refine ⟨h3, Classical.byContradiction fun hno => hn (((setR_spec _).2 r).2 (((rowsV_spec v l).2 r).2 ⟨h3, fun x hx => ?_⟩))⟩
  rcases List.mem_append.1 (h4 x hx) with h5 | h5
  · exact h5
  · exact absurd ⟨x, hx, (by simpa using h5 : _ = m).symm⟩ hno
end
end Go.Jn
/- A pattern beside itself with other names; a great pattern. Plain Lean. -/
namespace Go.Jn
open Go Go.Gw Go.Tu
set_option linter.unusedVariables false
set_option linter.unusedSimpArgs false
def turnB (b : UInt8) : UInt8 := UInt8.ofNat (97 + (b.toNat - 97 + 13) % 26)
def turnL : Lab → Lab
  | [] => []
  | b :: t => turnB b :: t
def tA (a : Atm) : Atm := (turnL a.1, a.2.1, turnL a.2.2)
theorem turnB_nat (b : UInt8) : (turnB b).toNat = 97 + (b.toNat - 97 + 13) % 26 := by
  unfold turnB
  have : (b.toNat - 97 + 13) % 26 < 26 := Nat.mod_lt _ (by decide)
  simp; omega
theorem low_iff {b : UInt8} : isLow b = true ↔ 97 ≤ b.toNat ∧ b.toNat ≤ 122 := by unfold isLow; simp
theorem turnB_inj {b c : UInt8} (hb : isLow b = true) (hc : isLow c = true) (h : turnB b = turnB c) : b = c := by
  have e := congrArg UInt8.toNat h
  rw [turnB_nat, turnB_nat] at e
  rw [low_iff] at hb hc
  exact UInt8.toNat_inj.1 (by omega)
theorem name_iff {s : Lab} : nameB s = true ↔ 0 < s.length ∧ s.length ≤ 16 ∧ ∀ b ∈ s, isLow b = true := by unfold nameB; simp [and_assoc]
theorem turnL_inj {s t : Lab} (hs : nameB s = true) (ht : nameB t = true) (h : turnL s = turnL t) : s = t := by
  rw [name_iff] at hs ht
  cases s with
  | nil => simp at hs
  | cons b s =>
    cases t with
    | nil => simp at ht
    | cons c t =>
      simp only [turnL, List.cons.injEq] at h
      rw [turnB_inj (hs.2.2 b List.mem_cons_self) (ht.2.2 c List.mem_cons_self) h.1, h.2]
theorem addV_app {V out : List Lab} {x : Lab} (h : x ∉ V) : addV (V ++ out) x = V ++ addV out x := by
  unfold addV
  by_cases hx : x ∈ out
  · rw [if_pos (by simp [hx]), if_pos (by simpa using hx)]
  · rw [if_neg (by simp [h, hx]), if_neg (by simpa using hx), List.append_assoc]
theorem vars_app {V : List Lab} : ∀ (B : List Atm) (out : List Lab), (∀ b ∈ B, b.1 ∉ V ∧ b.2.2 ∉ V) → B.foldl addA (V ++ out) = V ++ B.foldl addA out
  | [], out, _ => rfl
  | b :: B, out, h => by
    have h1 := h b List.mem_cons_self
    rw [List.foldl_cons, List.foldl_cons, addA, addV_app h1.1, addV_app h1.2, vars_app B _ fun c hc => h c (List.mem_cons_of_mem _ hc)]
    rfl
theorem vars_two {A B : List Atm} (h : ∀ b ∈ B, b.1 ∉ varsL A ∧ b.2.2 ∉ varsL A) : varsL (A ++ B) = varsL A ++ varsL B := by
  have := vars_app B [] h
  rw [List.append_nil] at this
  unfold varsL at this ⊢
  rw [List.foldl_append]; exact this
theorem addV_map {out : List Lab} {x : Lab} (hi : ∀ y ∈ out, turnL y = turnL x → y = x) : addV (out.map turnL) (turnL x) = (addV out x).map turnL := by
  unfold addV
  by_cases hx : x ∈ out
  · rw [if_pos (by simpa using ⟨x, hx, rfl⟩), if_pos (by simpa using hx)]
  · rw [if_neg, if_neg (by simpa using hx), List.map_append]; rfl
    simp only [List.contains_iff_mem, List.mem_map, not_exists, not_and]
    exact fun y hy e => hx (hi y hy e ▸ hy)
theorem vars_map : ∀ (B : List Atm) (out : List Lab), (∀ y ∈ out, nameB y = true) → (∀ b ∈ B, nameB b.1 = true ∧ nameB b.2.2 = true) → (B.map tA).foldl addA (out.map turnL) = (B.foldl addA out).map turnL
  | [], out, _, _ => rfl
  | b :: B, out, ho, hB => by
    obtain ⟨n1, n2⟩ := hB b List.mem_cons_self
    rw [List.map_cons, List.foldl_cons, List.foldl_cons]
    have h1 : ∀ y ∈ addV out b.1, nameB y = true := fun y hy => by rcases addV_mem.1 hy with h | h; exact ho y h; rw [h]; exact n1
    have h2 : ∀ y ∈ addA out b, nameB y = true := fun y hy => by rcases addV_mem.1 hy with h | h; exact h1 y h; rw [h]; exact n2
    rw [show addA (out.map turnL) (tA b) = (addA out b).map turnL from by
      unfold addA tA
      rw [addV_map fun y hy e => turnL_inj (ho y hy) n1 e, addV_map fun y hy e => turnL_inj (h1 y hy) n2 e]]
    exact vars_map B _ h2 fun c hc => hB c (List.mem_cons_of_mem _ hc)
theorem vars_turn {A : List Atm} (hA : ∀ b ∈ A, nameB b.1 = true ∧ nameB b.2.2 = true) : varsL (A.map tA) = (varsL A).map turnL := vars_map A [] (fun y hy => by cases hy) hA
theorem idx_map {V : List Lab} {x : Lab} (hx : x ∈ V) (hi : ∀ y ∈ V, turnL y = turnL x → y = x) : (V.map turnL).idxOf (turnL x) = V.idxOf x := by
  induction V with
  | nil => cases hx
  | cons y V ih =>
    rw [List.map_cons, List.idxOf_cons, List.idxOf_cons]
    by_cases e : y = x
    · subst e; simp
    · have e2 : ¬ turnL y = turnL x := fun h => e (hi y List.mem_cons_self h)
      simp only [beq_iff_eq, e, e2, if_false, cond_false, beq_eq_false_iff_ne.2 e, beq_eq_false_iff_ne.2 e2]
      rcases List.mem_cons.1 hx with h | h
      · exact absurd h.symm e
      · rw [ih h fun z hz => hi z (List.mem_cons_of_mem _ hz)]
section
variable {v w : Vw} {l : List Ed}
structure Prod2 (v w : Vw) : Prop where
  nm : w.1 = v.1
  kd : w.2.1 = v.2.1
  out : outs w = outs v
  lb : w.2.2.2.2 = v.2.2.2.2
  at_ : ats w = ats v ++ (ats v).map tA
  few : (ats v).length ≤ 3
  ok : okV v = true
  no : ∀ x ∈ (ats v).map tA, ∀ y ∈ ats v, x.1 ≠ y.1 ∧ x.1 ≠ y.2.2 ∧ x.2.2 ≠ y.1 ∧ x.2.2 ≠ y.2.2
theorem names_of (h : okV v = true) : ∀ b ∈ ats v, nameB b.1 = true ∧ nameB b.2.1 = true ∧ nameB b.2.2 = true := by
  unfold okV patB at h
  simp only [Bool.and_eq_true, List.all_eq_true] at h
  intro b hb
  have := h.1.2.2 b hb
  exact ⟨this.1.1, this.1.2, this.2⟩
theorem Prod2.vars (h : Prod2 v w) : varsL (ats w) = varsL (ats v) ++ (varsL (ats v)).map turnL := by
  have hn := names_of h.ok
  rw [h.at_, vars_two, vars_turn fun b hb => ⟨(hn b hb).1, (hn b hb).2.2⟩]
  intro b hb
  refine ⟨fun hm => ?_, fun hm => ?_⟩
  · obtain ⟨a, ha, e⟩ := varsL_mem.1 hm
    have := h.no b hb a ha
    rcases e with e | e
    · exact this.1 e
    · exact this.2.1 e
  · obtain ⟨a, ha, e⟩ := varsL_mem.1 hm
    have := h.no b hb a ha
    rcases e with e | e
    · exact this.2.2.1 e
    · exact this.2.2.2 e
theorem var_name (h : okV v = true) {x : Lab} (hx : x ∈ varsL (ats v)) : nameB x = true := by
  obtain ⟨a, ha, e⟩ := varsL_mem.1 hx
  have := names_of h a ha
  rcases e with rfl | rfl
  · exact this.1
  · exact this.2.2
theorem Prod2.apart (h : Prod2 v w) {x : Lab} (hx : x ∈ varsL (ats v)) : turnL x ∉ varsL (ats v) := by
  intro hm
  have hd := varsL_nodup (ats w)
  rw [h.vars] at hd
  exact (List.nodup_append.1 hd).2.2 _ hm _ (List.mem_map_of_mem hx) rfl
theorem env_left {V W : List Lab} {r s : Tp} {x : Lab} (hl : r.length = V.length) (hx : x ∈ V) : env (V ++ W) (r ++ s) x = env V r x := by
  unfold env ix
  have h1 := List.idxOf_lt_length_of_mem hx
  rw [List.idxOf_append, if_pos hx, List.getD_eq_getElem?_getD, List.getD_eq_getElem?_getD, List.getElem?_append_left (by omega)]
theorem env_right {V W : List Lab} {r s : Tp} {x : Lab} (hl : r.length = V.length) (hx : x ∉ V) : env (V ++ W) (r ++ s) x = env W s x := by
  unfold env ix
  rw [List.idxOf_append, if_neg hx, List.getD_eq_getElem?_getD, List.getD_eq_getElem?_getD, List.getElem?_append_right (by omega)]
  congr 2; omega
theorem env_turn {V : List Lab} {s : Tp} {x : Lab} (hx : x ∈ V) (hn : ∀ y ∈ V, nameB y = true) : env (V.map turnL) s (turnL x) = env V s x := by
  unfold env ix
  rw [idx_map hx fun y hy e => turnL_inj (hn y hy) (hn x hx) e]
theorem Prod2.rows (h : Prod2 v w) : (rowsV w l).Perm ((rowsV v l).flatMap fun r => (rowsV v l).map fun s => r ++ s) := by
  obtain ⟨n1, s1⟩ := rowsV_spec v l
  obtain ⟨n2, s2⟩ := rowsV_spec w l
  have hv := h.vars
  have hnm : ∀ y ∈ varsL (ats v), nameB y = true := fun y hy => var_name h.ok hy
  refine perm_mem n2 (nodup_flat (fun r hr => map_nodup n1 fun a ha b hb e => by simpa using e) ?_) fun t => ?_
  · refine n1.imp_of_mem ?_
    intro a b ha hb hne x hx hx2
    obtain ⟨s, hs, rfl⟩ := List.mem_map.1 hx
    obtain ⟨s', hs', e⟩ := List.mem_map.1 hx2
    have l1 := ((s1 a).1 ha).1
    have l2 := ((s1 b).1 hb).1
    exact hne (List.append_inj_left e (by omega)).symm
  · rw [s2, List.mem_flatMap]
    constructor
    · rintro ⟨h1, h2⟩
      rw [hv, List.length_append, List.length_map] at h1
      have hl1 : (t.take (varsL (ats v)).length).length = (varsL (ats v)).length := by rw [List.length_take]; omega
      have hl2 : (t.drop (varsL (ats v)).length).length = (varsL (ats v)).length := by rw [List.length_drop]; omega
      have ht := List.take_append_drop (varsL (ats v)).length t
      refine ⟨t.take (varsL (ats v)).length, (s1 _).2 ⟨hl1, fun a ha => ?_⟩, List.mem_map.2 ⟨t.drop (varsL (ats v)).length, (s1 _).2 ⟨hl2, fun a ha => ?_⟩, ht⟩⟩
      · have h3 := h2 a (by rw [h.at_]; exact List.mem_append_left _ ha)
        rw [hv, ← ht, env_left hl1 (varsL_mem.2 ⟨a, ha, .inl rfl⟩), env_left hl1 (varsL_mem.2 ⟨a, ha, .inr rfl⟩)] at h3
        exact h3
      · have h3 := h2 (tA a) (by rw [h.at_]; exact List.mem_append_right _ (List.mem_map_of_mem ha))
        have m1 : a.1 ∈ varsL (ats v) := varsL_mem.2 ⟨a, ha, .inl rfl⟩
        have m2 : a.2.2 ∈ varsL (ats v) := varsL_mem.2 ⟨a, ha, .inr rfl⟩
        unfold tA at h3
        rw [hv, ← ht, env_right hl1 (h.apart m1), env_right hl1 (h.apart m2), env_turn m1 hnm, env_turn m2 hnm] at h3
        exact h3
    · rintro ⟨r, hr, ht⟩
      obtain ⟨s, hs, rfl⟩ := List.mem_map.1 ht
      obtain ⟨l1, q1⟩ := (s1 r).1 hr
      obtain ⟨l2, q2⟩ := (s1 s).1 hs
      rw [hv]
      refine ⟨by simp [l1, l2], fun a ha => ?_⟩
      rw [h.at_] at ha
      rcases List.mem_append.1 ha with ha | ha
      · rw [env_left l1 (varsL_mem.2 ⟨a, ha, .inl rfl⟩), env_left l1 (varsL_mem.2 ⟨a, ha, .inr rfl⟩)]
        exact q1 a ha
      · obtain ⟨b, hb, rfl⟩ := List.mem_map.1 ha
        have m1 : b.1 ∈ varsL (ats v) := varsL_mem.2 ⟨b, hb, .inl rfl⟩
        have m2 : b.2.2 ∈ varsL (ats v) := varsL_mem.2 ⟨b, hb, .inr rfl⟩
        unfold tA
        rw [env_right l1 (h.apart m1), env_right l1 (h.apart m2), env_turn m1 hnm, env_turn m2 hnm]
        exact q2 b hb
end
end Go.Jn
/- A great pattern: n edges and m edges of one node; the document's example. Plain Lean. -/
namespace Go.Jn
open Go Go.Gw Go.Tu
set_option linter.unusedVariables false
set_option linter.unusedSimpArgs false
/-! ### The document's example -/
abbrev vW : Vw := ([103], 1, [[120]], [([120], [97], [121])], [])
abbrev eW : List Ed := [(1, [97], 2), (2, [97], 3), (1, [97], 3)]
theorem awake_law {r : List Tp × List Int × Int} (h : ResSay vW eW r) : r = ([[1], [2]], [2, 1], 0) := by
  have hok : okV vW = true := by decide
  have hR : rowsK (byLab eW) (varsL (ats vW)) (ats vW) = [[1, 2], [2, 3], [1, 3]] := by decide +kernel
  have hn : ¬ tooMany eW (ats vW) := by
    rintro ⟨k, hk, h1⟩
    have hk2 : k ≤ 1 := hk
    match k, hk2 with
    | 0, _ => exact absurd h1 (by show ¬ 3000 < 1; omega)
    | 1, _ => rw [show (ats vW).take 1 = ats vW from rfl, hR] at h1; exact absurd h1 (by decide)
  rcases h with ⟨y1, _⟩ | ⟨_, y2, _⟩ | ⟨_, y2, rfl⟩
  · rw [hok] at y1; cases y1
  · exact absurd y2 hn
  · have ha : allOf vW eW = [[1], [1], [2]] := by
      unfold allOf
      rw [show rowsK (byLab eW) (varsL vW.2.2.2.1) vW.2.2.2.1 = [[1, 2], [2, 3], [1, 3]] from hR]
      decide +kernel
    rw [ha]
    have h1 : setR ([[1], [1], [2]] : List Tp) = [[1], [2]] := by decide +kernel
    rw [h1]
    unfold countsOf
    rw [h1]
    rfl
end Go.Jn
namespace Go.Jn
open Go Go.Gw Go.Tu
def fitsB (v : Vw) (l : List Ed) : Bool := decide ((l.length : Int) ≤ 25) && decide ((v.2.2.2.1.length : Int) ≤ 12) && decide ((v.2.2.1.length : Int) ≤ 12)
theorem fits_iff {v : Vw} {l : List Ed} : fitsB v l = true ↔ l.length ≤ 25 ∧ (ats v).length ≤ 12 ∧ (outs v).length ≤ 12 := by
  unfold fitsB ats outs
  simp only [Bool.and_eq_true, decide_eq_true_eq]
  omega
end Go.Jn
/- Walks through the Go functions slices.Clip[[]int,int], join.Result, as typed contracts. -/
namespace Go.Proofs.Ytakkjljhjfkkbaa
open Go Go.Gw Go.So Go.Tu Go.Jn
set_option linter.unusedVariables false
set_option linter.unusedSimpArgs false
theorem take_at2 {α : Type} [Inhabited α] {l : List α} {k : Nat} (h : k < l.length) : l.take (k + 1) = l.take k ++ [at' l (k : Int)] := by rw [at'_nat h, List.take_succ_eq_append_getElem h]

set_option maxRecDepth 20000 in
/-- slices.Clip[[]int,int] -/
theorem ClipI_fn (xs : List Int) : Ct Try.prog 23 [FreshT noK 0 kI xs] ([]) Unit (fun _ => SlT kI xs) (fun _ => []) (fun _ => True) := by
  refine fn_intro Try.func23 rfl rfl ?_
  intro H w
  refine tr_seq ?_
  -- region 0
  refine tr_env (es_cons (t := 0) (OT.tmp rfl) es_nil) ?_
  refine tr_region ?_
  refine op_pure (pu_assign OT.const) rfl rfl ?_
  refine tr_nil ?_
  refine then_normal ?_
  refine tr_seq ?_
  -- region 1
  refine tr_env (es_cons (t := 0) (OT.tmp rfl) es_nil) ?_
  refine tr_region ?_
  refine op_pure (pu_move (OT.tmp rfl)) rfl rfl ?_
  refine op_pure (pu_move (OT.tmp rfl)) rfl rfl ?_
  refine tr_as 4 (OT.fresh (OT.tmp rfl)) ?_
  refine op_pure (pu_len_sl (OT.tmp rfl) Try.underlying36) rfl rfl ?_
  refine op_pure (pu_move (OT.tmp rfl)) rfl rfl ?_
  refine tr_as 6 (OT.fresh (OT.tmp rfl)) ?_
  refine op_pure (pu_len_sl (OT.tmp rfl) Try.underlying36) rfl rfl ?_
  refine op_pure (pu_clip (OT.tmp rfl) (OT.tmp rfl) (OT.tmp rfl) Try.underlying36 (show tyOk Try.prog 3 false 1 = true from by decide +kernel)) rfl rfl ?_
  refine op_pure (pu_assign (OT.tmp rfl)) rfl rfl ?_
  refine tr_nil ?_
  refine then_normal ?_
  refine tr_ret ?_
  exact ret_one .ret (.inl rfl) rfl () (OT.fresh (OT.unclip (OT.tmp rfl))) trivial (by exact picks_nil)
set_option maxRecDepth 20000 in
/-- rhizome/join.Result -/
theorem Result_fn (v : Vw) (l : List Ed) (ho : v.2.2.1.length ≤ maxLen) (ha : v.2.2.2.1.length ≤ maxLen) (hm : l.length ≤ 1000000) : Ct Try.prog 10 [kV.T v, SlT kE l] ([]) (List Tp × List Int × Int) (fun r => TupT [SlT kT r.1, SlT kI r.2.1, I64 r.2.2]) (fun _ => []) (fun r => ResSay v l r) := by
  refine fn_intro Try.func10 rfl rfl ?_
  intro H w
  have ho0 := ho; have ha0 := ha; unfold maxLen at ho ha
  refine tr_seq ?_
  -- region 0
  refine tr_env (es_cons (t := 0) (OT.tmp rfl) (es_cons (t := 1) (OT.tmp rfl) es_nil)) ?_
  refine tr_region ?_
  refine op_acts (acts_box (d := kV) (OT.tmp rfl)) (List.Perm.refl _) rfl rfl (fun g0_0 _ => ?_)
  refine op_pure (pu_assign OT.const) rfl rfl ?_
  refine op_pure (pu_assign OT.const) rfl rfl ?_
  refine op_pure (pu_assign OT.const) rfl rfl ?_
  refine tr_nil ?_
  refine then_normal ?_
  refine tr_seq ?_
  -- region 1
  refine tr_env (es_cons (t := 1) (OT.tmp rfl) (es_cons (t := 2) (OT.tmp rfl) es_nil)) ?_
  refine tr_region ?_
  refine op_pure (pu_load_var (OT.tmp rfl) (by exact mem_at 0 rfl) (show tyOk Try.prog 25 true 5 = true from by decide +kernel)) rfl rfl ?_
  refine op_pure (pu_move (OT.tmp rfl)) rfl rfl ?_
  refine op_acts (acts_call (Rows_fn _ _ ho0 ha0 (by omega)) (show enters Try.prog 13 = true from by decide +kernel) (OTs.cons (OT.tmp rfl) (OTs.cons (OT.tmp rfl) OTs.nil)) (List.Perm.refl _)) (List.Perm.refl _) rfl rfl (fun r1_2 hr1_2 => ?_)
  refine op_pure (pu_move (OT.tmp rfl)) rfl rfl ?_
  refine op_pure (pu_extract (OT.tmp rfl) rfl) rfl rfl ?_
  refine op_pure (pu_extract (OT.tmp rfl) rfl) rfl rfl ?_
  refine op_pure (pu_assign (OT.tmp rfl)) rfl rfl ?_
  refine op_pure (pu_assign (OT.tmp rfl)) rfl rfl ?_
  refine tr_nil ?_
  refine then_normal ?_
  refine tr_seq ?_
  refine tr_seq ?_
  -- region 2
  refine tr_env (es_cons (t := 2) (OT.tmp rfl) (es_cons (t := 7) (OT.tmp rfl) (es_cons (t := 8) (OT.tmp rfl) es_nil))) ?_
  refine tr_region ?_
  refine op_pure (pu_move (OT.tmp rfl)) rfl rfl ?_
  refine op_pure (pu_neq (OT.tmp rfl) OT.const) rfl rfl ?_
  refine tr_nil ?_
  refine then_normal ?_
  refine tr_cond (OT.tmp rfl) (fun c28 => ?_) (fun c28 => ?_)
  · skip
    refine tr_seq ?_
    -- region 3
    refine tr_env (es_cons (t := 8) (OT.tmp rfl) es_nil) ?_
    refine tr_region ?_
    refine op_pure (pu_move (OT.tmp rfl)) rfl rfl ?_
    refine op_pure (pu_assign OT.const) rfl rfl ?_
    refine op_pure (pu_assign OT.const) rfl rfl ?_
    refine op_pure (pu_assign (OT.tmp rfl)) rfl rfl ?_
    refine tr_nil ?_
    refine then_normal ?_
    refine tr_ret ?_
    refine then_ret ?_
    exact ret_three .ret (.inl rfl) rfl ([], [], r1_2.2) (OT.conv (OT.tmp rfl) (fun H u h => nil_slt h)) (OT.conv (OT.tmp rfl) (fun H u h => nil_slt h)) (OT.tmp rfl) (fun _ _ h => h) (res_err hr1_2 (by simpa using c28)) (by exact picks_nil)
  · skip
    obtain ⟨hok, hnm, hr1⟩ := rows_ok hr1_2 (by simpa using c28)
    obtain ⟨rows, hrw⟩ : ∃ x, r1_2.1 = x := ⟨_, rfl⟩
    rw [hrw] at hr1
    obtain ⟨hrn, hrl, hol, hvl, hout⟩ := rows_facts hok hnm hr1
    have hal8 := (okV_pat (v := v) (by rw [hok]; rfl)).2.2.2
    refine tr_skip ?_
    refine then_normal ?_
    refine tr_seq ?_
    -- region 4
    refine tr_env (es_cons (t := 2) (OT.tmp rfl) (es_cons (t := 7) (OT.tmp rfl) es_nil)) ?_
    rw [hrw]
    refine tr_region ?_
    refine op_pure (pu_load_var (OT.tmp rfl) (by exact mem_at 0 rfl) (show tyOk Try.prog 25 true 5 = true from by decide +kernel)) rfl rfl ?_
    refine op_acts (acts_call (Vars_fn _ (by omega)) (show enters Try.prog 18 = true from by decide +kernel) (OTs.cons (OT.tmp rfl) OTs.nil) (List.Perm.refl _)) (List.Perm.refl _) rfl rfl (fun _ _ => ?_)
    refine op_pure (pu_assign (OT.tmp rfl)) rfl rfl ?_
    refine tr_nil ?_
    refine then_normal ?_
    refine tr_seq ?_
    -- region 5
    refine tr_env (es_cons (t := 2) (OT.tmp rfl) (es_cons (t := 7) (OT.tmp rfl) (es_cons (t := 9) (OT.tmp rfl) es_nil))) ?_
    refine tr_region ?_
    refine op_pure (pu_assign OT.const) rfl rfl ?_
    refine tr_nil ?_
    refine then_normal ?_
    refine tr_seq ?_
    refine tr_seq ?_
    -- region 6
    refine tr_env (es_cons (t := 2) (OT.tmp rfl) (es_cons (t := 7) (OT.tmp rfl) (es_cons (t := 9) (OT.tmp rfl) (es_cons (t := 10) (OT.tmp rfl) es_nil)))) ?_
    refine tr_nilItem 45 kT ?_
    refine tr_region ?_
    refine op_pure (pu_move (OT.tmp rfl)) rfl rfl ?_
    refine op_pure (pu_len_sl (OT.tmp rfl) Try.underlying35) rfl rfl ?_
    refine op_pure (pu_move OT.const) rfl rfl ?_
    refine tr_nil ?_
    refine then_normal ?_
    refine tr_block ?_
    refine tr_loopK (σ := Nat × Value) (es_cons (t := 2) (OT.tmp rfl) (es_cons (t := 9) (OT.tmp rfl) (es_cons (t := 32) (OT.tmp rfl) (es_cons (t := 33) (OT.tmp rfl) es_nil)))) (fun s => [(34, I64 (s.1 : Int)), (10, IsV s.2)]) (fun s => [OwnI 45 kT s.2 ((rows.take s.1).map (proj (varsL v.2.2.2.1) v.2.2.1)), BlkI g0_0 25 kV v]) (fun s => s.1 ≤ rows.length) (fun s => rows.length - s.1) (0, nilS) (Nat.zero_le _) ?_ (own_picks (by repeat (first | exact picks_nil | refine picks_cons 0 rfl ?_ | refine picks_cons 1 rfl ?_ | refine picks_cons 2 rfl ?_ | refine picks_cons 3 rfl ?_ | refine picks_cons 4 rfl ?_ | refine picks_cons 5 rfl ?_ | refine picks_cons 6 rfl ?_ | refine picks_cons 7 rfl ?_ | refine picks_cons 8 rfl ?_))) ?_
    · exact (es_cons (t := 34) (by exact OT.tmp rfl) (es_cons (t := 10) (by exact OT.tmp rfl) es_nil))
    · rintro ⟨i, va⟩ hi
      dsimp only at hi ⊢
      refine tr_seq ?_
      -- region 7
      refine tr_env (es_cons (t := 2) (OT.tmp rfl) (es_cons (t := 9) (OT.tmp rfl) (es_cons (t := 10) (OT.tmp rfl) (es_cons (t := 32) (OT.tmp rfl) (es_cons (t := 33) (OT.tmp rfl) (es_cons (t := 34) (OT.tmp rfl) es_nil)))))) ?_
      refine tr_region ?_
      refine op_pure (pu_lss (OT.tmp rfl) (OT.tmp rfl)) rfl rfl ?_
      refine tr_nil ?_
      refine then_normal ?_
      refine tr_seq ?_
      refine tr_cond (OT.tmp rfl) (fun c35 => ?_) (fun c35 => ?_)
      · skip
        refine tr_skip ?_
        refine then_normal ?_
        refine tr_seq ?_
        refine tr_block ?_
        refine tr_seq ?_
        -- region 8
        refine tr_env (es_cons (t := 2) (OT.tmp rfl) (es_cons (t := 9) (OT.tmp rfl) (es_cons (t := 10) (OT.tmp rfl) (es_cons (t := 32) (OT.tmp rfl) (es_cons (t := 33) (OT.tmp rfl) (es_cons (t := 34) (OT.tmp rfl) es_nil)))))) ?_
        have hir : i < rows.length := by simpa using c35
        obtain ⟨row, hrow⟩ : ∃ r, at' rows (i : Int) = r := ⟨_, rfl⟩
        have hrwl := hrl row (by rw [← hrow]; exact at_mem hir)
        have hst2 := map_snoc (proj (varsL v.2.2.2.1) v.2.2.1) hir
        rw [hrow] at hst2
        refine tr_region ?_
        refine op_pure (pu_index (OT.tmp rfl) (OT.tmp rfl) Try.underlying35 (show tyOk Try.prog 45 false 1 = true from by decide +kernel) (by omega) (by omega)) rfl rfl ?_
        refine op_pure (pu_load (OT.tmp rfl) (show tyOk Try.prog 45 false 1 = true from by decide +kernel)) rfl rfl ?_
        refine op_pure (pu_assign (OT.tmp rfl)) rfl rfl ?_
        refine tr_nil ?_
        refine then_normal ?_
        refine tr_seq ?_
        -- region 9
        refine tr_env (es_cons (t := 2) (OT.tmp rfl) (es_cons (t := 9) (OT.tmp rfl) (es_cons (t := 10) (OT.tmp rfl) (es_cons (t := 12) (OT.tmp rfl) (es_cons (t := 32) (OT.tmp rfl) (es_cons (t := 33) (OT.tmp rfl) (es_cons (t := 34) (OT.tmp rfl) es_nil))))))) ?_
        rw [hrow]
        refine tr_region ?_
        refine op_pure (pu_assign OT.const) rfl rfl ?_
        refine tr_nil ?_
        refine then_normal ?_
        refine tr_seq ?_
        refine tr_seq ?_
        -- region 10
        refine tr_env (es_cons (t := 2) (OT.tmp rfl) (es_cons (t := 9) (OT.tmp rfl) (es_cons (t := 10) (OT.tmp rfl) (es_cons (t := 12) (OT.tmp rfl) (es_cons (t := 13) (OT.tmp rfl) (es_cons (t := 32) (OT.tmp rfl) (es_cons (t := 33) (OT.tmp rfl) (es_cons (t := 34) (OT.tmp rfl) es_nil)))))))) ?_
        refine tr_nilItem 3 kI ?_
        refine tr_region ?_
        refine op_pure (pu_faddr (OT.tmp rfl) (show fieldOk Try.prog 25 2 2 false 1 = true from by decide +kernel)) rfl rfl ?_
        refine op_pure (pu_load_blk (OT.tmp rfl) (by exact mem_at 2 rfl) lv2 (show tyOk Try.prog 22 false 1 = true from by decide +kernel)) rfl rfl ?_
        refine op_pure (pu_len_sl (OT.tmp rfl) Try.underlying22) rfl rfl ?_
        refine op_pure (pu_move OT.const) rfl rfl ?_
        refine tr_nil ?_
        refine then_normal ?_
        refine tr_block ?_
        refine tr_loopK (σ := Nat × Value) (es_cons (t := 2) (OT.tmp rfl) (es_cons (t := 9) (OT.tmp rfl) (es_cons (t := 10) (OT.tmp rfl) (es_cons (t := 12) (OT.tmp rfl) (es_cons (t := 32) (OT.tmp rfl) (es_cons (t := 33) (OT.tmp rfl) (es_cons (t := 34) (OT.tmp rfl) (es_cons (t := 39) (OT.tmp rfl) (es_cons (t := 40) (OT.tmp rfl) es_nil))))))))) (fun s => [(41, I64 (s.1 : Int)), (13, IsV s.2)]) (fun s => [OwnI 3 kI s.2 ((v.2.2.1.take s.1).map (fun o => env (varsL v.2.2.2.1) row o)), OwnI 45 kT va ((rows.take i).map (proj (varsL v.2.2.2.1) v.2.2.1)), BlkI g0_0 25 kV v]) (fun s => s.1 ≤ v.2.2.1.length) (fun s => v.2.2.1.length - s.1) (0, nilS) (Nat.zero_le _) ?_ (own_picks (by repeat (first | exact picks_nil | refine picks_cons 0 rfl ?_ | refine picks_cons 1 rfl ?_ | refine picks_cons 2 rfl ?_ | refine picks_cons 3 rfl ?_ | refine picks_cons 4 rfl ?_ | refine picks_cons 5 rfl ?_ | refine picks_cons 6 rfl ?_ | refine picks_cons 7 rfl ?_ | refine picks_cons 8 rfl ?_))) ?_
        · exact (es_cons (t := 41) (by exact OT.tmp rfl) (es_cons (t := 13) (by exact OT.tmp rfl) es_nil))
        · rintro ⟨j, vt⟩ hj
          dsimp only at hj ⊢
          refine tr_seq ?_
          -- region 11
          refine tr_env (es_cons (t := 2) (OT.tmp rfl) (es_cons (t := 9) (OT.tmp rfl) (es_cons (t := 10) (OT.tmp rfl) (es_cons (t := 12) (OT.tmp rfl) (es_cons (t := 13) (OT.tmp rfl) (es_cons (t := 32) (OT.tmp rfl) (es_cons (t := 33) (OT.tmp rfl) (es_cons (t := 34) (OT.tmp rfl) (es_cons (t := 39) (OT.tmp rfl) (es_cons (t := 40) (OT.tmp rfl) (es_cons (t := 41) (OT.tmp rfl) es_nil))))))))))) ?_
          refine tr_region ?_
          refine op_pure (pu_lss (OT.tmp rfl) (OT.tmp rfl)) rfl rfl ?_
          refine tr_nil ?_
          refine then_normal ?_
          refine tr_seq ?_
          refine tr_cond (OT.tmp rfl) (fun c42 => ?_) (fun c42 => ?_)
          · skip
            refine tr_skip ?_
            refine then_normal ?_
            refine tr_seq ?_
            refine tr_block ?_
            refine tr_seq ?_
            -- region 12
            refine tr_env (es_cons (t := 2) (OT.tmp rfl) (es_cons (t := 9) (OT.tmp rfl) (es_cons (t := 10) (OT.tmp rfl) (es_cons (t := 12) (OT.tmp rfl) (es_cons (t := 13) (OT.tmp rfl) (es_cons (t := 32) (OT.tmp rfl) (es_cons (t := 33) (OT.tmp rfl) (es_cons (t := 34) (OT.tmp rfl) (es_cons (t := 39) (OT.tmp rfl) (es_cons (t := 40) (OT.tmp rfl) (es_cons (t := 41) (OT.tmp rfl) es_nil))))))))))) ?_
            have hjo : j < v.2.2.1.length := by simpa using c42
            obtain ⟨o, hoo⟩ : ∃ o, at' v.2.2.1 (j : Int) = o := ⟨_, rfl⟩
            have hoV := hout o (by rw [← hoo]; exact at_mem hjo)
            have hix := ixI_in hoV
            have hixl := ix_lt hoV
            have hst := map_snoc (fun o => env (varsL v.2.2.2.1) row o) hjo
            rw [hoo] at hst
            refine tr_region ?_
            refine op_pure (pu_index (OT.tmp rfl) (OT.tmp rfl) Try.underlying22 (show tyOk Try.prog 9 false 1 = true from by decide +kernel) (by omega) (by omega)) rfl rfl ?_
            refine op_pure (pu_load (OT.tmp rfl) (show tyOk Try.prog 9 false 1 = true from by decide +kernel)) rfl rfl ?_
            refine op_pure (pu_assign (OT.tmp rfl)) rfl rfl ?_
            refine tr_nil ?_
            refine then_normal ?_
            -- region 13
            refine tr_env (es_cons (t := 2) (OT.tmp rfl) (es_cons (t := 9) (OT.tmp rfl) (es_cons (t := 10) (OT.tmp rfl) (es_cons (t := 12) (OT.tmp rfl) (es_cons (t := 13) (OT.tmp rfl) (es_cons (t := 15) (OT.tmp rfl) (es_cons (t := 32) (OT.tmp rfl) (es_cons (t := 33) (OT.tmp rfl) (es_cons (t := 34) (OT.tmp rfl) (es_cons (t := 39) (OT.tmp rfl) (es_cons (t := 40) (OT.tmp rfl) (es_cons (t := 41) (OT.tmp rfl) es_nil)))))))))))) ?_
            rw [hoo]
            refine tr_region ?_
            refine op_pure (pu_move (OT.tmp rfl)) rfl rfl ?_
            refine op_pure (pu_move (OT.tmp rfl)) rfl rfl ?_
            refine op_pure (pu_move (OT.tmp rfl)) rfl rfl ?_
            refine op_pure (pu_move (OT.tmp rfl)) rfl rfl ?_
            refine op_acts (acts_call (IndexS_fn _ _ (by omega)) (show enters Try.prog 19 = true from by decide +kernel) (OTs.cons (OT.tmp rfl) (OTs.cons (OT.tmp rfl) OTs.nil)) (List.Perm.refl _)) (List.Perm.refl _) rfl rfl (fun _ _ => ?_)
            refine op_pure (pu_index (OT.tmp rfl) (OT.tmp rfl) Try.underlying45 (show tyOk Try.prog 3 false 1 = true from by decide +kernel) (by omega) (by omega)) rfl rfl ?_
            rw [hix]
            refine op_pure (pu_load (OT.tmp rfl) (show tyOk Try.prog 3 false 1 = true from by decide +kernel)) rfl rfl ?_
            refine op_acts (acts_lit (d := kI) (v0 := 0) (show slTy Try.prog 45 3 1 8 = true from by decide +kernel) (show tyOk Try.prog 3 false 1 = true from by decide +kernel) zI (show 1 * 1 ≤ 16777216 from by decide) (by decide) (fills_arr rfl rfl (by decide) (OT.tmp rfl) fills_nil)) (List.Perm.refl _) rfl rfl (fun _ _ => ?_)
            refine op_acts (acts_append (OT.tmp rfl) (by exact perm_at 0 rfl) (OT.tmp rfl) (show slTy Try.prog 45 3 1 8 = true from by decide +kernel) (by (simp; omega)) (by (simp; omega))) (by exact perm_at 0 rfl) rfl rfl (fun v13_8 _ => ?_)
            refine op_pure (pu_assign (OT.tmp rfl)) rfl rfl ?_
            refine tr_nil ?_
            refine block_normal ?_
            refine then_normal ?_
            -- region 14
            refine tr_env (es_cons (t := 2) (OT.tmp rfl) (es_cons (t := 9) (OT.tmp rfl) (es_cons (t := 10) (OT.tmp rfl) (es_cons (t := 12) (OT.tmp rfl) (es_cons (t := 13) (OT.tmp rfl) (es_cons (t := 32) (OT.tmp rfl) (es_cons (t := 33) (OT.tmp rfl) (es_cons (t := 34) (OT.tmp rfl) (es_cons (t := 39) (OT.tmp rfl) (es_cons (t := 40) (OT.tmp rfl) (es_cons (t := 41) (OT.tmp rfl) es_nil))))))))))) ?_
            refine tr_region ?_
            refine op_pure (pu_add' (OT.tmp rfl) OT.const (by omega)) rfl rfl ?_
            refine op_pure (pu_move (OT.tmp rfl)) rfl rfl ?_
            refine tr_nil ?_
            refine then_normal ?_
            exact tr_again (j + 1, v13_8) (by show j + 1 ≤ _; omega) (by show v.2.2.1.length - (j + 1) < v.2.2.1.length - j; omega) (es_append (es_cons (t := 41) (by exact OT.tmp rfl) (es_cons (t := 13) (by exact OT.tmp rfl) es_nil)) (es_cons (t := 2) (OT.tmp rfl) (es_cons (t := 9) (OT.tmp rfl) (es_cons (t := 10) (OT.tmp rfl) (es_cons (t := 12) (OT.tmp rfl) (es_cons (t := 32) (OT.tmp rfl) (es_cons (t := 33) (OT.tmp rfl) (es_cons (t := 34) (OT.tmp rfl) (es_cons (t := 39) (OT.tmp rfl) (es_cons (t := 40) (OT.tmp rfl) es_nil)))))))))) (own_picks (by rw [hst]; exact (by repeat (first | exact picks_nil | refine picks_cons 0 rfl ?_ | refine picks_cons 1 rfl ?_ | refine picks_cons 2 rfl ?_ | refine picks_cons 3 rfl ?_ | refine picks_cons 4 rfl ?_ | refine picks_cons 5 rfl ?_ | refine picks_cons 6 rfl ?_ | refine picks_cons 7 rfl ?_ | refine picks_cons 8 rfl ?_))))
          · skip
            refine tr_exit ?_
            refine then_exit ?_
            refine then_exit ?_
            refine block_hit ?_
            refine then_normal ?_
            -- region 15
            refine tr_env (es_cons (t := 2) (OT.tmp rfl) (es_cons (t := 9) (OT.tmp rfl) (es_cons (t := 10) (OT.tmp rfl) (es_cons (t := 13) (OT.tmp rfl) (es_cons (t := 32) (OT.tmp rfl) (es_cons (t := 33) (OT.tmp rfl) (es_cons (t := 34) (OT.tmp rfl) es_nil))))))) ?_
            obtain rfl : j = v.2.2.1.length := by simp only [decide_eq_false_iff_not] at c42; omega
            rw [List.take_length]
            refine tr_region ?_
            refine op_pure (pu_move (OT.tmp rfl)) rfl rfl ?_
            refine op_pure (pu_move (OT.tmp rfl)) rfl rfl ?_
            refine tr_freeze (by exact perm_at 0 rfl) 56 (OT.tmp rfl) ?_
            refine op_acts (acts_lit (d := kT) (v0 := []) (show slTy Try.prog 35 45 1 24 = true from by decide +kernel) (show tyOk Try.prog 45 false 1 = true from by decide +kernel) zT (show 1 * 1 ≤ 16777216 from by decide) (by decide) (fills_arr rfl rfl (by decide) (OT.tmp rfl) fills_nil)) (List.Perm.refl _) rfl rfl (fun _ _ => ?_)
            refine op_acts (acts_append (OT.tmp rfl) (by exact perm_at 0 rfl) (OT.tmp rfl) (show slTy Try.prog 35 45 1 24 = true from by decide +kernel) (by (simp; omega)) (by (simp [maxLen]; omega))) (by exact perm_at 0 rfl) rfl rfl (fun v15_3 _ => ?_)
            refine op_pure (pu_assign (OT.tmp rfl)) rfl rfl ?_
            refine tr_nil ?_
            refine block_normal ?_
            refine then_normal ?_
            -- region 16
            refine tr_env (es_cons (t := 2) (OT.tmp rfl) (es_cons (t := 9) (OT.tmp rfl) (es_cons (t := 10) (OT.tmp rfl) (es_cons (t := 32) (OT.tmp rfl) (es_cons (t := 33) (OT.tmp rfl) (es_cons (t := 34) (OT.tmp rfl) es_nil)))))) ?_
            refine tr_region ?_
            refine op_pure (pu_add' (OT.tmp rfl) OT.const (by omega)) rfl rfl ?_
            refine op_pure (pu_move (OT.tmp rfl)) rfl rfl ?_
            refine tr_nil ?_
            refine then_normal ?_
            exact tr_again (i + 1, v15_3) (by show i + 1 ≤ rows.length; omega) (by show rows.length - (i + 1) < rows.length - i; omega) (es_append (es_cons (t := 34) (by exact OT.tmp rfl) (es_cons (t := 10) (by exact OT.tmp rfl) es_nil)) (es_cons (t := 2) (OT.tmp rfl) (es_cons (t := 9) (OT.tmp rfl) (es_cons (t := 32) (OT.tmp rfl) (es_cons (t := 33) (OT.tmp rfl) es_nil))))) (own_picks (by rw [hst2]; exact (by repeat (first | exact picks_nil | refine picks_cons 0 rfl ?_ | refine picks_cons 1 rfl ?_ | refine picks_cons 2 rfl ?_ | refine picks_cons 3 rfl ?_ | refine picks_cons 4 rfl ?_ | refine picks_cons 5 rfl ?_ | refine picks_cons 6 rfl ?_ | refine picks_cons 7 rfl ?_ | refine picks_cons 8 rfl ?_))))
      · skip
        refine tr_exit ?_
        refine then_exit ?_
        refine then_exit ?_
        refine block_hit ?_
        refine then_normal ?_
        refine tr_seq ?_
        -- region 17
        refine tr_env (es_cons (t := 10) (OT.tmp rfl) es_nil) ?_
        obtain rfl : i = rows.length := by simp only [decide_eq_false_iff_not] at c35; omega
        rw [List.take_length]
        obtain ⟨all, hall⟩ : ∃ a, rows.map (proj (varsL v.2.2.2.1) v.2.2.1) = a := ⟨_, rfl⟩
        rw [hall]
        have hallen : all.length ≤ 1000000 := by rw [← hall, List.length_map]; omega
        refine tr_region ?_
        refine op_pure (pu_move (OT.tmp rfl)) rfl rfl ?_
        refine op_acts (acts_call (SortT_fn _ _ hallen) (show enters Try.prog 20 = true from by decide +kernel) (OTs.cons (OT.tmp rfl) (OTs.cons OT.func OTs.nil)) (by exact perm_at 0 rfl)) (by exact perm_at 0 rfl) rfl rfl (fun rs hrs => ?_)
        refine tr_nil ?_
        refine then_normal ?_
        refine tr_seq ?_
        -- region 18
        refine tr_env (es_cons (t := 10) (OT.tmp rfl) es_nil) ?_
        have hrsl : rs.length ≤ 1000000 := by rw [hrs.1.length_eq]; exact hallen
        refine tr_freeze (by exact perm_at 0 rfl) 10 (OT.tmp rfl) ?_
        refine tr_region ?_
        refine op_pure (pu_assign OT.const) rfl rfl ?_
        refine tr_nil ?_
        refine then_normal ?_
        refine tr_seq ?_
        -- region 19
        refine tr_env (es_cons (t := 10) (OT.tmp rfl) (es_cons (t := 16) (OT.tmp rfl) es_nil)) ?_
        refine tr_region ?_
        refine op_pure (pu_assign OT.const) rfl rfl ?_
        refine tr_nil ?_
        refine then_normal ?_
        refine tr_seq ?_
        refine tr_seq ?_
        -- region 20
        refine tr_env (es_cons (t := 10) (OT.tmp rfl) (es_cons (t := 16) (OT.tmp rfl) (es_cons (t := 17) (OT.tmp rfl) es_nil))) ?_
        refine tr_nilItem 3 kI (tr_nilItem 45 kT ?_)
        refine tr_region ?_
        refine op_pure (pu_move (OT.tmp rfl)) rfl rfl ?_
        refine op_pure (pu_len_sl (OT.tmp rfl) Try.underlying35) rfl rfl ?_
        refine op_pure (pu_move OT.const) rfl rfl ?_
        refine tr_nil ?_
        refine then_normal ?_
        refine tr_block ?_
        refine tr_loopK (σ := Nat × Value × Value) (es_cons (t := 62) (OT.tmp rfl) (es_cons (t := 63) (OT.tmp rfl) es_nil)) (fun s => [(64, I64 (s.1 : Int)), (16, IsV s.2.1), (17, IsV s.2.2)]) (fun s => [OwnI 45 kT s.2.1 (dd (rs.take s.1)), OwnI 3 kI s.2.2 (cntL (rs.take s.1)), BlkI g0_0 25 kV v]) (fun s => s.1 ≤ rs.length) (fun s => rs.length - s.1) (0, nilS, nilS) (Nat.zero_le _) ?_ (own_picks (by repeat (first | exact picks_nil | refine picks_cons 0 rfl ?_ | refine picks_cons 1 rfl ?_ | refine picks_cons 2 rfl ?_ | refine picks_cons 3 rfl ?_ | refine picks_cons 4 rfl ?_ | refine picks_cons 5 rfl ?_ | refine picks_cons 6 rfl ?_ | refine picks_cons 7 rfl ?_ | refine picks_cons 8 rfl ?_))) ?_
        · exact (es_cons (t := 64) (by exact OT.tmp rfl) (es_cons (t := 16) (by exact OT.tmp rfl) (es_cons (t := 17) (by exact OT.tmp rfl) es_nil)))
        · rintro ⟨k, vo, vc⟩ hk
          dsimp only at hk ⊢
          refine tr_seq ?_
          -- region 21
          refine tr_env (es_cons (t := 16) (OT.tmp rfl) (es_cons (t := 17) (OT.tmp rfl) (es_cons (t := 62) (OT.tmp rfl) (es_cons (t := 63) (OT.tmp rfl) (es_cons (t := 64) (OT.tmp rfl) es_nil))))) ?_
          refine tr_region ?_
          refine op_pure (pu_lss (OT.tmp rfl) (OT.tmp rfl)) rfl rfl ?_
          refine tr_nil ?_
          refine then_normal ?_
          refine tr_seq ?_
          refine tr_cond (OT.tmp rfl) (fun c65 => ?_) (fun c65 => ?_)
          · skip
            refine tr_skip ?_
            refine then_normal ?_
            refine tr_seq ?_
            refine tr_block ?_
            refine tr_seq ?_
            -- region 22
            refine tr_env (es_cons (t := 16) (OT.tmp rfl) (es_cons (t := 17) (OT.tmp rfl) (es_cons (t := 62) (OT.tmp rfl) (es_cons (t := 63) (OT.tmp rfl) (es_cons (t := 64) (OT.tmp rfl) es_nil))))) ?_
            have hkr : k < rs.length := by simpa using c65
            obtain ⟨t, ht⟩ : ∃ t, at' rs (k : Int) = t := ⟨_, rfl⟩
            have hdl := dd_len (rs.take k)
            rw [List.length_take] at hdl
            have hcl := cntL_len (rs.take k)
            have hcb := cnt_bound (rs.take k) (((dd (rs.take k)).length : Int) - 1)
            rw [List.length_take] at hcb
            refine tr_region ?_
            refine op_pure (pu_index (OT.tmp rfl) (OT.tmp rfl) Try.underlying35 (show tyOk Try.prog 45 false 1 = true from by decide +kernel) (by omega) (by omega)) rfl rfl ?_
            refine op_pure (pu_load (OT.tmp rfl) (show tyOk Try.prog 45 false 1 = true from by decide +kernel)) rfl rfl ?_
            refine op_pure (pu_assign (OT.tmp rfl)) rfl rfl ?_
            refine tr_nil ?_
            refine then_normal ?_
            refine tr_seq ?_
            refine tr_seq ?_
            -- region 23
            refine tr_env (es_cons (t := 16) (OT.tmp rfl) (es_cons (t := 17) (OT.tmp rfl) (es_cons (t := 19) (OT.tmp rfl) (es_cons (t := 62) (OT.tmp rfl) (es_cons (t := 63) (OT.tmp rfl) (es_cons (t := 64) (OT.tmp rfl) es_nil)))))) ?_
            rw [ht]
            refine tr_region ?_
            refine op_pure (pu_move (OT.tmp rfl)) rfl rfl ?_
            refine op_pure (pu_len_own (OT.tmp rfl) (by exact mem_at 0 rfl) Try.underlying35) rfl rfl ?_
            refine op_pure (pu_assign (OT.tmp rfl)) rfl rfl ?_
            refine tr_nil ?_
            refine then_normal ?_
            refine tr_seq ?_
            -- region 24
            refine tr_env (es_cons (t := 16) (OT.tmp rfl) (es_cons (t := 17) (OT.tmp rfl) (es_cons (t := 19) (OT.tmp rfl) (es_cons (t := 20) (OT.tmp rfl) (es_cons (t := 62) (OT.tmp rfl) (es_cons (t := 63) (OT.tmp rfl) (es_cons (t := 64) (OT.tmp rfl) es_nil))))))) ?_
            refine tr_region ?_
            refine op_pure (pu_move (OT.tmp rfl)) rfl rfl ?_
            refine op_pure (pu_gtr (OT.tmp rfl) OT.const) rfl rfl ?_
            refine op_pure (pu_move (OT.tmp rfl)) rfl rfl ?_
            refine op_gu rfl rfl rfl (OT.gu_mk (OT.tmp rfl)) (fun hg => by (have hg1 := hg.2; (try simp only [decide_eq_true_eq, decide_eq_false_iff_not] at hg1); exact pu_move (by exact OT.tmp rfl))) rfl ?_
            refine op_gu rfl rfl rfl (OT.gu_mk (OT.tmp rfl)) (fun hg => by (have hg1 := hg.2; (try simp only [decide_eq_true_eq, decide_eq_false_iff_not] at hg1); exact pu_move (by exact OT.tmp rfl))) rfl ?_
            refine op_gu rfl rfl rfl (OT.gu_mk (OT.tmp rfl)) (fun hg => by (have hg1 := hg.2; (try simp only [decide_eq_true_eq, decide_eq_false_iff_not] at hg1); exact pu_sub' (by exact OT.gu (OT.tmp rfl) hg) OT.const (by omega))) rfl ?_
            refine op_gu rfl rfl rfl (OT.gu_mk (OT.tmp rfl)) (fun hg => by (have hg1 := hg.2; (try simp only [decide_eq_true_eq, decide_eq_false_iff_not] at hg1); exact pu_index_own (by exact OT.gu (OT.tmp rfl) hg) (by exact mem_at 0 rfl) (by exact OT.gu (OT.tmp rfl) hg) Try.underlying35 (show tyOk Try.prog 45 false 1 = true from by decide +kernel) (by omega) (by omega))) rfl ?_
            refine op_gu rfl rfl rfl (OT.gu_mk (OT.tmp rfl)) (fun hg => by (have hg1 := hg.2; (try simp only [decide_eq_true_eq, decide_eq_false_iff_not] at hg1); exact pu_load_own0 (by exact OT.gu (OT.tmp rfl) hg) (by exact mem_at 0 rfl) (by omega) (by omega) (show tyOk Try.prog 45 false 1 = true from by decide +kernel))) rfl ?_
            refine op_gu rfl rfl rfl (OT.gu_mk (OT.tmp rfl)) (fun hg => by (have hg1 := hg.2; (try simp only [decide_eq_true_eq, decide_eq_false_iff_not] at hg1); exact pu_move (by exact OT.tmp rfl))) rfl ?_
            refine op_gu_acts () rfl rfl rfl (OT.gu_mk (OT.tmp rfl)) (fun hg => by (have hg1 := hg.2; (try simp only [decide_eq_true_eq, decide_eq_false_iff_not] at hg1); exact acts_call (Cmp_all _ _) (show enters Try.prog 21 = true from by decide +kernel) (OTs.cons (by exact OT.gu (OT.tmp rfl) hg) (OTs.cons (by exact OT.gu (OT.tmp rfl) hg) OTs.nil)) (List.Perm.refl _))) rfl (fun _ _ => ?_)
            refine op_gu rfl rfl rfl (OT.gu_mk (OT.tmp rfl)) (fun hg => by (have hg1 := hg.2; (try simp only [decide_eq_true_eq, decide_eq_false_iff_not] at hg1); exact pu_eql (by exact OT.gu (OT.tmp rfl) hg) OT.const)) rfl ?_
            refine op_pure (pu_pick_and (OT.tmp rfl) (by exact OT.tmp rfl)) rfl rfl ?_
            refine tr_nil ?_
            refine then_normal ?_
            refine tr_cond (OT.tmp rfl) (fun c81 => ?_) (fun c81 => ?_)
            · skip
              obtain ⟨k', rfl, hkk⟩ := grp_yes hkr ht c81
              have hst := cnt_same hrs.2 hkr hkk
              simp only [Bool.and_eq_true, decide_eq_true_eq] at c81
              have hn1 : (((dd (rs.take (k' + 1))).length : Int) - 1).toNat = (dd (rs.take (k' + 1))).length - 1 := by omega
              refine tr_seq ?_
              -- region 25
              refine tr_env (es_cons (t := 16) (OT.tmp rfl) (es_cons (t := 17) (OT.tmp rfl) (es_cons (t := 20) (OT.tmp rfl) (es_cons (t := 62) (OT.tmp rfl) (es_cons (t := 63) (OT.tmp rfl) (es_cons (t := 64) (OT.tmp rfl) es_nil)))))) ?_
              refine tr_region ?_
              refine op_pure (pu_move (OT.tmp rfl)) rfl rfl ?_
              refine op_pure (pu_move (OT.tmp rfl)) rfl rfl ?_
              refine op_pure (pu_sub' (OT.tmp rfl) OT.const (by omega)) rfl rfl ?_
              refine op_pure (pu_index_own (OT.tmp rfl) (by exact mem_at 1 rfl) (OT.tmp rfl) Try.underlying36 (show tyOk Try.prog 3 false 1 = true from by decide +kernel) (by omega) (by omega)) rfl rfl ?_
              refine op_pure (pu_load_own0 (OT.tmp rfl) (by exact mem_at 1 rfl) (by omega) (by omega) (show tyOk Try.prog 3 false 1 = true from by decide +kernel)) rfl rfl ?_
              refine op_pure (pu_add' (OT.tmp rfl) OT.const (by omega)) rfl rfl ?_
              refine op_pure (pu_index_own (OT.tmp rfl) (by exact mem_at 1 rfl) (OT.tmp rfl) Try.underlying36 (show tyOk Try.prog 3 false 1 = true from by decide +kernel) (by omega) (by omega)) rfl rfl ?_
              refine op_acts (acts_store_own0 (OT.tmp rfl) (OT.tmp rfl) (by exact perm_at 1 rfl) (by omega) (by omega) (show tyOk Try.prog 3 false 1 = true from by decide +kernel)) (by exact perm_at 1 rfl) rfl rfl (fun _ _ => ?_)
              refine tr_nil ?_
              refine then_normal ?_
              refine tr_exit ?_
              refine then_exit ?_
              refine block_hit ?_
              refine then_normal ?_
              -- region 27
              refine tr_env (es_cons (t := 16) (OT.tmp rfl) (es_cons (t := 17) (OT.tmp rfl) (es_cons (t := 62) (OT.tmp rfl) (es_cons (t := 63) (OT.tmp rfl) (es_cons (t := 64) (OT.tmp rfl) es_nil))))) ?_
              refine tr_region ?_
              refine op_pure (pu_add' (OT.tmp rfl) OT.const (by omega)) rfl rfl ?_
              refine op_pure (pu_move (OT.tmp rfl)) rfl rfl ?_
              refine tr_nil ?_
              refine then_normal ?_
              exact tr_again (k' + 1 + 1, vo, vc) (by show k' + 1 + 1 ≤ rs.length; omega) (by show rs.length - (k' + 1 + 1) < rs.length - (k' + 1); omega) (es_append (es_cons (t := 64) (by exact OT.tmp rfl) (es_cons (t := 16) (by exact OT.tmp rfl) (es_cons (t := 17) (by exact OT.tmp rfl) es_nil))) (es_cons (t := 62) (OT.tmp rfl) (es_cons (t := 63) (OT.tmp rfl) es_nil))) (own_picks (by rw [hst.1, hst.2, ← hn1]; exact (by repeat (first | exact picks_nil | refine picks_cons 0 rfl ?_ | refine picks_cons 1 rfl ?_ | refine picks_cons 2 rfl ?_ | refine picks_cons 3 rfl ?_ | refine picks_cons 4 rfl ?_ | refine picks_cons 5 rfl ?_ | refine picks_cons 6 rfl ?_ | refine picks_cons 7 rfl ?_ | refine picks_cons 8 rfl ?_))))
            · skip
              have hst := cnt_new hrs.2 hkr (grp_no hkr ht c81)
              rw [ht] at hst
              refine tr_skip ?_
              refine then_normal ?_
              -- region 26
              refine tr_env (es_cons (t := 16) (OT.tmp rfl) (es_cons (t := 17) (OT.tmp rfl) (es_cons (t := 19) (OT.tmp rfl) (es_cons (t := 62) (OT.tmp rfl) (es_cons (t := 63) (OT.tmp rfl) (es_cons (t := 64) (OT.tmp rfl) es_nil)))))) ?_
              refine tr_region ?_
              refine op_pure (pu_move (OT.tmp rfl)) rfl rfl ?_
              refine op_pure (pu_move (OT.tmp rfl)) rfl rfl ?_
              refine op_acts (acts_lit (d := kT) (v0 := []) (show slTy Try.prog 35 45 1 24 = true from by decide +kernel) (show tyOk Try.prog 45 false 1 = true from by decide +kernel) zT (show 1 * 1 ≤ 16777216 from by decide) (by decide) (fills_arr rfl rfl (by decide) (OT.tmp rfl) fills_nil)) (List.Perm.refl _) rfl rfl (fun _ _ => ?_)
              refine op_acts (acts_append (OT.tmp rfl) (by exact perm_at 0 rfl) (OT.tmp rfl) (show slTy Try.prog 35 45 1 24 = true from by decide +kernel) (by (simp; omega)) (by (simp [maxLen]; omega))) (by exact perm_at 0 rfl) rfl rfl (fun v26_3 _ => ?_)
              refine op_pure (pu_move (OT.tmp rfl)) rfl rfl ?_
              refine op_acts (acts_lit (d := kI) (v0 := 0) (show slTy Try.prog 36 3 1 8 = true from by decide +kernel) (show tyOk Try.prog 3 false 1 = true from by decide +kernel) zI (show 1 * 1 ≤ 16777216 from by decide) (by decide) (fills_arr rfl rfl (by decide) OT.const fills_nil)) (List.Perm.refl _) rfl rfl (fun _ _ => ?_)
              refine op_acts (acts_append (OT.tmp rfl) (by exact perm_at 1 rfl) (OT.tmp rfl) (show slTy Try.prog 36 3 1 8 = true from by decide +kernel) (by (simp; omega)) (by (simp [maxLen]; omega))) (by exact perm_at 1 rfl) rfl rfl (fun v26_6 _ => ?_)
              refine op_pure (pu_assign (OT.tmp rfl)) rfl rfl ?_
              refine op_pure (pu_assign (OT.tmp rfl)) rfl rfl ?_
              refine tr_nil ?_
              refine block_normal ?_
              refine then_normal ?_
              -- region 27
              refine tr_env (es_cons (t := 16) (OT.tmp rfl) (es_cons (t := 17) (OT.tmp rfl) (es_cons (t := 62) (OT.tmp rfl) (es_cons (t := 63) (OT.tmp rfl) (es_cons (t := 64) (OT.tmp rfl) es_nil))))) ?_
              refine tr_region ?_
              refine op_pure (pu_add' (OT.tmp rfl) OT.const (by omega)) rfl rfl ?_
              refine op_pure (pu_move (OT.tmp rfl)) rfl rfl ?_
              refine tr_nil ?_
              refine then_normal ?_
              exact tr_again (k + 1, v26_3, v26_6) (by show k + 1 ≤ rs.length; omega) (by show rs.length - (k + 1) < rs.length - k; omega) (es_append (es_cons (t := 64) (by exact OT.tmp rfl) (es_cons (t := 16) (by exact OT.tmp rfl) (es_cons (t := 17) (by exact OT.tmp rfl) es_nil))) (es_cons (t := 62) (OT.tmp rfl) (es_cons (t := 63) (OT.tmp rfl) es_nil))) (own_picks (by rw [hst.1, hst.2]; exact (by repeat (first | exact picks_nil | refine picks_cons 0 rfl ?_ | refine picks_cons 1 rfl ?_ | refine picks_cons 2 rfl ?_ | refine picks_cons 3 rfl ?_ | refine picks_cons 4 rfl ?_ | refine picks_cons 5 rfl ?_ | refine picks_cons 6 rfl ?_ | refine picks_cons 7 rfl ?_ | refine picks_cons 8 rfl ?_))))
          · skip
            refine tr_exit ?_
            refine then_exit ?_
            refine then_exit ?_
            refine block_hit ?_
            refine then_normal ?_
            refine tr_seq ?_
            -- region 28
            refine tr_env (es_cons (t := 16) (OT.tmp rfl) (es_cons (t := 17) (OT.tmp rfl) es_nil)) ?_
            obtain rfl : k = rs.length := by simp only [decide_eq_false_iff_not] at c65; omega
            obtain ⟨hD, hC⟩ := cntL_all hrs.1 hrs.2
            rw [List.take_length, hD, hC]
            have hsma : Small all := ⟨hallen, fun x hx => by
              rw [← hall] at hx
              obtain ⟨r, _, rfl⟩ := List.mem_map.1 hx
              unfold proj; rw [List.length_map]; omega⟩
            have hsm := hsma.setR
            refine tr_region ?_
            refine op_pure (pu_move (OT.tmp rfl)) rfl rfl ?_
            refine tr_freeze (by exact perm_at 0 rfl) 97 (OT.tmp rfl) ?_
            refine op_acts (acts_callM (Set_fn (K0 := noK) (n0 := 0) _ hsm) mk_none (show enters Try.prog 22 = true from by decide +kernel) (OTs.cons (OT.tmp rfl) OTs.nil) (List.Perm.refl _)) (List.Perm.refl _) rfl rfl (fun _ _ => ?_)
            refine op_pure (pu_move (OT.tmp rfl)) rfl rfl ?_
            refine tr_freezeF mk_none (fun g => blks_nil) (by exact perm_at 0 rfl) 99 (OT.tmp rfl) ?_
            refine op_acts (acts_call (ClipI_fn _) (show enters Try.prog 23 = true from by decide +kernel) (OTs.cons (OT.tmp rfl) OTs.nil) (List.Perm.refl _)) (List.Perm.refl _) rfl rfl (fun _ _ => ?_)
            refine op_pure (pu_assign (OT.tmp rfl)) rfl rfl ?_
            refine op_pure (pu_assign (OT.tmp rfl)) rfl rfl ?_
            refine op_pure (pu_assign OT.const) rfl rfl ?_
            refine tr_nil ?_
            refine then_normal ?_
            refine tr_ret ?_
            exact ret_three .ret (.inl rfl) rfl (setR all, countsOf all, 0) (OT.eq (OT.unfr2 (OT.tmp rfl)) (congrArg (SlT kT) (setR_idem all))) (OT.tmp rfl) (OT.tmp rfl) (fun _ _ h => h) (.inr (.inr ⟨hok, hnm, by unfold allOf; rw [← hr1, hall]⟩)) (by exact picks_nil)
end Go.Proofs.Ytakkjljhjfkkbaa
/- Walks through the Go functions rhizomelaw11.Fits, rhizomelaw11.awake, rhizomelaw11.JoinGreat, as typed contracts. -/
namespace Go.Proofs.Ytakkjljhjfkkbaa
open Go Go.Gw Go.So Go.Tu Go.Jn
set_option linter.unusedVariables false
set_option linter.unusedSimpArgs false
set_option maxRecDepth 20000 in
/-- rhizome/rhizomelaw11.Fits -/
theorem Fits_fn (v : Vw) (l : List Ed) : Ct Try.prog 8 [kV.T v, SlT kE l] ([]) Unit (fun _ => BoolT (fitsB v l)) (fun _ => []) (fun _ => True) := by
  refine fn_intro Try.func8 rfl rfl ?_
  intro H w
  refine tr_seq ?_
  -- region 0
  refine tr_env (es_cons (t := 0) (OT.tmp rfl) (es_cons (t := 1) (OT.tmp rfl) es_nil)) ?_
  refine tr_region ?_
  refine op_acts (acts_box (d := kV) (OT.tmp rfl)) (List.Perm.refl _) rfl rfl (fun g0_0 _ => ?_)
  refine op_pure (pu_assign OT.const) rfl rfl ?_
  refine tr_nil ?_
  refine then_normal ?_
  refine tr_seq ?_
  -- region 1
  refine tr_env (es_cons (t := 1) (OT.tmp rfl) (es_cons (t := 2) (OT.tmp rfl) es_nil)) ?_
  refine tr_region ?_
  refine op_pure (pu_move (OT.tmp rfl)) rfl rfl ?_
  refine op_pure (pu_len_sl (OT.tmp rfl) Try.underlying26) rfl rfl ?_
  refine op_pure (pu_leq (OT.tmp rfl) OT.const) rfl rfl ?_
  refine op_pure (pu_move (OT.tmp rfl)) rfl rfl ?_
  refine op_gu rfl rfl rfl (OT.gu_mk (OT.tmp rfl)) (fun hg => by (have hg1 := hg.2; (try simp only [decide_eq_true_eq, decide_eq_false_iff_not] at hg1); exact pu_faddr (by exact OT.tmp rfl) (show fieldOk Try.prog 25 3 3 false 1 = true from by decide +kernel))) rfl ?_
  refine op_gu rfl rfl rfl (OT.gu_mk (OT.tmp rfl)) (fun hg => by (have hg1 := hg.2; (try simp only [decide_eq_true_eq, decide_eq_false_iff_not] at hg1); exact pu_load_blk (by exact OT.gu (OT.tmp rfl) hg) (by exact mem_at 0 rfl) lv3 (show tyOk Try.prog 23 false 1 = true from by decide +kernel))) rfl ?_
  refine op_gu rfl rfl rfl (OT.gu_mk (OT.tmp rfl)) (fun hg => by (have hg1 := hg.2; (try simp only [decide_eq_true_eq, decide_eq_false_iff_not] at hg1); exact pu_len_sl (by exact OT.gu (OT.tmp rfl) hg) Try.underlying23)) rfl ?_
  refine op_gu rfl rfl rfl (OT.gu_mk (OT.tmp rfl)) (fun hg => by (have hg1 := hg.2; (try simp only [decide_eq_true_eq, decide_eq_false_iff_not] at hg1); exact pu_leq (by exact OT.gu (OT.tmp rfl) hg) OT.const)) rfl ?_
  refine op_pure (pu_pick_and (OT.tmp rfl) (by exact OT.tmp rfl)) rfl rfl ?_
  refine op_pure (pu_move (OT.tmp rfl)) rfl rfl ?_
  refine op_gu rfl rfl rfl (OT.gu_mk (OT.tmp rfl)) (fun hg => by (have hg1 := hg.2; (try simp only [decide_eq_true_eq, decide_eq_false_iff_not] at hg1); exact pu_faddr (by exact OT.tmp rfl) (show fieldOk Try.prog 25 2 2 false 1 = true from by decide +kernel))) rfl ?_
  refine op_gu rfl rfl rfl (OT.gu_mk (OT.tmp rfl)) (fun hg => by (have hg1 := hg.2; (try simp only [decide_eq_true_eq, decide_eq_false_iff_not] at hg1); exact pu_load_blk (by exact OT.gu (OT.tmp rfl) hg) (by exact mem_at 0 rfl) lv2 (show tyOk Try.prog 22 false 1 = true from by decide +kernel))) rfl ?_
  refine op_gu rfl rfl rfl (OT.gu_mk (OT.tmp rfl)) (fun hg => by (have hg1 := hg.2; (try simp only [decide_eq_true_eq, decide_eq_false_iff_not] at hg1); exact pu_len_sl (by exact OT.gu (OT.tmp rfl) hg) Try.underlying22)) rfl ?_
  refine op_gu rfl rfl rfl (OT.gu_mk (OT.tmp rfl)) (fun hg => by (have hg1 := hg.2; (try simp only [decide_eq_true_eq, decide_eq_false_iff_not] at hg1); exact pu_leq (by exact OT.gu (OT.tmp rfl) hg) OT.const)) rfl ?_
  refine op_pure (pu_pick_and (OT.tmp rfl) (by exact OT.tmp rfl)) rfl rfl ?_
  refine op_pure (pu_assign (OT.tmp rfl)) rfl rfl ?_
  refine tr_nil ?_
  refine then_normal ?_
  refine tr_ret ?_
  exact ret_one .ret (.inl rfl) rfl () (OT.val (OT.tmp rfl) (congrArg Value.bool (rfl))) trivial (by exact picks_nil)
set_option maxRecDepth 20000 in
/-- rhizome/rhizomelaw11.awake -/
theorem awake_fn  : Ct Try.prog 7 [] ([]) Unit (fun _ => BoolT true) (fun _ => []) (fun _ => True) := by
  refine fn_intro Try.func7 rfl rfl ?_
  intro H w
  refine tr_seq ?_
  -- region 0
  refine tr_env es_nil ?_
  refine tr_region ?_
  refine op_pure (pu_assign OT.const) rfl rfl ?_
  refine tr_nil ?_
  refine then_normal ?_
  refine tr_seq ?_
  -- region 1
  refine tr_env es_nil ?_
  refine tr_region ?_
  refine op_pure (pu_build (d := kE) (v0 := (0, [], 0)) (ps := [(0, 1), (1, 1), (2, 1)]) zE (by kernel_rfl) rfl (fills_cons rfl le0 OT.const (fills_cons rfl le1 OT.const (fills_cons rfl le2 OT.const fills_nil)))) rfl rfl ?_
  refine op_pure (pu_build (d := kE) (v0 := (0, [], 0)) (ps := [(0, 1), (1, 1), (2, 1)]) zE (by kernel_rfl) rfl (fills_cons rfl le0 OT.const (fills_cons rfl le1 OT.const (fills_cons rfl le2 OT.const fills_nil)))) rfl rfl ?_
  refine op_pure (pu_build (d := kE) (v0 := (0, [], 0)) (ps := [(0, 1), (1, 1), (2, 1)]) zE (by kernel_rfl) rfl (fills_cons rfl le0 OT.const (fills_cons rfl le1 OT.const (fills_cons rfl le2 OT.const fills_nil)))) rfl rfl ?_
  refine op_acts (acts_lit (d := kE) (v0 := (0, [], 0)) (show slTy Try.prog 26 34 3 32 = true from by decide +kernel) (show tyOk Try.prog 34 true 3 = true from by decide +kernel) zE (show 3 * 3 ≤ 16777216 from by decide) (by decide) (fills_arr rfl rfl (by decide) (OT.tmp rfl) (fills_arr rfl rfl (by decide) (OT.tmp rfl) (fills_arr rfl rfl (by decide) (OT.tmp rfl) fills_nil)))) (List.Perm.refl _) rfl rfl (fun _ _ => ?_)
  refine tr_as 9 (T := SlT kE eW) (OT.tmp rfl) ?_
  refine op_pure (pu_assign (OT.tmp rfl)) rfl rfl ?_
  refine tr_nil ?_
  refine then_normal ?_
  refine tr_seq ?_
  -- region 2
  refine tr_env (es_cons (t := 1) (OT.tmp rfl) es_nil) ?_
  refine tr_region ?_
  refine op_acts (acts_lit (d := kS) (v0 := []) (show slTy Try.prog 22 9 1 16 = true from by decide +kernel) (show tyOk Try.prog 9 false 1 = true from by decide +kernel) zS (show 1 * 1 ≤ 16777216 from by decide) (by decide) (fills_arr rfl rfl (by decide) OT.const fills_nil)) (List.Perm.refl _) rfl rfl (fun _ _ => ?_)
  refine op_pure (pu_build (d := kA) (v0 := ([], [], [])) (ps := [(0, 1), (1, 1), (2, 1)]) zA (by kernel_rfl) rfl (fills_cons rfl la0 OT.const (fills_cons rfl la1 OT.const (fills_cons rfl la2 OT.const fills_nil)))) rfl rfl ?_
  refine op_acts (acts_lit (d := kA) (v0 := ([], [], [])) (show slTy Try.prog 23 31 3 48 = true from by decide +kernel) (show tyOk Try.prog 31 true 3 = true from by decide +kernel) zA (show 1 * 3 ≤ 16777216 from by decide) (by decide) (fills_arr rfl rfl (by decide) (OT.tmp rfl) fills_nil)) (List.Perm.refl _) rfl rfl (fun _ _ => ?_)
  refine op_pure (pu_build (d := kV) (v0 := ([], 0, [], [], [])) (ps := [(0, 1), (1, 1), (2, 1), (3, 1), (4, 1)]) zV (by kernel_rfl) rfl (fills_cons rfl lv0 OT.const (fills_cons rfl lv1 OT.const (fills_cons rfl lv2 (OT.tmp rfl) (fills_cons rfl lv3 (OT.tmp rfl) fills_nil))))) rfl rfl ?_
  refine tr_as 13 (T := kV.T vW) (OT.tmp rfl) ?_
  refine op_acts (acts_alloc (zV)) (List.Perm.refl _) rfl rfl (fun g2_4 _ => ?_)
  refine op_acts (acts_store_var (OT.tmp rfl) (OT.tmp rfl) (by exact perm_at 0 rfl) (show tyOk Try.prog 25 true 5 = true from by decide +kernel)) (by exact perm_at 0 rfl) rfl rfl (fun _ _ => ?_)
  refine tr_nil ?_
  refine then_normal ?_
  refine tr_seq ?_
  -- region 3
  refine tr_env (es_cons (t := 1) (OT.tmp rfl) (es_cons (t := 2) (OT.tmp rfl) es_nil)) ?_
  refine tr_region ?_
  refine op_pure (pu_load_var (OT.tmp rfl) (by exact mem_at 0 rfl) (show tyOk Try.prog 25 true 5 = true from by decide +kernel)) rfl rfl ?_
  refine op_pure (pu_move (OT.tmp rfl)) rfl rfl ?_
  refine op_acts (acts_call (Result_fn vW eW (show (1 : Nat) ≤ maxLen from by decide) (show (1 : Nat) ≤ maxLen from by decide) (by decide)) (show enters Try.prog 10 = true from by decide +kernel) (OTs.cons (OT.tmp rfl) (OTs.cons (OT.tmp rfl) OTs.nil)) (List.Perm.refl _)) (List.Perm.refl _) rfl rfl (fun r3_2 hr3_2 => ?_)
  refine op_pure (pu_move (OT.tmp rfl)) rfl rfl ?_
  refine op_pure (pu_extract (OT.tmp rfl) rfl) rfl rfl ?_
  refine op_pure (pu_extract (OT.tmp rfl) rfl) rfl rfl ?_
  refine op_pure (pu_extract (OT.tmp rfl) rfl) rfl rfl ?_
  refine op_pure (pu_assign (OT.tmp rfl)) rfl rfl ?_
  refine op_pure (pu_assign (OT.tmp rfl)) rfl rfl ?_
  refine op_pure (pu_assign (OT.tmp rfl)) rfl rfl ?_
  refine tr_nil ?_
  refine then_normal ?_
  refine tr_seq ?_
  -- region 4
  refine tr_env (es_cons (t := 3) (OT.tmp rfl) (es_cons (t := 4) (OT.tmp rfl) (es_cons (t := 5) (OT.tmp rfl) es_nil))) ?_
  obtain rfl := awake_law hr3_2
  refine tr_region ?_
  refine op_pure (pu_move (OT.tmp rfl)) rfl rfl ?_
  refine op_pure (pu_eql (OT.tmp rfl) OT.const) rfl rfl ?_
  refine op_pure (pu_move (OT.tmp rfl)) rfl rfl ?_
  refine op_gu rfl rfl rfl (OT.gu_mk (OT.tmp rfl)) (fun hg => by (have hg1 := hg.2; (try simp only [decide_eq_true_eq, decide_eq_false_iff_not] at hg1); exact pu_move (by exact OT.tmp rfl))) rfl ?_
  refine op_gu rfl rfl rfl (OT.gu_mk (OT.tmp rfl)) (fun hg => by (have hg1 := hg.2; (try simp only [decide_eq_true_eq, decide_eq_false_iff_not] at hg1); exact pu_len_sl (by exact OT.gu (OT.tmp rfl) hg) Try.underlying35)) rfl ?_
  refine op_gu rfl rfl rfl (OT.gu_mk (OT.tmp rfl)) (fun hg => by (have hg1 := hg.2; (try simp only [decide_eq_true_eq, decide_eq_false_iff_not] at hg1); exact pu_eql (by exact OT.gu (OT.tmp rfl) hg) OT.const)) rfl ?_
  refine op_pure (pu_pick_and (OT.tmp rfl) (by exact OT.tmp rfl)) rfl rfl ?_
  refine op_pure (pu_move (OT.tmp rfl)) rfl rfl ?_
  refine op_gu rfl rfl rfl (OT.gu_mk (OT.tmp rfl)) (fun hg => by (have hg1 := hg.2; (try simp only [decide_eq_true_eq, decide_eq_false_iff_not] at hg1); exact pu_move (by exact OT.tmp rfl))) rfl ?_
  refine op_gu_acts () rfl rfl rfl (OT.gu_mk (OT.tmp rfl)) (fun hg => by (have hg1 := hg.2; (try simp only [decide_eq_true_eq, decide_eq_false_iff_not] at hg1); exact acts_lit (d := kI) (v0 := 0) (show slTy Try.prog 36 3 1 8 = true from by decide +kernel) (show tyOk Try.prog 3 false 1 = true from by decide +kernel) zI (show 2 * 1 ≤ 16777216 from by decide) (by decide) (fills_arr rfl rfl (by decide) OT.const (fills_arr rfl rfl (by decide) OT.const fills_nil)))) rfl (fun _ _ => ?_)
  refine op_gu_acts () rfl rfl rfl (OT.gu_mk (OT.tmp rfl)) (fun hg => by (have hg1 := hg.2; (try simp only [decide_eq_true_eq, decide_eq_false_iff_not] at hg1); exact acts_call (Ints_fn [2, 1] [2, 1] (by decide)) (show enters Try.prog 12 = true from by decide +kernel) (OTs.cons (by exact OT.gu (OT.tmp rfl) hg) (OTs.cons (by exact OT.gu (OT.tmp rfl) hg) OTs.nil)) (List.Perm.refl _))) rfl (fun _ _ => ?_)
  refine op_pure (pu_pick_and (OT.tmp rfl) (by exact OT.tmp rfl)) rfl rfl ?_
  refine op_pure (pu_move (OT.tmp rfl)) rfl rfl ?_
  refine op_gu rfl rfl rfl (OT.gu_mk (OT.tmp rfl)) (fun hg => by (have hg1 := hg.2; (try simp only [decide_eq_true_eq, decide_eq_false_iff_not] at hg1); exact pu_move (by exact OT.tmp rfl))) rfl ?_
  refine op_gu rfl rfl rfl (OT.gu_mk (OT.tmp rfl)) (fun hg => by (have hg1 := hg.2; (try simp only [decide_eq_true_eq, decide_eq_false_iff_not] at hg1); exact pu_index (by exact OT.gu (OT.tmp rfl) hg) OT.const Try.underlying35 (show tyOk Try.prog 45 false 1 = true from by decide +kernel) (by omega) (by (simp; done)))) rfl ?_
  refine op_gu rfl rfl rfl (OT.gu_mk (OT.tmp rfl)) (fun hg => by (have hg1 := hg.2; (try simp only [decide_eq_true_eq, decide_eq_false_iff_not] at hg1); exact pu_load (by exact OT.gu (OT.tmp rfl) hg) (show tyOk Try.prog 45 false 1 = true from by decide +kernel))) rfl ?_
  refine op_gu rfl rfl rfl (OT.gu_mk (OT.tmp rfl)) (fun hg => by (have hg1 := hg.2; (try simp only [decide_eq_true_eq, decide_eq_false_iff_not] at hg1); exact pu_index (by exact OT.gu (OT.tmp rfl) hg) OT.const Try.underlying45 (show tyOk Try.prog 3 false 1 = true from by decide +kernel) (by omega) (by decide))) rfl ?_
  refine op_gu rfl rfl rfl (OT.gu_mk (OT.tmp rfl)) (fun hg => by (have hg1 := hg.2; (try simp only [decide_eq_true_eq, decide_eq_false_iff_not] at hg1); exact pu_load (by exact OT.gu (OT.tmp rfl) hg) (show tyOk Try.prog 3 false 1 = true from by decide +kernel))) rfl ?_
  refine op_gu rfl rfl rfl (OT.gu_mk (OT.tmp rfl)) (fun hg => by (have hg1 := hg.2; (try simp only [decide_eq_true_eq, decide_eq_false_iff_not] at hg1); exact pu_eql (by exact OT.gu (OT.tmp rfl) hg) OT.const)) rfl ?_
  refine op_pure (pu_pick_and (OT.tmp rfl) (by exact OT.tmp rfl)) rfl rfl ?_
  refine op_pure (pu_assign (OT.tmp rfl)) rfl rfl ?_
  refine tr_nil ?_
  refine then_normal ?_
  refine tr_ret ?_
  exact ret_one .ret (.inl rfl) rfl () (OT.val (OT.tmp rfl) (congrArg Value.bool (rfl))) trivial (by exact picks_nil)
end Go.Proofs.Ytakkjljhjfkkbaa
/- Rows' arguments opened: bytes, structs of three and of five fields. -/
namespace Go.Gw
open Go
set_option linter.unusedVariables false
set_option linter.unusedSimpArgs false
theorem opn_bs {P : Program} {t : TypeId} (ht : P.underlying t = some .string) : Opn P t kS (fun _ => True) := fun Hh enc w fuel cs x h => by
  obtain ⟨n, rfl, _, _⟩ := DataW.trod_string ht h
  refine ⟨n.data.toList, ?_, trivial⟩
  show _ = [Value.string (bs n.data.toList)]
  rw [bs_of]
theorem opn_struct3 {P : Program} {α β γ : Type} {a : Kd α} {b : Kd β} {c : Kd γ} {g0 : α → Prop} {g1 : β → Prop} {g2 : γ → Prop} {t : TypeId} {f0 f1 f2 : Field} (ht : P.underlying t = some (.struct #[f0, f1, f2])) (h0 : Opn P f0.type a g0) (h1 : Opn P f1.type b g1) (h2 : Opn P f2.type c g2)
    (o0 : f0.offset = 0) (o1 : f1.offset = a.sz) (o2 : f2.offset = a.sz + b.sz) (s0 : P.cellsOf f0.type = a.sz) (s1 : P.cellsOf f1.type = b.sz) (s2 : P.cellsOf f2.type = c.sz) (s : P.cellsOf t = a.sz + b.sz + c.sz) : Opn P t (kpair a (kpair b c)) (fun _ => True) := fun Hh enc w fuel cs x h => by
  obtain ⟨xs, n, _, rfl, hl, hlen, hf⟩ := DataW.trod_struct ht h
  match xs, hlen with
  | [y0, y1, y2], _ =>
    have e0 := hf 0 f0 rfl
    have e1 := hf 1 f1 rfl
    have e2 := hf 2 f2 rfl
    simp only [List.getElem?_cons_zero, List.getElem?_cons_succ] at e0 e1 e2
    rw [o0, s0, List.drop_zero] at e0
    rw [o1, s1] at e1
    rw [o2, s2] at e2
    obtain ⟨u, hu, gu⟩ := h0 Hh enc w n _ _ e0
    obtain ⟨v, hv, gv⟩ := h1 Hh enc w n _ _ e1
    obtain ⟨z, hz, gz⟩ := h2 Hh enc w n _ _ e2
    refine ⟨(u, v, z), ⟨_, _, hu, ⟨_, _, hv, hz, rfl⟩, ?_⟩, trivial⟩
    rw [List.take_of_length_le (l := cs.drop (a.sz + b.sz)) (by rw [List.length_drop]; omega)]
    rw [← List.drop_drop, List.take_append_drop, List.take_append_drop]
theorem opn_struct5 {P : Program} {α β γ δ ε : Type} {a : Kd α} {b : Kd β} {c : Kd γ} {d : Kd δ} {e : Kd ε} {g0 : α → Prop} {g1 : β → Prop} {g2 : γ → Prop} {g3 : δ → Prop} {g4 : ε → Prop} {t : TypeId} {f0 f1 f2 f3 f4 : Field} (ht : P.underlying t = some (.struct #[f0, f1, f2, f3, f4])) (h0 : Opn P f0.type a g0) (h1 : Opn P f1.type b g1) (h2 : Opn P f2.type c g2) (h3 : Opn P f3.type d g3) (h4 : Opn P f4.type e g4)
    (o0 : f0.offset = 0) (o1 : f1.offset = a.sz) (o2 : f2.offset = a.sz + b.sz) (o3 : f3.offset = a.sz + b.sz + c.sz) (o4 : f4.offset = a.sz + b.sz + c.sz + d.sz) (s0 : P.cellsOf f0.type = a.sz) (s1 : P.cellsOf f1.type = b.sz) (s2 : P.cellsOf f2.type = c.sz) (s3 : P.cellsOf f3.type = d.sz) (s4 : P.cellsOf f4.type = e.sz) (s : P.cellsOf t = a.sz + b.sz + c.sz + d.sz + e.sz) : Opn P t (kpair a (kpair b (kpair c (kpair d e)))) (fun _ => True) := fun Hh enc w fuel cs x h => by
  obtain ⟨xs, n, _, rfl, hl, hlen, hf⟩ := DataW.trod_struct ht h
  match xs, hlen with
  | [y0, y1, y2, y3, y4], _ =>
    have e0 := hf 0 f0 rfl
    have e1 := hf 1 f1 rfl
    have e2 := hf 2 f2 rfl
    have e3 := hf 3 f3 rfl
    have e4 := hf 4 f4 rfl
    simp only [List.getElem?_cons_zero, List.getElem?_cons_succ] at e0 e1 e2 e3 e4
    rw [o0, s0, List.drop_zero] at e0
    rw [o1, s1] at e1
    rw [o2, s2] at e2
    rw [o3, s3] at e3
    rw [o4, s4] at e4
    obtain ⟨u, hu, _⟩ := h0 Hh enc w n _ _ e0
    obtain ⟨v, hv, _⟩ := h1 Hh enc w n _ _ e1
    obtain ⟨z, hz, _⟩ := h2 Hh enc w n _ _ e2
    obtain ⟨y, hy, _⟩ := h3 Hh enc w n _ _ e3
    obtain ⟨r, hr, _⟩ := h4 Hh enc w n _ _ e4
    refine ⟨(u, v, z, y, r), ⟨_, _, hu, ⟨_, _, hv, ⟨_, _, hz, ⟨_, _, hy, hr, rfl⟩, rfl⟩, rfl⟩, ?_⟩, trivial⟩
    have dd : ∀ i j, cs.drop (i + j) = (cs.drop i).drop j := fun i j => by rw [List.drop_drop]
    rw [List.take_of_length_le (l := cs.drop (a.sz + b.sz + c.sz + d.sz)) (by rw [List.length_drop]; omega)]
    rw [dd (a.sz + b.sz + c.sz) d.sz, List.take_append_drop, dd (a.sz + b.sz) c.sz, List.take_append_drop, dd a.sz b.sz, List.take_append_drop, List.take_append_drop]
end Go.Gw
namespace Go.Proofs.Ytakkjljhjfkkbaa
open Go Go.Gw Go.Tu Go.Jn
theorem few_args {v : Vw} {l : List Ed} (h : fitsB v l = true) : l.length ≤ 25 ∧ v.2.2.2.1.length ≤ 12 ∧ v.2.2.1.length ≤ 12 := fits_iff.1 h
end Go.Proofs.Ytakkjljhjfkkbaa
/- The law of one edge more: a variable's place sought by going through all of them. -/
namespace Go.Jn
open Go Go.Gw Go.Tu
set_option linter.unusedVariables false
set_option linter.unusedSimpArgs false
/-- What the row has at the last of the first n variables that is x; 0 if none is. -/
def seek (V : List Lab) (r : Tp) (x : Lab) : Nat → Int
  | 0 => 0
  | n + 1 => if at' V (n : Int) = x then at' r (n : Int) else seek V r x n
theorem seek_succ {V : List Lab} {r : Tp} {x : Lab} {n : Nat} : seek V r x (n + 1) = if at' V (n : Int) = x then at' r (n : Int) else seek V r x n := rfl
theorem seek_env {V : List Lab} {r : Tp} {x : Lab} (hV : V.Nodup) (hl : r.length = V.length) : seek V r x V.length = env V r x := by
  have main : ∀ n, n ≤ V.length → (ix V x < n → seek V r x n = env V r x) ∧ (n ≤ ix V x → seek V r x n = 0) := by
    intro n
    induction n with
    | zero => exact fun _ => ⟨fun h => absurd h (by omega), fun _ => rfl⟩
    | succ n ih =>
      intro hn
      obtain ⟨h1, h2⟩ := ih (by omega)
      unfold seek
      rw [at'_nat (by omega : n < V.length), at'_nat (by omega : n < r.length)]
      by_cases e : V[n] = x
      · have hix : ix V x = n := by unfold ix; rw [← e]; exact hV.idxOf_getElem n (by omega)
        rw [if_pos e]
        refine ⟨fun _ => ?_, fun h => absurd h (by omega)⟩
        unfold env
        rw [hix, List.getD_eq_getElem?_getD, List.getElem?_eq_getElem (by omega), Option.getD_some]
      · rw [if_neg e]
        have hix : ix V x ≠ n := by
          intro h
          have h3 : V.idxOf x < V.length := by show ix V x < _; omega
          have := List.getElem_idxOf h3
          exact e (by rw [← this]; congr 1; exact h.symm)
        exact ⟨fun h => h1 (by omega), fun h => h2 (by omega)⟩
  obtain ⟨h1, h2⟩ := main V.length (Nat.le_refl _)
  rcases Nat.lt_or_ge (ix V x) V.length with h | h
  · exact h1 h
  · rw [h2 h]
    unfold env
    rw [List.getD_eq_getElem?_getD, List.getElem?_eq_none (by omega), Option.getD_none]
theorem rows_small {v : Vw} {l : List Ed} {r : List Tp × Int} (h : RowsSay v l r) : Small r.1 := by
  rcases h with ⟨_, rfl⟩ | ⟨_, _, rfl⟩ | ⟨hok, hn, rfl⟩
  · exact ⟨by simp, by simp⟩
  · exact ⟨by simp, by simp⟩
  · obtain ⟨h1, h2, _, h4, _⟩ := rows_facts hok hn rfl
    exact ⟨Nat.le_trans h1 (by omega), fun x hx => by have := h2 x hx; omega⟩
/-- One of the first k atoms has the edge m in the row. -/
def usedA (V : List Lab) (r : Tp) (m : Ed) (A : List Atm) : Bool := A.any fun x => decide (m = (env V r x.1, x.2.1, env V r x.2.2))
theorem usedA_snoc (V : List Lab) (r : Tp) (m : Ed) (A : List Atm) (x : Atm) : usedA V r m (A ++ [x]) = (usedA V r m A || decide (m = (env V r x.1, x.2.1, env V r x.2.2))) := by
  unfold usedA; rw [List.any_append]; simp
theorem used_all {v : Vw} {l : List Ed} {m : Ed} {a b : List Tp × Int} (ha : RowsSay v l a) (hb : RowsSay v (l ++ [m]) b) (h1 : a.2 = 0) (h2 : b.2 = 0) {r : Tp} (hr : r ∈ withoutL b.1 a.1) : r.length = (varsL v.2.2.2.1).length ∧ usedA (varsL v.2.2.2.1) r m v.2.2.2.1 = true := by
  unfold withoutL at hr
  rw [List.mem_filter] at hr
  obtain ⟨h3, x, hx, h4⟩ := more_new ha hb h1 h2 hr.1 (by simpa using hr.2)
  exact ⟨h3, List.any_eq_true.2 ⟨x, hx, decide_eq_true h4⟩⟩
end Go.Jn
/- Walks through the Go functions rhizomelaw11.JoinMore, as typed contracts. -/
namespace Go.Proofs.Ytakkjljhjfkkbaa
open Go Go.Gw Go.So Go.Tu Go.Jn
set_option linter.unusedVariables false
set_option linter.unusedSimpArgs false

set_option maxRecDepth 20000 in
/-- rhizome/rhizomelaw11.JoinMore -/
theorem JoinMore_fn (v : Vw) (l : List Ed) (m : Ed) : Ct Try.prog 4 [kV.T v, SlT kE l, kE.T m] ([]) Unit (fun _ => BoolT true) (fun _ => []) (fun _ => True) := by
  refine fn_intro Try.func4 rfl rfl ?_
  intro H w
  refine tr_seq ?_
  -- region 0
  refine tr_env (es_cons (t := 0) (OT.tmp rfl) (es_cons (t := 1) (OT.tmp rfl) (es_cons (t := 2) (OT.tmp rfl) es_nil))) ?_
  refine tr_region ?_
  refine op_acts (acts_box (d := kV) (OT.tmp rfl)) (List.Perm.refl _) rfl rfl (fun g0_0 _ => ?_)
  refine op_acts (acts_box (d := kE) (OT.tmp rfl)) (List.Perm.refl _) rfl rfl (fun g0_1 _ => ?_)
  refine op_pure (pu_assign OT.const) rfl rfl ?_
  refine tr_nil ?_
  refine then_normal ?_
  refine tr_seq ?_
  refine tr_seq ?_
  -- region 1
  refine tr_env (es_cons (t := 1) (OT.tmp rfl) (es_cons (t := 3) (OT.tmp rfl) (es_cons (t := 5) (OT.tmp rfl) es_nil))) ?_
  refine tr_region ?_
  refine op_acts (acts_call awake_fn (show enters Try.prog 7 = true from by decide +kernel) OTs.nil (List.Perm.refl _)) (List.Perm.refl _) rfl rfl (fun _ _ => ?_)
  refine op_pure (pu_not (OT.tmp rfl)) rfl rfl ?_
  refine op_pure (pu_move (OT.tmp rfl)) rfl rfl ?_
  refine op_gu rfl rfl rfl (OT.gu_mk (OT.tmp rfl)) (fun hg => by (have hg1 := hg.2; (try simp only [decide_eq_true_eq, decide_eq_false_iff_not] at hg1); exact pu_load_var (by exact OT.tmp rfl) (by exact mem_at 1 rfl) (show tyOk Try.prog 25 true 5 = true from by decide +kernel))) rfl ?_
  refine op_gu rfl rfl rfl (OT.gu_mk (OT.tmp rfl)) (fun hg => by (have hg1 := hg.2; (try simp only [decide_eq_true_eq, decide_eq_false_iff_not] at hg1); exact pu_move (by exact OT.tmp rfl))) rfl ?_
  refine op_gu_acts () rfl rfl rfl (OT.gu_mk (OT.tmp rfl)) (fun hg => by (have hg1 := hg.2; (try simp only [decide_eq_true_eq, decide_eq_false_iff_not] at hg1); exact acts_call (Fits_fn v l) (show enters Try.prog 8 = true from by decide +kernel) (OTs.cons (by exact OT.gu (OT.tmp rfl) hg) (OTs.cons (by exact OT.gu (OT.tmp rfl) hg) OTs.nil)) (List.Perm.refl _))) rfl (fun _ _ => ?_)
  refine op_gu rfl rfl rfl (OT.gu_mk (OT.tmp rfl)) (fun hg => by (have hg1 := hg.2; (try simp only [decide_eq_true_eq, decide_eq_false_iff_not] at hg1); exact pu_not (by exact OT.gu (OT.tmp rfl) hg))) rfl ?_
  refine op_pure (pu_pick_or (OT.tmp rfl) (by exact OT.tmp rfl)) rfl rfl ?_
  refine tr_nil ?_
  refine then_normal ?_
  refine tr_cond (OT.tmp rfl) (fun c29 => ?_) (fun c29 => ?_)
  · skip
    refine tr_seq ?_
    -- region 2
    refine tr_env es_nil ?_
    refine tr_region ?_
    refine op_acts (acts_call awake_fn (show enters Try.prog 7 = true from by decide +kernel) OTs.nil (List.Perm.refl _)) (List.Perm.refl _) rfl rfl (fun _ _ => ?_)
    refine op_pure (pu_assign (OT.tmp rfl)) rfl rfl ?_
    refine tr_nil ?_
    refine then_normal ?_
    refine tr_ret ?_
    refine then_ret ?_
    exact ret_one .ret (.inl rfl) rfl () (OT.val (OT.tmp rfl) (congrArg Value.bool (rfl))) trivial (by exact picks_nil)
  · skip
    have hf : fitsB v l = true := by simp only [Bool.or_eq_false_iff, Bool.not_eq_false'] at c29; exact c29.2
    obtain ⟨hl, ha, ho⟩ := few_args hf
    refine tr_skip ?_
    refine then_normal ?_
    refine tr_seq ?_
    -- region 3
    refine tr_env (es_cons (t := 1) (OT.tmp rfl) (es_cons (t := 3) (OT.tmp rfl) (es_cons (t := 5) (OT.tmp rfl) es_nil))) ?_
    refine tr_region ?_
    refine op_pure (pu_load_var (OT.tmp rfl) (by exact mem_at 1 rfl) (show tyOk Try.prog 25 true 5 = true from by decide +kernel)) rfl rfl ?_
    refine op_pure (pu_move (OT.tmp rfl)) rfl rfl ?_
    refine op_acts (acts_call (Rows_fn v l (by unfold maxLen; omega) (by unfold maxLen; omega) (by omega)) (show enters Try.prog 13 = true from by decide +kernel) (OTs.cons (OT.tmp rfl) (OTs.cons (OT.tmp rfl) OTs.nil)) (List.Perm.refl _)) (List.Perm.refl _) rfl rfl (fun r3_2 hr3_2 => ?_)
    refine op_pure (pu_move (OT.tmp rfl)) rfl rfl ?_
    refine op_pure (pu_extract (OT.tmp rfl) rfl) rfl rfl ?_
    refine op_pure (pu_extract (OT.tmp rfl) rfl) rfl rfl ?_
    refine op_pure (pu_assign (OT.tmp rfl)) rfl rfl ?_
    refine op_pure (pu_assign (OT.tmp rfl)) rfl rfl ?_
    refine tr_nil ?_
    refine then_normal ?_
    refine tr_seq ?_
    -- region 4
    refine tr_env (es_cons (t := 1) (OT.tmp rfl) (es_cons (t := 3) (OT.tmp rfl) (es_cons (t := 5) (OT.tmp rfl) (es_cons (t := 7) (OT.tmp rfl) (es_cons (t := 8) (OT.tmp rfl) es_nil))))) ?_
    apply tr_anyS (ρ := Value × Value × List Tp × Int) (ψ := fun c rr => cond (c.getD 3 false) (RowsSay v (l ++ [m]) rr.2.2) True) (ups := fun i r r' => cond (Nat.beq i 1) (r'.2 = r.2) (cond (Nat.beq i 3) (r'.1 = r.1 ∧ r'.2.2 = r.2.2) (cond (Nat.beq i 6) (r' = r) (cond (Nat.beq i 7) (r'.1 = r.1 ∧ r'.2.1 = r.2.1) (True))))) (ps := [1, 3, 6, 7]) (Lf := fun c rr => cond (c.getD 0 false) (cond (c.getD 1 false) (cond (c.getD 2 false) (cond (c.getD 3 false) ([BlkI g0_1 34 kE m, BlkI g0_0 25 kV v]) ([BlkI g0_1 34 kE m, BlkI g0_0 25 kV v])) (cond (c.getD 3 false) ([]) ([OwnI 34 kE rr.2.1 (l), BlkI g0_1 34 kE m, BlkI g0_0 25 kV v]))) (cond (c.getD 2 false) (cond (c.getD 3 false) ([]) ([])) (cond (c.getD 3 false) ([]) ([OwnI 34 kE rr.1 ([]), BlkI g0_1 34 kE m, BlkI g0_0 25 kV v])))) (cond (c.getD 1 false) (cond (c.getD 2 false) (cond (c.getD 3 false) ([]) ([])) (cond (c.getD 3 false) ([]) ([]))) (cond (c.getD 2 false) (cond (c.getD 3 false) ([]) ([])) (cond (c.getD 3 false) ([]) ([BlkI g0_1 34 kE m, BlkI g0_0 25 kV v]))))) (nilS, nilS, [], 0) trivial (by kernel_rfl) (by kernel_rfl) (m := 12) (ns := [[(3, none)], [], [(1, none)], [(39, some 1), (40, some 2)], [(5, none)], [(42, some 4)], [(41, some 3), (43, some 5)], [(38, some 0), (44, some 6)], [(45, some 7)], [(37, some 8)], [(37, some 8)], [(46, some 9)]]) (by kernel_rfl) (Ts := fun rr => [kV.T v, IsV rr.1, SlT kE l, IsV rr.2.1, kE.T m, SlT kE [m], SlT kE (l ++ [m]), TupT [SlT kT rr.2.2.1, I64 rr.2.2.2], TupT [SlT kT rr.2.2.1, I64 rr.2.2.2], SlT kT rr.2.2.1, I64 rr.2.2.2, SlT kT rr.2.2.1]) (fun _ => rfl)
    case hops =>
      refine ⟨?_, ⟨?_, ⟨?_, ⟨?_, ⟨?_, ⟨?_, ⟨?_, ⟨?_, ⟨?_, ⟨?_, ⟨?_, ⟨?_, trivial⟩⟩⟩⟩⟩⟩⟩⟩⟩⟩⟩⟩
      · refine ⟨⟨[[false, false, false, false], [true, false, false, false], [true, true, false, false], [true, true, true, false]], by kernel_rfl, ⟨?_, ⟨?_, ⟨?_, ⟨?_, trivial⟩⟩⟩⟩⟩, ?_⟩
        · intro rr hrr; first | exact ropg_of rr rfl ⟨hrr, rfl⟩ (rop_pure rfl (pu_load (OT.tmp rfl) (show tyOk Try.prog 25 true 5 = true from by decide +kernel))) | exact ropg_of rr rfl ⟨hrr, rfl⟩ (rop_pure rfl (pu_load_var (OT.tmp rfl) (by exact mem_at 1 rfl) (show tyOk Try.prog 25 true 5 = true from by decide +kernel))) | exact ropg_of rr rfl ⟨hrr, rfl⟩ (rop_pure rfl (pu_load_own0 (OT.tmp rfl) (by first | exact mem_at 0 rfl | exact mem_at 1 rfl | exact mem_at 2 rfl | exact mem_at 3 rfl | exact mem_at 4 rfl | exact mem_at 5 rfl | exact mem_at 6 rfl | exact mem_at 7 rfl) (by first | omega | assumption | (simp; omega) | (simp [maxLen]; omega) | (simp [maxLen] at *; omega) | (simp; done) | decide) (by first | omega | assumption | (simp; omega) | (simp [maxLen]; omega) | (simp [maxLen] at *; omega) | (simp; done) | decide) (show tyOk Try.prog 25 true 5 = true from by decide +kernel))) | exact ropg_of rr rfl ⟨hrr, rfl⟩ (rop_pure rfl (pu_load_arr (OT.tmp rfl) (by first | exact mem_at 0 rfl | exact mem_at 1 rfl | exact mem_at 2 rfl | exact mem_at 3 rfl | exact mem_at 4 rfl | exact mem_at 5 rfl | exact mem_at 6 rfl | exact mem_at 7 rfl) (show tyOk Try.prog 25 true 5 = true from by decide +kernel) (by first | omega | assumption | (simp; omega) | (simp [maxLen]; omega) | (simp [maxLen] at *; omega) | (simp; done) | decide) (by first | omega | assumption | (simp; omega) | (simp [maxLen]; omega) | (simp [maxLen] at *; omega) | (simp; done) | decide))) | exact ropg_of rr rfl ⟨hrr, rfl⟩ (rop_pure rfl (pu_load_p0 (OT.tmp rfl) (by first | exact mem_at 0 rfl | exact mem_at 1 rfl | exact mem_at 2 rfl | exact mem_at 3 rfl | exact mem_at 4 rfl | exact mem_at 5 rfl | exact mem_at 6 rfl | exact mem_at 7 rfl) (show tyOk Try.prog 25 true 5 = true from by decide +kernel))) | exact ropg_of rr rfl ⟨hrr, rfl⟩ (rop_pure rfl (pu_load_p1 (OT.tmp rfl) (by first | exact mem_at 0 rfl | exact mem_at 1 rfl | exact mem_at 2 rfl | exact mem_at 3 rfl | exact mem_at 4 rfl | exact mem_at 5 rfl | exact mem_at 6 rfl | exact mem_at 7 rfl) (show tyOk Try.prog 25 true 5 = true from by decide +kernel))) | exact ropg_of rr rfl ⟨hrr, rfl⟩ (rop_pure rfl (pu_load_q (OT.tmp rfl) (by first | exact mem_at 0 rfl | exact mem_at 1 rfl | exact mem_at 2 rfl | exact mem_at 3 rfl | exact mem_at 4 rfl | exact mem_at 5 rfl | exact mem_at 6 rfl | exact mem_at 7 rfl) (by first | omega | assumption | (simp; omega) | (simp [maxLen]; omega) | (simp [maxLen] at *; omega) | (simp; done) | decide) (by first | omega | assumption | (simp; omega) | (simp [maxLen]; omega) | (simp [maxLen] at *; omega) | (simp; done) | decide) (show tyOk Try.prog 25 true 5 = true from by decide +kernel)))
        · intro rr hrr; first | exact ropg_of rr rfl ⟨hrr, rfl⟩ (rop_pure rfl (pu_load (OT.tmp rfl) (show tyOk Try.prog 25 true 5 = true from by decide +kernel))) | exact ropg_of rr rfl ⟨hrr, rfl⟩ (rop_pure rfl (pu_load_var (OT.tmp rfl) (by exact mem_at 2 rfl) (show tyOk Try.prog 25 true 5 = true from by decide +kernel))) | exact ropg_of rr rfl ⟨hrr, rfl⟩ (rop_pure rfl (pu_load_own0 (OT.tmp rfl) (by first | exact mem_at 0 rfl | exact mem_at 1 rfl | exact mem_at 2 rfl | exact mem_at 3 rfl | exact mem_at 4 rfl | exact mem_at 5 rfl | exact mem_at 6 rfl | exact mem_at 7 rfl) (by first | omega | assumption | (simp; omega) | (simp [maxLen]; omega) | (simp [maxLen] at *; omega) | (simp; done) | decide) (by first | omega | assumption | (simp; omega) | (simp [maxLen]; omega) | (simp [maxLen] at *; omega) | (simp; done) | decide) (show tyOk Try.prog 25 true 5 = true from by decide +kernel))) | exact ropg_of rr rfl ⟨hrr, rfl⟩ (rop_pure rfl (pu_load_arr (OT.tmp rfl) (by first | exact mem_at 0 rfl | exact mem_at 1 rfl | exact mem_at 2 rfl | exact mem_at 3 rfl | exact mem_at 4 rfl | exact mem_at 5 rfl | exact mem_at 6 rfl | exact mem_at 7 rfl) (show tyOk Try.prog 25 true 5 = true from by decide +kernel) (by first | omega | assumption | (simp; omega) | (simp [maxLen]; omega) | (simp [maxLen] at *; omega) | (simp; done) | decide) (by first | omega | assumption | (simp; omega) | (simp [maxLen]; omega) | (simp [maxLen] at *; omega) | (simp; done) | decide))) | exact ropg_of rr rfl ⟨hrr, rfl⟩ (rop_pure rfl (pu_load_p0 (OT.tmp rfl) (by first | exact mem_at 0 rfl | exact mem_at 1 rfl | exact mem_at 2 rfl | exact mem_at 3 rfl | exact mem_at 4 rfl | exact mem_at 5 rfl | exact mem_at 6 rfl | exact mem_at 7 rfl) (show tyOk Try.prog 25 true 5 = true from by decide +kernel))) | exact ropg_of rr rfl ⟨hrr, rfl⟩ (rop_pure rfl (pu_load_p1 (OT.tmp rfl) (by first | exact mem_at 0 rfl | exact mem_at 1 rfl | exact mem_at 2 rfl | exact mem_at 3 rfl | exact mem_at 4 rfl | exact mem_at 5 rfl | exact mem_at 6 rfl | exact mem_at 7 rfl) (show tyOk Try.prog 25 true 5 = true from by decide +kernel))) | exact ropg_of rr rfl ⟨hrr, rfl⟩ (rop_pure rfl (pu_load_q (OT.tmp rfl) (by first | exact mem_at 0 rfl | exact mem_at 1 rfl | exact mem_at 2 rfl | exact mem_at 3 rfl | exact mem_at 4 rfl | exact mem_at 5 rfl | exact mem_at 6 rfl | exact mem_at 7 rfl) (by first | omega | assumption | (simp; omega) | (simp [maxLen]; omega) | (simp [maxLen] at *; omega) | (simp; done) | decide) (by first | omega | assumption | (simp; omega) | (simp [maxLen]; omega) | (simp [maxLen] at *; omega) | (simp; done) | decide) (show tyOk Try.prog 25 true 5 = true from by decide +kernel)))
        · intro rr hrr; first | exact ropg_of rr rfl ⟨hrr, rfl⟩ (rop_pure rfl (pu_load (OT.tmp rfl) (show tyOk Try.prog 25 true 5 = true from by decide +kernel))) | exact ropg_of rr rfl ⟨hrr, rfl⟩ (rop_pure rfl (pu_load_var (OT.tmp rfl) (by exact mem_at 2 rfl) (show tyOk Try.prog 25 true 5 = true from by decide +kernel))) | exact ropg_of rr rfl ⟨hrr, rfl⟩ (rop_pure rfl (pu_load_own0 (OT.tmp rfl) (by first | exact mem_at 0 rfl | exact mem_at 1 rfl | exact mem_at 2 rfl | exact mem_at 3 rfl | exact mem_at 4 rfl | exact mem_at 5 rfl | exact mem_at 6 rfl | exact mem_at 7 rfl) (by first | omega | assumption | (simp; omega) | (simp [maxLen]; omega) | (simp [maxLen] at *; omega) | (simp; done) | decide) (by first | omega | assumption | (simp; omega) | (simp [maxLen]; omega) | (simp [maxLen] at *; omega) | (simp; done) | decide) (show tyOk Try.prog 25 true 5 = true from by decide +kernel))) | exact ropg_of rr rfl ⟨hrr, rfl⟩ (rop_pure rfl (pu_load_arr (OT.tmp rfl) (by first | exact mem_at 0 rfl | exact mem_at 1 rfl | exact mem_at 2 rfl | exact mem_at 3 rfl | exact mem_at 4 rfl | exact mem_at 5 rfl | exact mem_at 6 rfl | exact mem_at 7 rfl) (show tyOk Try.prog 25 true 5 = true from by decide +kernel) (by first | omega | assumption | (simp; omega) | (simp [maxLen]; omega) | (simp [maxLen] at *; omega) | (simp; done) | decide) (by first | omega | assumption | (simp; omega) | (simp [maxLen]; omega) | (simp [maxLen] at *; omega) | (simp; done) | decide))) | exact ropg_of rr rfl ⟨hrr, rfl⟩ (rop_pure rfl (pu_load_p0 (OT.tmp rfl) (by first | exact mem_at 0 rfl | exact mem_at 1 rfl | exact mem_at 2 rfl | exact mem_at 3 rfl | exact mem_at 4 rfl | exact mem_at 5 rfl | exact mem_at 6 rfl | exact mem_at 7 rfl) (show tyOk Try.prog 25 true 5 = true from by decide +kernel))) | exact ropg_of rr rfl ⟨hrr, rfl⟩ (rop_pure rfl (pu_load_p1 (OT.tmp rfl) (by first | exact mem_at 0 rfl | exact mem_at 1 rfl | exact mem_at 2 rfl | exact mem_at 3 rfl | exact mem_at 4 rfl | exact mem_at 5 rfl | exact mem_at 6 rfl | exact mem_at 7 rfl) (show tyOk Try.prog 25 true 5 = true from by decide +kernel))) | exact ropg_of rr rfl ⟨hrr, rfl⟩ (rop_pure rfl (pu_load_q (OT.tmp rfl) (by first | exact mem_at 0 rfl | exact mem_at 1 rfl | exact mem_at 2 rfl | exact mem_at 3 rfl | exact mem_at 4 rfl | exact mem_at 5 rfl | exact mem_at 6 rfl | exact mem_at 7 rfl) (by first | omega | assumption | (simp; omega) | (simp [maxLen]; omega) | (simp [maxLen] at *; omega) | (simp; done) | decide) (by first | omega | assumption | (simp; omega) | (simp [maxLen]; omega) | (simp [maxLen] at *; omega) | (simp; done) | decide) (show tyOk Try.prog 25 true 5 = true from by decide +kernel)))
        · intro rr hrr; first | exact ropg_of rr rfl ⟨hrr, rfl⟩ (rop_pure rfl (pu_load (OT.tmp rfl) (show tyOk Try.prog 25 true 5 = true from by decide +kernel))) | exact ropg_of rr rfl ⟨hrr, rfl⟩ (rop_pure rfl (pu_load_var (OT.tmp rfl) (by exact mem_at 1 rfl) (show tyOk Try.prog 25 true 5 = true from by decide +kernel))) | exact ropg_of rr rfl ⟨hrr, rfl⟩ (rop_pure rfl (pu_load_own0 (OT.tmp rfl) (by first | exact mem_at 0 rfl | exact mem_at 1 rfl | exact mem_at 2 rfl | exact mem_at 3 rfl | exact mem_at 4 rfl | exact mem_at 5 rfl | exact mem_at 6 rfl | exact mem_at 7 rfl) (by first | omega | assumption | (simp; omega) | (simp [maxLen]; omega) | (simp [maxLen] at *; omega) | (simp; done) | decide) (by first | omega | assumption | (simp; omega) | (simp [maxLen]; omega) | (simp [maxLen] at *; omega) | (simp; done) | decide) (show tyOk Try.prog 25 true 5 = true from by decide +kernel))) | exact ropg_of rr rfl ⟨hrr, rfl⟩ (rop_pure rfl (pu_load_arr (OT.tmp rfl) (by first | exact mem_at 0 rfl | exact mem_at 1 rfl | exact mem_at 2 rfl | exact mem_at 3 rfl | exact mem_at 4 rfl | exact mem_at 5 rfl | exact mem_at 6 rfl | exact mem_at 7 rfl) (show tyOk Try.prog 25 true 5 = true from by decide +kernel) (by first | omega | assumption | (simp; omega) | (simp [maxLen]; omega) | (simp [maxLen] at *; omega) | (simp; done) | decide) (by first | omega | assumption | (simp; omega) | (simp [maxLen]; omega) | (simp [maxLen] at *; omega) | (simp; done) | decide))) | exact ropg_of rr rfl ⟨hrr, rfl⟩ (rop_pure rfl (pu_load_p0 (OT.tmp rfl) (by first | exact mem_at 0 rfl | exact mem_at 1 rfl | exact mem_at 2 rfl | exact mem_at 3 rfl | exact mem_at 4 rfl | exact mem_at 5 rfl | exact mem_at 6 rfl | exact mem_at 7 rfl) (show tyOk Try.prog 25 true 5 = true from by decide +kernel))) | exact ropg_of rr rfl ⟨hrr, rfl⟩ (rop_pure rfl (pu_load_p1 (OT.tmp rfl) (by first | exact mem_at 0 rfl | exact mem_at 1 rfl | exact mem_at 2 rfl | exact mem_at 3 rfl | exact mem_at 4 rfl | exact mem_at 5 rfl | exact mem_at 6 rfl | exact mem_at 7 rfl) (show tyOk Try.prog 25 true 5 = true from by decide +kernel))) | exact ropg_of rr rfl ⟨hrr, rfl⟩ (rop_pure rfl (pu_load_q (OT.tmp rfl) (by first | exact mem_at 0 rfl | exact mem_at 1 rfl | exact mem_at 2 rfl | exact mem_at 3 rfl | exact mem_at 4 rfl | exact mem_at 5 rfl | exact mem_at 6 rfl | exact mem_at 7 rfl) (by first | omega | assumption | (simp; omega) | (simp [maxLen]; omega) | (simp [maxLen] at *; omega) | (simp; done) | decide) (by first | omega | assumption | (simp; omega) | (simp [maxLen]; omega) | (simp [maxLen] at *; omega) | (simp; done) | decide) (show tyOk Try.prog 25 true 5 = true from by decide +kernel)))
        · exact ⟨fun _ _ _ _ => rfl, ⟨fun _ _ _ _ => rfl, ⟨fun _ _ _ _ => rfl, ⟨fun _ _ _ _ => rfl, trivial⟩⟩⟩⟩
      · refine ⟨⟨[[false, false, false, false]], by kernel_rfl, ⟨?_, trivial⟩⟩, ?_⟩
        · intro rr hrr; exact rops_acts (fun v => (v, rr.2)) rfl (acts_lit_own (d := kE) (v0 := (0, [], 0)) (show slTy Try.prog 26 34 3 32 = true from by decide +kernel) (show tyOk Try.prog 34 true 3 = true from by decide +kernel) zE (show 0 * 3 ≤ 16777216 from by decide) (by decide) fills_nil) (by exact perm_at 0 rfl) (fun _ => (List.Perm.refl _)) (fun r hr => ⟨trivial, by first | exact rfl | exact ⟨rfl, rfl⟩ | exact ⟨rfl, rfl, rfl⟩⟩) (fun _ _ _ _ h => h)
        · exact ⟨fun h => Bool.noConfusion (h.symm.trans (by kernel_rfl : _ = true)), ⟨fun _ r r' h => by first | rfl | (have h : r'.1 = r.1 ∧ r'.2.2 = r.2.2 := h; show (fun rr => IsV rr.1) r = (fun rr => IsV rr.1) r'; simp only [h]), ⟨fun _ r r' h => by first | rfl | (have h : r' = r := h; show (fun rr => IsV rr.1) r = (fun rr => IsV rr.1) r'; simp only [h]), ⟨fun _ r r' h => by first | rfl | (have h : r'.1 = r.1 ∧ r'.2.1 = r.2.1 := h; show (fun rr => IsV rr.1) r = (fun rr => IsV rr.1) r'; simp only [h]), trivial⟩⟩⟩⟩
      · refine ⟨⟨[[false, false, false, false], [true, false, false, false]], by kernel_rfl, ⟨?_, ⟨?_, trivial⟩⟩⟩, ?_⟩
        · intro rr hrr; exact ropg_of rr rfl ⟨hrr, rfl⟩ (rop_pure rfl (pu_move (OT.tmp rfl)))
        · intro rr hrr; exact ropg_of rr rfl ⟨hrr, rfl⟩ (rop_pure rfl (pu_move (OT.tmp rfl)))
        · exact ⟨fun _ _ _ _ => rfl, ⟨fun _ _ _ _ => rfl, ⟨fun _ _ _ _ => rfl, ⟨fun _ _ _ _ => rfl, trivial⟩⟩⟩⟩
      · refine ⟨⟨[[true, false, false, false]], by kernel_rfl, ⟨?_, trivial⟩⟩, ?_⟩
        · intro rr hrr; exact rops_acts (fun v => (rr.1, v, rr.2.2)) rfl (acts_append (OT.tmp rfl) (by exact perm_at 0 rfl) (OT.tmp rfl) (show slTy Try.prog 26 34 3 32 = true from by decide +kernel) (by (simp; omega)) (by (simp [maxLen]; omega))) (by exact perm_at 0 rfl) (fun _ => (List.Perm.refl _)) (fun r hr => ⟨trivial, by first | exact rfl | exact ⟨rfl, rfl⟩ | exact ⟨rfl, rfl, rfl⟩⟩) (fun _ _ _ _ h => h)
        · exact ⟨fun h => Bool.noConfusion (h.symm.trans (by kernel_rfl : _ = true)), ⟨fun h => Bool.noConfusion (h.symm.trans (by kernel_rfl : _ = true)), ⟨fun _ r r' h => by first | rfl | (have h : r' = r := h; show (fun rr => IsV rr.2.1) r = (fun rr => IsV rr.2.1) r'; simp only [h]), ⟨fun _ r r' h => by first | rfl | (have h : r'.1 = r.1 ∧ r'.2.1 = r.2.1 := h; show (fun rr => IsV rr.2.1) r = (fun rr => IsV rr.2.1) r'; simp only [h]), trivial⟩⟩⟩⟩
      · refine ⟨⟨[[false, false, false, false], [true, false, false, false], [true, true, false, false]], by kernel_rfl, ⟨?_, ⟨?_, ⟨?_, trivial⟩⟩⟩⟩, ?_⟩
        · intro rr hrr; first | exact ropg_of rr rfl ⟨hrr, rfl⟩ (rop_pure rfl (pu_load (OT.tmp rfl) (show tyOk Try.prog 34 true 3 = true from by decide +kernel))) | exact ropg_of rr rfl ⟨hrr, rfl⟩ (rop_pure rfl (pu_load_var (OT.tmp rfl) (by exact mem_at 0 rfl) (show tyOk Try.prog 34 true 3 = true from by decide +kernel))) | exact ropg_of rr rfl ⟨hrr, rfl⟩ (rop_pure rfl (pu_load_own0 (OT.tmp rfl) (by first | exact mem_at 0 rfl | exact mem_at 1 rfl | exact mem_at 2 rfl | exact mem_at 3 rfl | exact mem_at 4 rfl | exact mem_at 5 rfl | exact mem_at 6 rfl | exact mem_at 7 rfl) (by first | omega | assumption | (simp; omega) | (simp [maxLen]; omega) | (simp [maxLen] at *; omega) | (simp; done) | decide) (by first | omega | assumption | (simp; omega) | (simp [maxLen]; omega) | (simp [maxLen] at *; omega) | (simp; done) | decide) (show tyOk Try.prog 34 true 3 = true from by decide +kernel))) | exact ropg_of rr rfl ⟨hrr, rfl⟩ (rop_pure rfl (pu_load_arr (OT.tmp rfl) (by first | exact mem_at 0 rfl | exact mem_at 1 rfl | exact mem_at 2 rfl | exact mem_at 3 rfl | exact mem_at 4 rfl | exact mem_at 5 rfl | exact mem_at 6 rfl | exact mem_at 7 rfl) (show tyOk Try.prog 34 true 3 = true from by decide +kernel) (by first | omega | assumption | (simp; omega) | (simp [maxLen]; omega) | (simp [maxLen] at *; omega) | (simp; done) | decide) (by first | omega | assumption | (simp; omega) | (simp [maxLen]; omega) | (simp [maxLen] at *; omega) | (simp; done) | decide))) | exact ropg_of rr rfl ⟨hrr, rfl⟩ (rop_pure rfl (pu_load_p0 (OT.tmp rfl) (by first | exact mem_at 0 rfl | exact mem_at 1 rfl | exact mem_at 2 rfl | exact mem_at 3 rfl | exact mem_at 4 rfl | exact mem_at 5 rfl | exact mem_at 6 rfl | exact mem_at 7 rfl) (show tyOk Try.prog 34 true 3 = true from by decide +kernel))) | exact ropg_of rr rfl ⟨hrr, rfl⟩ (rop_pure rfl (pu_load_p1 (OT.tmp rfl) (by first | exact mem_at 0 rfl | exact mem_at 1 rfl | exact mem_at 2 rfl | exact mem_at 3 rfl | exact mem_at 4 rfl | exact mem_at 5 rfl | exact mem_at 6 rfl | exact mem_at 7 rfl) (show tyOk Try.prog 34 true 3 = true from by decide +kernel))) | exact ropg_of rr rfl ⟨hrr, rfl⟩ (rop_pure rfl (pu_load_q (OT.tmp rfl) (by first | exact mem_at 0 rfl | exact mem_at 1 rfl | exact mem_at 2 rfl | exact mem_at 3 rfl | exact mem_at 4 rfl | exact mem_at 5 rfl | exact mem_at 6 rfl | exact mem_at 7 rfl) (by first | omega | assumption | (simp; omega) | (simp [maxLen]; omega) | (simp [maxLen] at *; omega) | (simp; done) | decide) (by first | omega | assumption | (simp; omega) | (simp [maxLen]; omega) | (simp [maxLen] at *; omega) | (simp; done) | decide) (show tyOk Try.prog 34 true 3 = true from by decide +kernel)))
        · intro rr hrr; first | exact ropg_of rr rfl ⟨hrr, rfl⟩ (rop_pure rfl (pu_load (OT.tmp rfl) (show tyOk Try.prog 34 true 3 = true from by decide +kernel))) | exact ropg_of rr rfl ⟨hrr, rfl⟩ (rop_pure rfl (pu_load_var (OT.tmp rfl) (by exact mem_at 1 rfl) (show tyOk Try.prog 34 true 3 = true from by decide +kernel))) | exact ropg_of rr rfl ⟨hrr, rfl⟩ (rop_pure rfl (pu_load_own0 (OT.tmp rfl) (by first | exact mem_at 0 rfl | exact mem_at 1 rfl | exact mem_at 2 rfl | exact mem_at 3 rfl | exact mem_at 4 rfl | exact mem_at 5 rfl | exact mem_at 6 rfl | exact mem_at 7 rfl) (by first | omega | assumption | (simp; omega) | (simp [maxLen]; omega) | (simp [maxLen] at *; omega) | (simp; done) | decide) (by first | omega | assumption | (simp; omega) | (simp [maxLen]; omega) | (simp [maxLen] at *; omega) | (simp; done) | decide) (show tyOk Try.prog 34 true 3 = true from by decide +kernel))) | exact ropg_of rr rfl ⟨hrr, rfl⟩ (rop_pure rfl (pu_load_arr (OT.tmp rfl) (by first | exact mem_at 0 rfl | exact mem_at 1 rfl | exact mem_at 2 rfl | exact mem_at 3 rfl | exact mem_at 4 rfl | exact mem_at 5 rfl | exact mem_at 6 rfl | exact mem_at 7 rfl) (show tyOk Try.prog 34 true 3 = true from by decide +kernel) (by first | omega | assumption | (simp; omega) | (simp [maxLen]; omega) | (simp [maxLen] at *; omega) | (simp; done) | decide) (by first | omega | assumption | (simp; omega) | (simp [maxLen]; omega) | (simp [maxLen] at *; omega) | (simp; done) | decide))) | exact ropg_of rr rfl ⟨hrr, rfl⟩ (rop_pure rfl (pu_load_p0 (OT.tmp rfl) (by first | exact mem_at 0 rfl | exact mem_at 1 rfl | exact mem_at 2 rfl | exact mem_at 3 rfl | exact mem_at 4 rfl | exact mem_at 5 rfl | exact mem_at 6 rfl | exact mem_at 7 rfl) (show tyOk Try.prog 34 true 3 = true from by decide +kernel))) | exact ropg_of rr rfl ⟨hrr, rfl⟩ (rop_pure rfl (pu_load_p1 (OT.tmp rfl) (by first | exact mem_at 0 rfl | exact mem_at 1 rfl | exact mem_at 2 rfl | exact mem_at 3 rfl | exact mem_at 4 rfl | exact mem_at 5 rfl | exact mem_at 6 rfl | exact mem_at 7 rfl) (show tyOk Try.prog 34 true 3 = true from by decide +kernel))) | exact ropg_of rr rfl ⟨hrr, rfl⟩ (rop_pure rfl (pu_load_q (OT.tmp rfl) (by first | exact mem_at 0 rfl | exact mem_at 1 rfl | exact mem_at 2 rfl | exact mem_at 3 rfl | exact mem_at 4 rfl | exact mem_at 5 rfl | exact mem_at 6 rfl | exact mem_at 7 rfl) (by first | omega | assumption | (simp; omega) | (simp [maxLen]; omega) | (simp [maxLen] at *; omega) | (simp; done) | decide) (by first | omega | assumption | (simp; omega) | (simp [maxLen]; omega) | (simp [maxLen] at *; omega) | (simp; done) | decide) (show tyOk Try.prog 34 true 3 = true from by decide +kernel)))
        · intro rr hrr; first | exact ropg_of rr rfl ⟨hrr, rfl⟩ (rop_pure rfl (pu_load (OT.tmp rfl) (show tyOk Try.prog 34 true 3 = true from by decide +kernel))) | exact ropg_of rr rfl ⟨hrr, rfl⟩ (rop_pure rfl (pu_load_var (OT.tmp rfl) (by exact mem_at 1 rfl) (show tyOk Try.prog 34 true 3 = true from by decide +kernel))) | exact ropg_of rr rfl ⟨hrr, rfl⟩ (rop_pure rfl (pu_load_own0 (OT.tmp rfl) (by first | exact mem_at 0 rfl | exact mem_at 1 rfl | exact mem_at 2 rfl | exact mem_at 3 rfl | exact mem_at 4 rfl | exact mem_at 5 rfl | exact mem_at 6 rfl | exact mem_at 7 rfl) (by first | omega | assumption | (simp; omega) | (simp [maxLen]; omega) | (simp [maxLen] at *; omega) | (simp; done) | decide) (by first | omega | assumption | (simp; omega) | (simp [maxLen]; omega) | (simp [maxLen] at *; omega) | (simp; done) | decide) (show tyOk Try.prog 34 true 3 = true from by decide +kernel))) | exact ropg_of rr rfl ⟨hrr, rfl⟩ (rop_pure rfl (pu_load_arr (OT.tmp rfl) (by first | exact mem_at 0 rfl | exact mem_at 1 rfl | exact mem_at 2 rfl | exact mem_at 3 rfl | exact mem_at 4 rfl | exact mem_at 5 rfl | exact mem_at 6 rfl | exact mem_at 7 rfl) (show tyOk Try.prog 34 true 3 = true from by decide +kernel) (by first | omega | assumption | (simp; omega) | (simp [maxLen]; omega) | (simp [maxLen] at *; omega) | (simp; done) | decide) (by first | omega | assumption | (simp; omega) | (simp [maxLen]; omega) | (simp [maxLen] at *; omega) | (simp; done) | decide))) | exact ropg_of rr rfl ⟨hrr, rfl⟩ (rop_pure rfl (pu_load_p0 (OT.tmp rfl) (by first | exact mem_at 0 rfl | exact mem_at 1 rfl | exact mem_at 2 rfl | exact mem_at 3 rfl | exact mem_at 4 rfl | exact mem_at 5 rfl | exact mem_at 6 rfl | exact mem_at 7 rfl) (show tyOk Try.prog 34 true 3 = true from by decide +kernel))) | exact ropg_of rr rfl ⟨hrr, rfl⟩ (rop_pure rfl (pu_load_p1 (OT.tmp rfl) (by first | exact mem_at 0 rfl | exact mem_at 1 rfl | exact mem_at 2 rfl | exact mem_at 3 rfl | exact mem_at 4 rfl | exact mem_at 5 rfl | exact mem_at 6 rfl | exact mem_at 7 rfl) (show tyOk Try.prog 34 true 3 = true from by decide +kernel))) | exact ropg_of rr rfl ⟨hrr, rfl⟩ (rop_pure rfl (pu_load_q (OT.tmp rfl) (by first | exact mem_at 0 rfl | exact mem_at 1 rfl | exact mem_at 2 rfl | exact mem_at 3 rfl | exact mem_at 4 rfl | exact mem_at 5 rfl | exact mem_at 6 rfl | exact mem_at 7 rfl) (by first | omega | assumption | (simp; omega) | (simp [maxLen]; omega) | (simp [maxLen] at *; omega) | (simp; done) | decide) (by first | omega | assumption | (simp; omega) | (simp [maxLen]; omega) | (simp [maxLen] at *; omega) | (simp; done) | decide) (show tyOk Try.prog 34 true 3 = true from by decide +kernel)))
        · exact ⟨fun _ _ _ _ => rfl, ⟨fun _ _ _ _ => rfl, ⟨fun _ _ _ _ => rfl, ⟨fun _ _ _ _ => rfl, trivial⟩⟩⟩⟩
      · refine ⟨⟨[[false, false, false, false], [true, false, false, false], [true, true, false, false]], by kernel_rfl, ⟨?_, ⟨?_, ⟨?_, trivial⟩⟩⟩⟩, ?_⟩
        · intro rr hrr; exact ropg_of rr rfl ⟨hrr, rfl⟩ (rop_acts rfl (acts_lit (d := kE) (v0 := (0, [], 0)) (show slTy Try.prog 26 34 3 32 = true from by decide +kernel) (show tyOk Try.prog 34 true 3 = true from by decide +kernel) zE (show 1 * 3 ≤ 16777216 from by decide) (by decide) (fills_arr rfl rfl (by decide) (OT.tmp rfl) fills_nil)) (fun _ _ _ _ h => h))
        · intro rr hrr; exact ropg_of rr rfl ⟨hrr, rfl⟩ (rop_acts rfl (acts_lit (d := kE) (v0 := (0, [], 0)) (show slTy Try.prog 26 34 3 32 = true from by decide +kernel) (show tyOk Try.prog 34 true 3 = true from by decide +kernel) zE (show 1 * 3 ≤ 16777216 from by decide) (by decide) (fills_arr rfl rfl (by decide) (OT.tmp rfl) fills_nil)) (fun _ _ _ _ h => h))
        · intro rr hrr; exact ropg_of rr rfl ⟨hrr, rfl⟩ (rop_acts rfl (acts_lit (d := kE) (v0 := (0, [], 0)) (show slTy Try.prog 26 34 3 32 = true from by decide +kernel) (show tyOk Try.prog 34 true 3 = true from by decide +kernel) zE (show 1 * 3 ≤ 16777216 from by decide) (by decide) (fills_arr rfl rfl (by decide) (OT.tmp rfl) fills_nil)) (fun _ _ _ _ h => h))
        · exact ⟨fun _ _ _ _ => rfl, ⟨fun _ _ _ _ => rfl, ⟨fun _ _ _ _ => rfl, ⟨fun _ _ _ _ => rfl, trivial⟩⟩⟩⟩
      · refine ⟨⟨[[true, true, false, false]], by kernel_rfl, ⟨?_, trivial⟩⟩, ?_⟩
        · intro rr hrr; exact rops_acts (fun _ => rr) rfl (Acts.freeze (acts_append (OT.tmp rfl) (by exact perm_at 0 rfl) (OT.tmp rfl) (show slTy Try.prog 26 34 3 32 = true from by decide +kernel) (by (simp; omega)) (by (simp [maxLen]; omega)))) (by exact perm_at 0 rfl) (fun _ => (List.Perm.refl _)) (fun r hr => ⟨trivial, by first | exact rfl | exact ⟨rfl, rfl⟩ | exact ⟨rfl, rfl, rfl⟩⟩) (fun _ _ _ _ h => h)
        · exact ⟨fun h => Bool.noConfusion (h.symm.trans (by kernel_rfl : _ = true)), ⟨fun h => Bool.noConfusion (h.symm.trans (by kernel_rfl : _ = true)), ⟨fun h => Bool.noConfusion (h.symm.trans (by kernel_rfl : _ = true)), ⟨fun _ _ _ _ => rfl, trivial⟩⟩⟩⟩
      · refine ⟨⟨[[true, true, true, false]], by kernel_rfl, ⟨?_, trivial⟩⟩, ?_⟩
        · intro rr hrr; exact rops_acts (fun x => (rr.1, rr.2.1, x)) rfl (acts_call (Rows_fn v (l ++ [m]) (by unfold maxLen; omega) (by unfold maxLen; omega) (by rw [List.length_append]; simp; omega)) (show enters Try.prog 13 = true from by decide +kernel) (OTs.cons (OT.tmp rfl) (OTs.cons (OT.tmp rfl) OTs.nil)) (List.Perm.refl _)) (by exact perm_at 0 rfl) (fun _ => (List.Perm.refl _)) (fun r hr => ⟨hr, by first | exact rfl | exact ⟨rfl, rfl⟩ | exact ⟨rfl, rfl, rfl⟩⟩) (fun _ _ _ _ h => h)
        · exact ⟨fun h => Bool.noConfusion (h.symm.trans (by kernel_rfl : _ = true)), ⟨fun h => Bool.noConfusion (h.symm.trans (by kernel_rfl : _ = true)), ⟨fun h => Bool.noConfusion (h.symm.trans (by kernel_rfl : _ = true)), ⟨fun h => Bool.noConfusion (h.symm.trans (by kernel_rfl : _ = true)), trivial⟩⟩⟩⟩
      · refine ⟨⟨[[true, true, true, true]], by kernel_rfl, ⟨?_, trivial⟩⟩, ?_⟩
        · intro rr hrr; exact ropg_of rr rfl ⟨hrr, rfl⟩ (rop_pure rfl (pu_move (OT.tmp rfl)))
        · exact ⟨fun h => Bool.noConfusion (h.symm.trans (by kernel_rfl : _ = true)), ⟨fun h => Bool.noConfusion (h.symm.trans (by kernel_rfl : _ = true)), ⟨fun h => Bool.noConfusion (h.symm.trans (by kernel_rfl : _ = true)), ⟨fun h => Bool.noConfusion (h.symm.trans (by kernel_rfl : _ = true)), trivial⟩⟩⟩⟩
      · refine ⟨⟨[[true, true, true, true]], by kernel_rfl, ⟨?_, trivial⟩⟩, ?_⟩
        · intro rr hrr; exact ropg_of rr rfl ⟨hrr, rfl⟩ (rop_pure rfl (pu_extract (OT.tmp rfl) rfl))
        · exact ⟨fun h => Bool.noConfusion (h.symm.trans (by kernel_rfl : _ = true)), ⟨fun h => Bool.noConfusion (h.symm.trans (by kernel_rfl : _ = true)), ⟨fun h => Bool.noConfusion (h.symm.trans (by kernel_rfl : _ = true)), ⟨fun h => Bool.noConfusion (h.symm.trans (by kernel_rfl : _ = true)), trivial⟩⟩⟩⟩
      · refine ⟨⟨[[true, true, true, true]], by kernel_rfl, ⟨?_, trivial⟩⟩, ?_⟩
        · intro rr hrr; exact ropg_of rr rfl ⟨hrr, rfl⟩ (rop_pure rfl (pu_extract (OT.tmp rfl) rfl))
        · exact ⟨fun h => Bool.noConfusion (h.symm.trans (by kernel_rfl : _ = true)), ⟨fun h => Bool.noConfusion (h.symm.trans (by kernel_rfl : _ = true)), ⟨fun h => Bool.noConfusion (h.symm.trans (by kernel_rfl : _ = true)), ⟨fun h => Bool.noConfusion (h.symm.trans (by kernel_rfl : _ = true)), trivial⟩⟩⟩⟩
      · refine ⟨⟨[[true, true, true, true]], by kernel_rfl, ⟨?_, trivial⟩⟩, ?_⟩
        · intro rr hrr; exact ropg_of rr rfl ⟨hrr, rfl⟩ (rop_pure rfl (pu_assign (OT.tmp rfl)))
        · exact ⟨fun h => Bool.noConfusion (h.symm.trans (by kernel_rfl : _ = true)), ⟨fun h => Bool.noConfusion (h.symm.trans (by kernel_rfl : _ = true)), ⟨fun h => Bool.noConfusion (h.symm.trans (by kernel_rfl : _ = true)), ⟨fun h => Bool.noConfusion (h.symm.trans (by kernel_rfl : _ = true)), trivial⟩⟩⟩⟩
    case h =>
      intro ⟨va, vb, r4_7⟩ hr4_7
      refine op_pure (pu_assign (OT.tmp rfl)) rfl rfl ?_
      refine tr_nil ?_
      refine then_normal ?_
      refine tr_seq ?_
      refine tr_seq ?_
      -- region 5
      refine tr_env (es_cons (t := 3) (OT.tmp rfl) (es_cons (t := 5) (OT.tmp rfl) (es_cons (t := 7) (OT.tmp rfl) (es_cons (t := 8) (OT.tmp rfl) (es_cons (t := 9) (OT.tmp rfl) (es_cons (t := 10) (OT.tmp rfl) es_nil)))))) ?_
      replace hr4_7 : RowsSay v (l ++ [m]) r4_7 := hr4_7
      refine tr_region ?_
      refine op_pure (pu_move (OT.tmp rfl)) rfl rfl ?_
      refine op_pure (pu_neq (OT.tmp rfl) OT.const) rfl rfl ?_
      refine op_pure (pu_move (OT.tmp rfl)) rfl rfl ?_
      refine op_gu rfl rfl rfl (OT.gu_mk (OT.tmp rfl)) (fun hg => by (have hg1 := hg.2; (try simp only [decide_eq_true_eq, decide_eq_false_iff_not] at hg1); exact pu_move (by exact OT.tmp rfl))) rfl ?_
      refine op_gu rfl rfl rfl (OT.gu_mk (OT.tmp rfl)) (fun hg => by (have hg1 := hg.2; (try simp only [decide_eq_true_eq, decide_eq_false_iff_not] at hg1); exact pu_neq (by exact OT.gu (OT.tmp rfl) hg) OT.const)) rfl ?_
      refine op_pure (pu_pick_or (OT.tmp rfl) (by exact OT.tmp rfl)) rfl rfl ?_
      refine tr_nil ?_
      refine then_normal ?_
      refine tr_cond (OT.tmp rfl) (fun c53 => ?_) (fun c53 => ?_)
      · skip
        have hcode := more_code hr3_2 hr4_7 (by simpa using c53)
        refine tr_seq ?_
        -- region 6
        refine tr_env (es_cons (t := 8) (OT.tmp rfl) (es_cons (t := 10) (OT.tmp rfl) es_nil)) ?_
        refine tr_region ?_
        refine op_pure (pu_move (OT.tmp rfl)) rfl rfl ?_
        refine op_pure (pu_move (OT.tmp rfl)) rfl rfl ?_
        refine op_pure (pu_eql (OT.tmp rfl) (OT.tmp rfl)) rfl rfl ?_
        refine op_pure (pu_move (OT.tmp rfl)) rfl rfl ?_
        refine op_gu rfl rfl rfl (OT.gu_mk (OT.tmp rfl)) (fun hg => by (have hg1 := hg.2; (try simp only [decide_eq_true_eq, decide_eq_false_iff_not] at hg1); exact pu_move (by exact OT.tmp rfl))) rfl ?_
        refine op_gu rfl rfl rfl (OT.gu_mk (OT.tmp rfl)) (fun hg => by (have hg1 := hg.2; (try simp only [decide_eq_true_eq, decide_eq_false_iff_not] at hg1); exact pu_eql (by exact OT.gu (OT.tmp rfl) hg) OT.const)) rfl ?_
        refine op_pure (pu_pick_or (OT.tmp rfl) (by exact OT.tmp rfl)) rfl rfl ?_
        refine op_pure (pu_assign (OT.tmp rfl)) rfl rfl ?_
        refine tr_nil ?_
        refine then_normal ?_
        refine tr_ret ?_
        refine then_ret ?_
        exact ret_one .ret (.inl rfl) rfl () (OT.val (OT.tmp rfl) (congrArg Value.bool (by rcases hcode with h | h <;> simp [h]))) trivial (by exact picks_nil)
      · skip
        have h1 : r3_2.2 = 0 := by simp_all
        have h2 : r4_7.2 = 0 := by simp_all
        have hsa := rows_small hr3_2
        have hsb := rows_small hr4_7
        have hsub := more_sub hr3_2 hr4_7 h1 h2
        have hnd := varsL_nodup v.2.2.2.1
        have hvl := varsL_len v.2.2.2.1
        have hla : r3_2.1.length ≤ 1000000 := hsa.1
        have hlw : (withoutL r4_7.1 r3_2.1).length ≤ 1000000 := (hsb.without _).1
        refine tr_skip ?_
        refine then_normal ?_
        refine tr_seq ?_
        refine tr_seq ?_
        -- region 7
        refine tr_env (es_cons (t := 3) (OT.tmp rfl) (es_cons (t := 5) (OT.tmp rfl) (es_cons (t := 7) (OT.tmp rfl) (es_cons (t := 9) (OT.tmp rfl) es_nil)))) ?_
        refine tr_region ?_
        refine op_pure (pu_move (OT.tmp rfl)) rfl rfl ?_
        refine op_pure (pu_len_sl (OT.tmp rfl) Try.underlying35) rfl rfl ?_
        refine op_pure (pu_move OT.const) rfl rfl ?_
        refine tr_nil ?_
        refine then_normal ?_
        refine tr_block ?_
        refine tr_loopK (σ := Nat) (es_cons (t := 3) (OT.tmp rfl) (es_cons (t := 5) (OT.tmp rfl) (es_cons (t := 7) (OT.tmp rfl) (es_cons (t := 9) (OT.tmp rfl) (es_cons (t := 61) (OT.tmp rfl) (es_cons (t := 62) (OT.tmp rfl) es_nil)))))) (fun i => [(63, I64 (i : Int))]) (fun i => [BlkI g0_1 34 kE m, BlkI g0_0 25 kV v]) (fun i => i ≤ r3_2.1.length) (fun i => r3_2.1.length - i) 0 (Nat.zero_le _) ?_ (own_picks (by repeat (first | exact picks_nil | refine picks_cons 0 rfl ?_ | refine picks_cons 1 rfl ?_ | refine picks_cons 2 rfl ?_ | refine picks_cons 3 rfl ?_ | refine picks_cons 4 rfl ?_ | refine picks_cons 5 rfl ?_ | refine picks_cons 6 rfl ?_ | refine picks_cons 7 rfl ?_ | refine picks_cons 8 rfl ?_))) ?_
        · exact (es_cons (t := 63) (by exact OT.tmp rfl) es_nil)
        · rintro i hi
          refine tr_seq ?_
          -- region 8
          refine tr_env (es_cons (t := 3) (OT.tmp rfl) (es_cons (t := 5) (OT.tmp rfl) (es_cons (t := 7) (OT.tmp rfl) (es_cons (t := 9) (OT.tmp rfl) (es_cons (t := 61) (OT.tmp rfl) (es_cons (t := 62) (OT.tmp rfl) (es_cons (t := 63) (OT.tmp rfl) es_nil))))))) ?_
          refine tr_region ?_
          refine op_pure (pu_lss (OT.tmp rfl) (OT.tmp rfl)) rfl rfl ?_
          refine tr_nil ?_
          refine then_normal ?_
          refine tr_seq ?_
          refine tr_cond (OT.tmp rfl) (fun c64 => ?_) (fun c64 => ?_)
          · skip
            refine tr_skip ?_
            refine then_normal ?_
            refine tr_seq ?_
            refine tr_block ?_
            refine tr_seq ?_
            -- region 9
            refine tr_env (es_cons (t := 3) (OT.tmp rfl) (es_cons (t := 5) (OT.tmp rfl) (es_cons (t := 7) (OT.tmp rfl) (es_cons (t := 9) (OT.tmp rfl) (es_cons (t := 61) (OT.tmp rfl) (es_cons (t := 62) (OT.tmp rfl) (es_cons (t := 63) (OT.tmp rfl) es_nil))))))) ?_
            refine tr_region ?_
            refine op_pure (pu_index (OT.tmp rfl) (OT.tmp rfl) Try.underlying35 (show tyOk Try.prog 45 false 1 = true from by decide +kernel) (by omega) (by (simp [maxLen] at *; omega))) rfl rfl ?_
            refine op_pure (pu_load (OT.tmp rfl) (show tyOk Try.prog 45 false 1 = true from by decide +kernel)) rfl rfl ?_
            refine op_pure (pu_assign (OT.tmp rfl)) rfl rfl ?_
            refine tr_nil ?_
            refine then_normal ?_
            refine tr_seq ?_
            -- region 10
            refine tr_env (es_cons (t := 3) (OT.tmp rfl) (es_cons (t := 5) (OT.tmp rfl) (es_cons (t := 7) (OT.tmp rfl) (es_cons (t := 9) (OT.tmp rfl) (es_cons (t := 12) (OT.tmp rfl) (es_cons (t := 61) (OT.tmp rfl) (es_cons (t := 62) (OT.tmp rfl) (es_cons (t := 63) (OT.tmp rfl) es_nil)))))))) ?_
            refine tr_region ?_
            refine op_pure (pu_move (OT.tmp rfl)) rfl rfl ?_
            refine op_pure (pu_move (OT.tmp rfl)) rfl rfl ?_
            refine op_acts (acts_call (rHas_fn _ _ (by assumption) (Small.at_ (by assumption) _)) (show enters Try.prog 14 = true from by decide +kernel) (OTs.cons (OT.tmp rfl) (OTs.cons (OT.tmp rfl) OTs.nil)) (List.Perm.refl _)) (List.Perm.refl _) rfl rfl (fun _ _ => ?_)
            refine op_pure (pu_not (OT.tmp rfl)) rfl rfl ?_
            refine tr_nil ?_
            refine then_normal ?_
            refine tr_cond (OT.tmp rfl) (fun c70 => ?_) (fun c70 => ?_)
            · skip
              exact absurd (hsub _ (at_mem (k := i) (by simp only [decide_eq_true_eq] at c64; omega))) (by simp_all) --done
            · skip
              refine tr_skip ?_
              refine block_normal ?_
              refine then_normal ?_
              -- region 12
              refine tr_env (es_cons (t := 3) (OT.tmp rfl) (es_cons (t := 5) (OT.tmp rfl) (es_cons (t := 7) (OT.tmp rfl) (es_cons (t := 9) (OT.tmp rfl) (es_cons (t := 61) (OT.tmp rfl) (es_cons (t := 62) (OT.tmp rfl) (es_cons (t := 63) (OT.tmp rfl) es_nil))))))) ?_
              refine tr_region ?_
              refine op_pure (pu_add' (OT.tmp rfl) OT.const (by omega)) rfl rfl ?_
              refine op_pure (pu_move (OT.tmp rfl)) rfl rfl ?_
              refine tr_nil ?_
              refine then_normal ?_
              exact tr_again (i + 1) (by simp only [decide_eq_true_eq] at c64; omega) (by simp only [decide_eq_true_eq] at c64; omega) (es_append (es_cons (t := 63) (by exact OT.tmp rfl) es_nil) (es_cons (t := 3) (OT.tmp rfl) (es_cons (t := 5) (OT.tmp rfl) (es_cons (t := 7) (OT.tmp rfl) (es_cons (t := 9) (OT.tmp rfl) (es_cons (t := 61) (OT.tmp rfl) (es_cons (t := 62) (OT.tmp rfl) es_nil))))))) (own_picks (by repeat (first | exact picks_nil | refine picks_cons 0 rfl ?_ | refine picks_cons 1 rfl ?_ | refine picks_cons 2 rfl ?_ | refine picks_cons 3 rfl ?_ | refine picks_cons 4 rfl ?_ | refine picks_cons 5 rfl ?_ | refine picks_cons 6 rfl ?_ | refine picks_cons 7 rfl ?_ | refine picks_cons 8 rfl ?_)))
          · skip
            refine tr_exit ?_
            refine then_exit ?_
            refine then_exit ?_
            refine block_hit ?_
            refine then_normal ?_
            refine tr_seq ?_
            -- region 13
            refine tr_env (es_cons (t := 3) (OT.tmp rfl) (es_cons (t := 5) (OT.tmp rfl) (es_cons (t := 7) (OT.tmp rfl) (es_cons (t := 9) (OT.tmp rfl) es_nil)))) ?_
            refine tr_region ?_
            refine op_pure (pu_load_var (OT.tmp rfl) (by exact mem_at 1 rfl) (show tyOk Try.prog 25 true 5 = true from by decide +kernel)) rfl rfl ?_
            refine op_acts (acts_call (rVars_fn v (by omega)) (show enters Try.prog 15 = true from by decide +kernel) (OTs.cons (OT.tmp rfl) OTs.nil) (List.Perm.refl _)) (List.Perm.refl _) rfl rfl (fun _ _ => ?_)
            refine op_pure (pu_assign (OT.tmp rfl)) rfl rfl ?_
            refine tr_nil ?_
            refine then_normal ?_
            refine tr_seq ?_
            refine tr_seq ?_
            -- region 14
            refine tr_env (es_cons (t := 3) (OT.tmp rfl) (es_cons (t := 5) (OT.tmp rfl) (es_cons (t := 7) (OT.tmp rfl) (es_cons (t := 9) (OT.tmp rfl) (es_cons (t := 13) (OT.tmp rfl) es_nil))))) ?_
            refine tr_region ?_
            refine op_pure (pu_move (OT.tmp rfl)) rfl rfl ?_
            refine op_pure (pu_move (OT.tmp rfl)) rfl rfl ?_
            refine op_acts (acts_call (rWithout_fn _ _ (by assumption) (by assumption)) (show enters Try.prog 16 = true from by decide +kernel) (OTs.cons (OT.tmp rfl) (OTs.cons (OT.tmp rfl) OTs.nil)) (List.Perm.refl _)) (List.Perm.refl _) rfl rfl (fun _ _ => ?_)
            refine op_pure (pu_len_sl (OT.tmp rfl) Try.underlying35) rfl rfl ?_
            refine op_pure (pu_move OT.const) rfl rfl ?_
            refine tr_nil ?_
            refine then_normal ?_
            refine tr_block ?_
            refine tr_loopK (σ := Nat) (es_cons (t := 3) (OT.tmp rfl) (es_cons (t := 5) (OT.tmp rfl) (es_cons (t := 13) (OT.tmp rfl) (es_cons (t := 76) (OT.tmp rfl) (es_cons (t := 77) (OT.tmp rfl) es_nil))))) (fun j => [(78, I64 (j : Int))]) (fun j => [BlkI g0_1 34 kE m, BlkI g0_0 25 kV v]) (fun j => j ≤ (withoutL r4_7.1 r3_2.1).length) (fun j => (withoutL r4_7.1 r3_2.1).length - j) 0 (Nat.zero_le _) ?_ (own_picks (by repeat (first | exact picks_nil | refine picks_cons 0 rfl ?_ | refine picks_cons 1 rfl ?_ | refine picks_cons 2 rfl ?_ | refine picks_cons 3 rfl ?_ | refine picks_cons 4 rfl ?_ | refine picks_cons 5 rfl ?_ | refine picks_cons 6 rfl ?_ | refine picks_cons 7 rfl ?_ | refine picks_cons 8 rfl ?_))) ?_
            · exact (es_cons (t := 78) (by exact OT.tmp rfl) es_nil)
            · rintro j hj
              refine tr_seq ?_
              -- region 15
              refine tr_env (es_cons (t := 3) (OT.tmp rfl) (es_cons (t := 5) (OT.tmp rfl) (es_cons (t := 13) (OT.tmp rfl) (es_cons (t := 76) (OT.tmp rfl) (es_cons (t := 77) (OT.tmp rfl) (es_cons (t := 78) (OT.tmp rfl) es_nil)))))) ?_
              refine tr_region ?_
              refine op_pure (pu_lss (OT.tmp rfl) (OT.tmp rfl)) rfl rfl ?_
              refine tr_nil ?_
              refine then_normal ?_
              refine tr_seq ?_
              refine tr_cond (OT.tmp rfl) (fun c79 => ?_) (fun c79 => ?_)
              · skip
                refine tr_skip ?_
                refine then_normal ?_
                refine tr_seq ?_
                refine tr_block ?_
                refine tr_seq ?_
                -- region 16
                refine tr_env (es_cons (t := 3) (OT.tmp rfl) (es_cons (t := 5) (OT.tmp rfl) (es_cons (t := 13) (OT.tmp rfl) (es_cons (t := 76) (OT.tmp rfl) (es_cons (t := 77) (OT.tmp rfl) (es_cons (t := 78) (OT.tmp rfl) es_nil)))))) ?_
                refine tr_region ?_
                refine op_pure (pu_index (OT.tmp rfl) (OT.tmp rfl) Try.underlying35 (show tyOk Try.prog 45 false 1 = true from by decide +kernel) (by omega) (by (simp [maxLen] at *; omega))) rfl rfl ?_
                refine op_pure (pu_load (OT.tmp rfl) (show tyOk Try.prog 45 false 1 = true from by decide +kernel)) rfl rfl ?_
                refine op_pure (pu_assign (OT.tmp rfl)) rfl rfl ?_
                refine tr_nil ?_
                refine then_normal ?_
                refine tr_seq ?_
                -- region 17
                refine tr_env (es_cons (t := 3) (OT.tmp rfl) (es_cons (t := 5) (OT.tmp rfl) (es_cons (t := 13) (OT.tmp rfl) (es_cons (t := 15) (OT.tmp rfl) (es_cons (t := 76) (OT.tmp rfl) (es_cons (t := 77) (OT.tmp rfl) (es_cons (t := 78) (OT.tmp rfl) es_nil))))))) ?_
                have hjw : j < (withoutL r4_7.1 r3_2.1).length := by simpa using c79
                obtain ⟨r, hr⟩ : ∃ r, at' (withoutL r4_7.1 r3_2.1) (j : Int) = r := ⟨_, rfl⟩
                have hrm : r ∈ withoutL r4_7.1 r3_2.1 := by rw [← hr]; exact at_mem hjw
                obtain ⟨hrl, hua⟩ := used_all hr3_2 hr4_7 h1 h2 hrm
                refine tr_region ?_
                refine op_pure (pu_assign OT.const) rfl rfl ?_
                refine tr_nil ?_
                refine then_normal ?_
                refine tr_seq ?_
                refine tr_seq ?_
                -- region 18
                refine tr_env (es_cons (t := 3) (OT.tmp rfl) (es_cons (t := 5) (OT.tmp rfl) (es_cons (t := 13) (OT.tmp rfl) (es_cons (t := 15) (OT.tmp rfl) (es_cons (t := 16) (OT.tmp rfl) (es_cons (t := 76) (OT.tmp rfl) (es_cons (t := 77) (OT.tmp rfl) (es_cons (t := 78) (OT.tmp rfl) es_nil)))))))) ?_
                rw [hr]
                refine tr_region ?_
                refine op_pure (pu_faddr (OT.tmp rfl) (show fieldOk Try.prog 25 3 3 false 1 = true from by decide +kernel)) rfl rfl ?_
                refine op_pure (pu_load_blk (OT.tmp rfl) (by exact mem_at 1 rfl) lv3 (show tyOk Try.prog 23 false 1 = true from by decide +kernel)) rfl rfl ?_
                refine op_pure (pu_len_sl (OT.tmp rfl) Try.underlying23) rfl rfl ?_
                refine op_pure (pu_move OT.const) rfl rfl ?_
                refine tr_nil ?_
                refine then_normal ?_
                refine tr_block ?_
                refine tr_loopK (σ := Nat) (es_cons (t := 3) (OT.tmp rfl) (es_cons (t := 5) (OT.tmp rfl) (es_cons (t := 13) (OT.tmp rfl) (es_cons (t := 15) (OT.tmp rfl) (es_cons (t := 76) (OT.tmp rfl) (es_cons (t := 77) (OT.tmp rfl) (es_cons (t := 78) (OT.tmp rfl) (es_cons (t := 83) (OT.tmp rfl) (es_cons (t := 84) (OT.tmp rfl) es_nil))))))))) (fun k => [(85, I64 (k : Int)), (16, BoolT (usedA (varsL v.2.2.2.1) r m (v.2.2.2.1.take k)))]) (fun k => [BlkI g0_1 34 kE m, BlkI g0_0 25 kV v]) (fun k => k ≤ v.2.2.2.1.length) (fun k => v.2.2.2.1.length - k) 0 (Nat.zero_le _) ?_ (own_picks (by repeat (first | exact picks_nil | refine picks_cons 0 rfl ?_ | refine picks_cons 1 rfl ?_ | refine picks_cons 2 rfl ?_ | refine picks_cons 3 rfl ?_ | refine picks_cons 4 rfl ?_ | refine picks_cons 5 rfl ?_ | refine picks_cons 6 rfl ?_ | refine picks_cons 7 rfl ?_ | refine picks_cons 8 rfl ?_))) ?_
                · exact (es_cons (t := 85) (by exact OT.tmp rfl) (es_cons (t := 16) (by exact OT.tmp rfl) es_nil))
                · rintro k hk
                  refine tr_seq ?_
                  -- region 19
                  refine tr_env (es_cons (t := 3) (OT.tmp rfl) (es_cons (t := 5) (OT.tmp rfl) (es_cons (t := 13) (OT.tmp rfl) (es_cons (t := 15) (OT.tmp rfl) (es_cons (t := 16) (OT.tmp rfl) (es_cons (t := 76) (OT.tmp rfl) (es_cons (t := 77) (OT.tmp rfl) (es_cons (t := 78) (OT.tmp rfl) (es_cons (t := 83) (OT.tmp rfl) (es_cons (t := 84) (OT.tmp rfl) (es_cons (t := 85) (OT.tmp rfl) es_nil))))))))))) ?_
                  refine tr_region ?_
                  refine op_pure (pu_lss (OT.tmp rfl) (OT.tmp rfl)) rfl rfl ?_
                  refine tr_nil ?_
                  refine then_normal ?_
                  refine tr_seq ?_
                  refine tr_cond (OT.tmp rfl) (fun c86 => ?_) (fun c86 => ?_)
                  · skip
                    refine tr_skip ?_
                    refine then_normal ?_
                    refine tr_seq ?_
                    refine tr_block ?_
                    refine tr_seq ?_
                    -- region 20
                    refine tr_env (es_cons (t := 3) (OT.tmp rfl) (es_cons (t := 5) (OT.tmp rfl) (es_cons (t := 13) (OT.tmp rfl) (es_cons (t := 15) (OT.tmp rfl) (es_cons (t := 16) (OT.tmp rfl) (es_cons (t := 76) (OT.tmp rfl) (es_cons (t := 77) (OT.tmp rfl) (es_cons (t := 78) (OT.tmp rfl) (es_cons (t := 83) (OT.tmp rfl) (es_cons (t := 84) (OT.tmp rfl) (es_cons (t := 85) (OT.tmp rfl) es_nil))))))))))) ?_
                    refine tr_region ?_
                    refine op_pure (pu_index (OT.tmp rfl) (OT.tmp rfl) Try.underlying23 (show tyOk Try.prog 31 true 3 = true from by decide +kernel) (by omega) (by (simp [maxLen] at *; omega))) rfl rfl ?_
                    refine op_pure (pu_load (OT.tmp rfl) (show tyOk Try.prog 31 true 3 = true from by decide +kernel)) rfl rfl ?_
                    refine op_acts (acts_alloc (zA)) (List.Perm.refl _) rfl rfl (fun g20_2 _ => ?_)
                    refine op_acts (acts_store_var (OT.tmp rfl) (OT.tmp rfl) (by exact perm_at 0 rfl) (show tyOk Try.prog 31 true 3 = true from by decide +kernel)) (by exact perm_at 0 rfl) rfl rfl (fun _ _ => ?_)
                    refine tr_nil ?_
                    refine then_normal ?_
                    refine tr_seq ?_
                    -- region 21
                    refine tr_env (es_cons (t := 3) (OT.tmp rfl) (es_cons (t := 5) (OT.tmp rfl) (es_cons (t := 13) (OT.tmp rfl) (es_cons (t := 15) (OT.tmp rfl) (es_cons (t := 16) (OT.tmp rfl) (es_cons (t := 18) (OT.tmp rfl) (es_cons (t := 76) (OT.tmp rfl) (es_cons (t := 77) (OT.tmp rfl) (es_cons (t := 78) (OT.tmp rfl) (es_cons (t := 83) (OT.tmp rfl) (es_cons (t := 84) (OT.tmp rfl) (es_cons (t := 85) (OT.tmp rfl) es_nil)))))))))))) ?_
                    have hka : k < v.2.2.2.1.length := by simpa using c86
                    obtain ⟨x, hx⟩ : ∃ x, at' v.2.2.2.1 (k : Int) = x := ⟨_, rfl⟩
                    have hst := take_at2 hka
                    rw [hx] at hst
                    refine tr_region ?_
                    refine op_pure (pu_assign OT.const) rfl rfl ?_
                    refine op_pure (pu_assign OT.const) rfl rfl ?_
                    refine tr_nil ?_
                    refine then_normal ?_
                    refine tr_seq ?_
                    refine tr_seq ?_
                    -- region 22
                    refine tr_env (es_cons (t := 3) (OT.tmp rfl) (es_cons (t := 5) (OT.tmp rfl) (es_cons (t := 13) (OT.tmp rfl) (es_cons (t := 15) (OT.tmp rfl) (es_cons (t := 16) (OT.tmp rfl) (es_cons (t := 18) (OT.tmp rfl) (es_cons (t := 19) (OT.tmp rfl) (es_cons (t := 20) (OT.tmp rfl) (es_cons (t := 76) (OT.tmp rfl) (es_cons (t := 77) (OT.tmp rfl) (es_cons (t := 78) (OT.tmp rfl) (es_cons (t := 83) (OT.tmp rfl) (es_cons (t := 84) (OT.tmp rfl) (es_cons (t := 85) (OT.tmp rfl) es_nil)))))))))))))) ?_
                    rw [hx]
                    refine tr_region ?_
                    refine op_pure (pu_move (OT.tmp rfl)) rfl rfl ?_
                    refine op_pure (pu_len_sl (OT.tmp rfl) Try.underlying22) rfl rfl ?_
                    refine op_pure (pu_move OT.const) rfl rfl ?_
                    refine tr_nil ?_
                    refine then_normal ?_
                    refine tr_block ?_
                    refine tr_loopK (σ := Nat) (es_cons (t := 3) (OT.tmp rfl) (es_cons (t := 5) (OT.tmp rfl) (es_cons (t := 13) (OT.tmp rfl) (es_cons (t := 15) (OT.tmp rfl) (es_cons (t := 16) (OT.tmp rfl) (es_cons (t := 18) (OT.tmp rfl) (es_cons (t := 76) (OT.tmp rfl) (es_cons (t := 77) (OT.tmp rfl) (es_cons (t := 78) (OT.tmp rfl) (es_cons (t := 83) (OT.tmp rfl) (es_cons (t := 84) (OT.tmp rfl) (es_cons (t := 85) (OT.tmp rfl) (es_cons (t := 90) (OT.tmp rfl) es_nil))))))))))))) (fun n => [(91, I64 (n : Int)), (19, I64 (seek (varsL v.2.2.2.1) r x.1 n)), (20, I64 (seek (varsL v.2.2.2.1) r x.2.2 n))]) (fun n => [BlkI g20_2 31 kA x, BlkI g0_1 34 kE m, BlkI g0_0 25 kV v]) (fun n => n ≤ (varsL v.2.2.2.1).length) (fun n => (varsL v.2.2.2.1).length - n) 0 (Nat.zero_le _) ?_ (own_picks (by repeat (first | exact picks_nil | refine picks_cons 0 rfl ?_ | refine picks_cons 1 rfl ?_ | refine picks_cons 2 rfl ?_ | refine picks_cons 3 rfl ?_ | refine picks_cons 4 rfl ?_ | refine picks_cons 5 rfl ?_ | refine picks_cons 6 rfl ?_ | refine picks_cons 7 rfl ?_ | refine picks_cons 8 rfl ?_))) ?_
                    · exact (es_cons (t := 91) (by exact OT.tmp rfl) (es_cons (t := 19) (by exact OT.tmp rfl) (es_cons (t := 20) (by exact OT.tmp rfl) es_nil)))
                    · rintro n hn
                      refine tr_seq ?_
                      -- region 23
                      refine tr_env (es_cons (t := 3) (OT.tmp rfl) (es_cons (t := 5) (OT.tmp rfl) (es_cons (t := 13) (OT.tmp rfl) (es_cons (t := 15) (OT.tmp rfl) (es_cons (t := 16) (OT.tmp rfl) (es_cons (t := 18) (OT.tmp rfl) (es_cons (t := 19) (OT.tmp rfl) (es_cons (t := 20) (OT.tmp rfl) (es_cons (t := 76) (OT.tmp rfl) (es_cons (t := 77) (OT.tmp rfl) (es_cons (t := 78) (OT.tmp rfl) (es_cons (t := 83) (OT.tmp rfl) (es_cons (t := 84) (OT.tmp rfl) (es_cons (t := 85) (OT.tmp rfl) (es_cons (t := 90) (OT.tmp rfl) (es_cons (t := 91) (OT.tmp rfl) es_nil)))))))))))))))) ?_
                      refine tr_region ?_
                      refine op_pure (pu_lss (OT.tmp rfl) (OT.tmp rfl)) rfl rfl ?_
                      refine tr_nil ?_
                      refine then_normal ?_
                      refine tr_seq ?_
                      refine tr_cond (OT.tmp rfl) (fun c92 => ?_) (fun c92 => ?_)
                      · skip
                        refine tr_skip ?_
                        refine then_normal ?_
                        refine tr_seq ?_
                        refine tr_block ?_
                        refine tr_seq ?_
                        -- region 24
                        refine tr_env (es_cons (t := 3) (OT.tmp rfl) (es_cons (t := 5) (OT.tmp rfl) (es_cons (t := 13) (OT.tmp rfl) (es_cons (t := 15) (OT.tmp rfl) (es_cons (t := 16) (OT.tmp rfl) (es_cons (t := 18) (OT.tmp rfl) (es_cons (t := 19) (OT.tmp rfl) (es_cons (t := 20) (OT.tmp rfl) (es_cons (t := 76) (OT.tmp rfl) (es_cons (t := 77) (OT.tmp rfl) (es_cons (t := 78) (OT.tmp rfl) (es_cons (t := 83) (OT.tmp rfl) (es_cons (t := 84) (OT.tmp rfl) (es_cons (t := 85) (OT.tmp rfl) (es_cons (t := 90) (OT.tmp rfl) (es_cons (t := 91) (OT.tmp rfl) es_nil)))))))))))))))) ?_
                        refine tr_region ?_
                        refine op_pure (pu_move (OT.tmp rfl)) rfl rfl ?_
                        refine op_pure (pu_assign (OT.tmp rfl)) rfl rfl ?_
                        refine tr_nil ?_
                        refine then_normal ?_
                        refine tr_seq ?_
                        refine tr_seq ?_
                        -- region 25
                        refine tr_env (es_cons (t := 3) (OT.tmp rfl) (es_cons (t := 5) (OT.tmp rfl) (es_cons (t := 13) (OT.tmp rfl) (es_cons (t := 15) (OT.tmp rfl) (es_cons (t := 16) (OT.tmp rfl) (es_cons (t := 18) (OT.tmp rfl) (es_cons (t := 19) (OT.tmp rfl) (es_cons (t := 20) (OT.tmp rfl) (es_cons (t := 21) (OT.tmp rfl) (es_cons (t := 76) (OT.tmp rfl) (es_cons (t := 77) (OT.tmp rfl) (es_cons (t := 78) (OT.tmp rfl) (es_cons (t := 83) (OT.tmp rfl) (es_cons (t := 84) (OT.tmp rfl) (es_cons (t := 85) (OT.tmp rfl) (es_cons (t := 90) (OT.tmp rfl) (es_cons (t := 91) (OT.tmp rfl) es_nil))))))))))))))))) ?_
                        apply tr_any (m := 6) (ns := [[(13, none)], [(21, none)], [(94, some 0), (95, some 1)], [(96, some 2)], [(18, none)], [(98, some 4)]]) (by kernel_rfl) (by kernel_rfl) (Ts := [_, _, _, _, _, _]) rfl
                        case hops =>
                          refine ⟨?_, ⟨?_, ⟨?_, ⟨?_, ⟨?_, ⟨?_, trivial⟩⟩⟩⟩⟩⟩
                          · exact rop_pure rfl (pu_move (OT.tmp rfl))
                          · exact rop_pure rfl (pu_move (OT.tmp rfl))
                          · exact rop_pure rfl (pu_index (OT.tmp rfl) (OT.tmp rfl) Try.underlying22 (show tyOk Try.prog 9 false 1 = true from by decide +kernel) (by omega) (by (simp [maxLen] at *; omega)))
                          · exact rop_pure rfl (pu_load (OT.tmp rfl) (show tyOk Try.prog 9 false 1 = true from by decide +kernel))
                          · exact rop_pure rfl (pu_faddr (OT.tmp rfl) (show fieldOk Try.prog 31 0 0 false 1 = true from by decide +kernel))
                          · exact rop_pure rfl (pu_load_blk (OT.tmp rfl) (by exact mem_at 0 rfl) la0 (show tyOk Try.prog 9 false 1 = true from by decide +kernel))
                        case h =>
                          refine op_pure (pu_bs_eql (OT.tmp rfl) (OT.tmp rfl)) rfl rfl ?_
                          refine tr_nil ?_
                          refine then_normal ?_
                          refine tr_cond (OT.tmp rfl) (fun c100 => ?_) (fun c100 => ?_)
                          · skip
                            -- region 26
                            refine tr_env (es_cons (t := 3) (OT.tmp rfl) (es_cons (t := 5) (OT.tmp rfl) (es_cons (t := 13) (OT.tmp rfl) (es_cons (t := 15) (OT.tmp rfl) (es_cons (t := 16) (OT.tmp rfl) (es_cons (t := 18) (OT.tmp rfl) (es_cons (t := 20) (OT.tmp rfl) (es_cons (t := 21) (OT.tmp rfl) (es_cons (t := 76) (OT.tmp rfl) (es_cons (t := 77) (OT.tmp rfl) (es_cons (t := 78) (OT.tmp rfl) (es_cons (t := 83) (OT.tmp rfl) (es_cons (t := 84) (OT.tmp rfl) (es_cons (t := 85) (OT.tmp rfl) (es_cons (t := 90) (OT.tmp rfl) (es_cons (t := 91) (OT.tmp rfl) es_nil)))))))))))))))) ?_
                            refine tr_region ?_
                            refine op_pure (pu_move (OT.tmp rfl)) rfl rfl ?_
                            refine op_pure (pu_move (OT.tmp rfl)) rfl rfl ?_
                            refine op_pure (pu_index (OT.tmp rfl) (OT.tmp rfl) Try.underlying45 (show tyOk Try.prog 3 false 1 = true from by decide +kernel) (by omega) (by (simp [maxLen] at *; omega))) rfl rfl ?_
                            refine op_pure (pu_load (OT.tmp rfl) (show tyOk Try.prog 3 false 1 = true from by decide +kernel)) rfl rfl ?_
                            refine op_pure (pu_assign (OT.tmp rfl)) rfl rfl ?_
                            refine tr_nil ?_
                            refine then_normal ?_
                            refine tr_seq ?_
                            -- region 27
                            refine tr_env (es_cons (t := 3) (OT.tmp rfl) (es_cons (t := 5) (OT.tmp rfl) (es_cons (t := 13) (OT.tmp rfl) (es_cons (t := 15) (OT.tmp rfl) (es_cons (t := 16) (OT.tmp rfl) (es_cons (t := 18) (OT.tmp rfl) (es_cons (t := 19) (OT.tmp rfl) (es_cons (t := 20) (OT.tmp rfl) (es_cons (t := 21) (OT.tmp rfl) (es_cons (t := 76) (OT.tmp rfl) (es_cons (t := 77) (OT.tmp rfl) (es_cons (t := 78) (OT.tmp rfl) (es_cons (t := 83) (OT.tmp rfl) (es_cons (t := 84) (OT.tmp rfl) (es_cons (t := 85) (OT.tmp rfl) (es_cons (t := 90) (OT.tmp rfl) (es_cons (t := 91) (OT.tmp rfl) es_nil))))))))))))))))) ?_
                            apply tr_any (m := 6) (ns := [[(13, none)], [(21, none)], [(105, some 0), (106, some 1)], [(107, some 2)], [(18, none)], [(109, some 4)]]) (by kernel_rfl) (by kernel_rfl) (Ts := [_, _, _, _, _, _]) rfl
                            case hops =>
                              refine ⟨?_, ⟨?_, ⟨?_, ⟨?_, ⟨?_, ⟨?_, trivial⟩⟩⟩⟩⟩⟩
                              · exact rop_pure rfl (pu_move (OT.tmp rfl))
                              · exact rop_pure rfl (pu_move (OT.tmp rfl))
                              · exact rop_pure rfl (pu_index (OT.tmp rfl) (OT.tmp rfl) Try.underlying22 (show tyOk Try.prog 9 false 1 = true from by decide +kernel) (by omega) (by (simp [maxLen] at *; omega)))
                              · exact rop_pure rfl (pu_load (OT.tmp rfl) (show tyOk Try.prog 9 false 1 = true from by decide +kernel))
                              · exact rop_pure rfl (pu_faddr (OT.tmp rfl) (show fieldOk Try.prog 31 2 2 false 1 = true from by decide +kernel))
                              · exact rop_pure rfl (pu_load_blk (OT.tmp rfl) (by exact mem_at 0 rfl) la2 (show tyOk Try.prog 9 false 1 = true from by decide +kernel))
                            case h =>
                              refine op_pure (pu_bs_eql (OT.tmp rfl) (OT.tmp rfl)) rfl rfl ?_
                              refine tr_nil ?_
                              refine then_normal ?_
                              refine tr_cond (OT.tmp rfl) (fun c111 => ?_) (fun c111 => ?_)
                              · skip
                                -- region 28
                                refine tr_env (es_cons (t := 3) (OT.tmp rfl) (es_cons (t := 5) (OT.tmp rfl) (es_cons (t := 13) (OT.tmp rfl) (es_cons (t := 15) (OT.tmp rfl) (es_cons (t := 16) (OT.tmp rfl) (es_cons (t := 18) (OT.tmp rfl) (es_cons (t := 19) (OT.tmp rfl) (es_cons (t := 21) (OT.tmp rfl) (es_cons (t := 76) (OT.tmp rfl) (es_cons (t := 77) (OT.tmp rfl) (es_cons (t := 78) (OT.tmp rfl) (es_cons (t := 83) (OT.tmp rfl) (es_cons (t := 84) (OT.tmp rfl) (es_cons (t := 85) (OT.tmp rfl) (es_cons (t := 90) (OT.tmp rfl) (es_cons (t := 91) (OT.tmp rfl) es_nil)))))))))))))))) ?_
                                refine tr_region ?_
                                refine op_pure (pu_move (OT.tmp rfl)) rfl rfl ?_
                                refine op_pure (pu_move (OT.tmp rfl)) rfl rfl ?_
                                refine op_pure (pu_index (OT.tmp rfl) (OT.tmp rfl) Try.underlying45 (show tyOk Try.prog 3 false 1 = true from by decide +kernel) (by omega) (by (simp [maxLen] at *; omega))) rfl rfl ?_
                                refine op_pure (pu_load (OT.tmp rfl) (show tyOk Try.prog 3 false 1 = true from by decide +kernel)) rfl rfl ?_
                                refine op_pure (pu_assign (OT.tmp rfl)) rfl rfl ?_
                                refine tr_nil ?_
                                refine block_normal ?_
                                refine then_normal ?_
                                -- region 29
                                refine tr_env (es_cons (t := 3) (OT.tmp rfl) (es_cons (t := 5) (OT.tmp rfl) (es_cons (t := 13) (OT.tmp rfl) (es_cons (t := 15) (OT.tmp rfl) (es_cons (t := 16) (OT.tmp rfl) (es_cons (t := 18) (OT.tmp rfl) (es_cons (t := 19) (OT.tmp rfl) (es_cons (t := 20) (OT.tmp rfl) (es_cons (t := 76) (OT.tmp rfl) (es_cons (t := 77) (OT.tmp rfl) (es_cons (t := 78) (OT.tmp rfl) (es_cons (t := 83) (OT.tmp rfl) (es_cons (t := 84) (OT.tmp rfl) (es_cons (t := 85) (OT.tmp rfl) (es_cons (t := 90) (OT.tmp rfl) (es_cons (t := 91) (OT.tmp rfl) es_nil)))))))))))))))) ?_
                                refine tr_region ?_
                                refine op_pure (pu_add' (OT.tmp rfl) OT.const (by omega)) rfl rfl ?_
                                refine op_pure (pu_move (OT.tmp rfl)) rfl rfl ?_
                                refine tr_nil ?_
                                refine then_normal ?_
                                exact tr_again (n + 1) (by simp only [decide_eq_true_eq] at c92; omega) (by simp only [decide_eq_true_eq] at c92; omega) (es_append (es_cons (t := 91) (by exact OT.tmp rfl) (es_cons (t := 19) (OT.val (OT.tmp rfl) (congrArg (Value.int _) (by rw [seek_succ]; rw [if_pos (by simpa using c100)]))) (es_cons (t := 20) (OT.val (OT.tmp rfl) (congrArg (Value.int _) (by rw [seek_succ]; rw [if_pos (by simpa using c111)]))) es_nil))) (es_cons (t := 3) (OT.tmp rfl) (es_cons (t := 5) (OT.tmp rfl) (es_cons (t := 13) (OT.tmp rfl) (es_cons (t := 15) (OT.tmp rfl) (es_cons (t := 16) (OT.tmp rfl) (es_cons (t := 18) (OT.tmp rfl) (es_cons (t := 76) (OT.tmp rfl) (es_cons (t := 77) (OT.tmp rfl) (es_cons (t := 78) (OT.tmp rfl) (es_cons (t := 83) (OT.tmp rfl) (es_cons (t := 84) (OT.tmp rfl) (es_cons (t := 85) (OT.tmp rfl) (es_cons (t := 90) (OT.tmp rfl) es_nil)))))))))))))) (own_picks (by repeat (first | exact picks_nil | refine picks_cons 0 rfl ?_ | refine picks_cons 1 rfl ?_ | refine picks_cons 2 rfl ?_ | refine picks_cons 3 rfl ?_ | refine picks_cons 4 rfl ?_ | refine picks_cons 5 rfl ?_ | refine picks_cons 6 rfl ?_ | refine picks_cons 7 rfl ?_ | refine picks_cons 8 rfl ?_)))
                              · skip
                                refine tr_skip ?_
                                refine block_normal ?_
                                refine then_normal ?_
                                -- region 29
                                refine tr_env (es_cons (t := 3) (OT.tmp rfl) (es_cons (t := 5) (OT.tmp rfl) (es_cons (t := 13) (OT.tmp rfl) (es_cons (t := 15) (OT.tmp rfl) (es_cons (t := 16) (OT.tmp rfl) (es_cons (t := 18) (OT.tmp rfl) (es_cons (t := 19) (OT.tmp rfl) (es_cons (t := 20) (OT.tmp rfl) (es_cons (t := 76) (OT.tmp rfl) (es_cons (t := 77) (OT.tmp rfl) (es_cons (t := 78) (OT.tmp rfl) (es_cons (t := 83) (OT.tmp rfl) (es_cons (t := 84) (OT.tmp rfl) (es_cons (t := 85) (OT.tmp rfl) (es_cons (t := 90) (OT.tmp rfl) (es_cons (t := 91) (OT.tmp rfl) es_nil)))))))))))))))) ?_
                                refine tr_region ?_
                                refine op_pure (pu_add' (OT.tmp rfl) OT.const (by omega)) rfl rfl ?_
                                refine op_pure (pu_move (OT.tmp rfl)) rfl rfl ?_
                                refine tr_nil ?_
                                refine then_normal ?_
                                exact tr_again (n + 1) (by simp only [decide_eq_true_eq] at c92; omega) (by simp only [decide_eq_true_eq] at c92; omega) (es_append (es_cons (t := 91) (by exact OT.tmp rfl) (es_cons (t := 19) (OT.val (OT.tmp rfl) (congrArg (Value.int _) (by rw [seek_succ]; rw [if_pos (by simpa using c100)]))) (es_cons (t := 20) (OT.val (OT.tmp rfl) (congrArg (Value.int _) (by rw [seek_succ]; rw [if_neg (by simpa using c111)]))) es_nil))) (es_cons (t := 3) (OT.tmp rfl) (es_cons (t := 5) (OT.tmp rfl) (es_cons (t := 13) (OT.tmp rfl) (es_cons (t := 15) (OT.tmp rfl) (es_cons (t := 16) (OT.tmp rfl) (es_cons (t := 18) (OT.tmp rfl) (es_cons (t := 76) (OT.tmp rfl) (es_cons (t := 77) (OT.tmp rfl) (es_cons (t := 78) (OT.tmp rfl) (es_cons (t := 83) (OT.tmp rfl) (es_cons (t := 84) (OT.tmp rfl) (es_cons (t := 85) (OT.tmp rfl) (es_cons (t := 90) (OT.tmp rfl) es_nil)))))))))))))) (own_picks (by repeat (first | exact picks_nil | refine picks_cons 0 rfl ?_ | refine picks_cons 1 rfl ?_ | refine picks_cons 2 rfl ?_ | refine picks_cons 3 rfl ?_ | refine picks_cons 4 rfl ?_ | refine picks_cons 5 rfl ?_ | refine picks_cons 6 rfl ?_ | refine picks_cons 7 rfl ?_ | refine picks_cons 8 rfl ?_)))
                          · skip
                            refine tr_skip ?_
                            refine then_normal ?_
                            refine tr_seq ?_
                            -- region 27
                            refine tr_env (es_cons (t := 3) (OT.tmp rfl) (es_cons (t := 5) (OT.tmp rfl) (es_cons (t := 13) (OT.tmp rfl) (es_cons (t := 15) (OT.tmp rfl) (es_cons (t := 16) (OT.tmp rfl) (es_cons (t := 18) (OT.tmp rfl) (es_cons (t := 19) (OT.tmp rfl) (es_cons (t := 20) (OT.tmp rfl) (es_cons (t := 21) (OT.tmp rfl) (es_cons (t := 76) (OT.tmp rfl) (es_cons (t := 77) (OT.tmp rfl) (es_cons (t := 78) (OT.tmp rfl) (es_cons (t := 83) (OT.tmp rfl) (es_cons (t := 84) (OT.tmp rfl) (es_cons (t := 85) (OT.tmp rfl) (es_cons (t := 90) (OT.tmp rfl) (es_cons (t := 91) (OT.tmp rfl) es_nil))))))))))))))))) ?_
                            apply tr_any (m := 6) (ns := [[(13, none)], [(21, none)], [(105, some 0), (106, some 1)], [(107, some 2)], [(18, none)], [(109, some 4)]]) (by kernel_rfl) (by kernel_rfl) (Ts := [_, _, _, _, _, _]) rfl
                            case hops =>
                              refine ⟨?_, ⟨?_, ⟨?_, ⟨?_, ⟨?_, ⟨?_, trivial⟩⟩⟩⟩⟩⟩
                              · exact rop_pure rfl (pu_move (OT.tmp rfl))
                              · exact rop_pure rfl (pu_move (OT.tmp rfl))
                              · exact rop_pure rfl (pu_index (OT.tmp rfl) (OT.tmp rfl) Try.underlying22 (show tyOk Try.prog 9 false 1 = true from by decide +kernel) (by omega) (by (simp [maxLen] at *; omega)))
                              · exact rop_pure rfl (pu_load (OT.tmp rfl) (show tyOk Try.prog 9 false 1 = true from by decide +kernel))
                              · exact rop_pure rfl (pu_faddr (OT.tmp rfl) (show fieldOk Try.prog 31 2 2 false 1 = true from by decide +kernel))
                              · exact rop_pure rfl (pu_load_blk (OT.tmp rfl) (by exact mem_at 0 rfl) la2 (show tyOk Try.prog 9 false 1 = true from by decide +kernel))
                            case h =>
                              refine op_pure (pu_bs_eql (OT.tmp rfl) (OT.tmp rfl)) rfl rfl ?_
                              refine tr_nil ?_
                              refine then_normal ?_
                              refine tr_cond (OT.tmp rfl) (fun c111 => ?_) (fun c111 => ?_)
                              · skip
                                -- region 28
                                refine tr_env (es_cons (t := 3) (OT.tmp rfl) (es_cons (t := 5) (OT.tmp rfl) (es_cons (t := 13) (OT.tmp rfl) (es_cons (t := 15) (OT.tmp rfl) (es_cons (t := 16) (OT.tmp rfl) (es_cons (t := 18) (OT.tmp rfl) (es_cons (t := 19) (OT.tmp rfl) (es_cons (t := 21) (OT.tmp rfl) (es_cons (t := 76) (OT.tmp rfl) (es_cons (t := 77) (OT.tmp rfl) (es_cons (t := 78) (OT.tmp rfl) (es_cons (t := 83) (OT.tmp rfl) (es_cons (t := 84) (OT.tmp rfl) (es_cons (t := 85) (OT.tmp rfl) (es_cons (t := 90) (OT.tmp rfl) (es_cons (t := 91) (OT.tmp rfl) es_nil)))))))))))))))) ?_
                                refine tr_region ?_
                                refine op_pure (pu_move (OT.tmp rfl)) rfl rfl ?_
                                refine op_pure (pu_move (OT.tmp rfl)) rfl rfl ?_
                                refine op_pure (pu_index (OT.tmp rfl) (OT.tmp rfl) Try.underlying45 (show tyOk Try.prog 3 false 1 = true from by decide +kernel) (by omega) (by (simp [maxLen] at *; omega))) rfl rfl ?_
                                refine op_pure (pu_load (OT.tmp rfl) (show tyOk Try.prog 3 false 1 = true from by decide +kernel)) rfl rfl ?_
                                refine op_pure (pu_assign (OT.tmp rfl)) rfl rfl ?_
                                refine tr_nil ?_
                                refine block_normal ?_
                                refine then_normal ?_
                                -- region 29
                                refine tr_env (es_cons (t := 3) (OT.tmp rfl) (es_cons (t := 5) (OT.tmp rfl) (es_cons (t := 13) (OT.tmp rfl) (es_cons (t := 15) (OT.tmp rfl) (es_cons (t := 16) (OT.tmp rfl) (es_cons (t := 18) (OT.tmp rfl) (es_cons (t := 19) (OT.tmp rfl) (es_cons (t := 20) (OT.tmp rfl) (es_cons (t := 76) (OT.tmp rfl) (es_cons (t := 77) (OT.tmp rfl) (es_cons (t := 78) (OT.tmp rfl) (es_cons (t := 83) (OT.tmp rfl) (es_cons (t := 84) (OT.tmp rfl) (es_cons (t := 85) (OT.tmp rfl) (es_cons (t := 90) (OT.tmp rfl) (es_cons (t := 91) (OT.tmp rfl) es_nil)))))))))))))))) ?_
                                refine tr_region ?_
                                refine op_pure (pu_add' (OT.tmp rfl) OT.const (by omega)) rfl rfl ?_
                                refine op_pure (pu_move (OT.tmp rfl)) rfl rfl ?_
                                refine tr_nil ?_
                                refine then_normal ?_
                                exact tr_again (n + 1) (by simp only [decide_eq_true_eq] at c92; omega) (by simp only [decide_eq_true_eq] at c92; omega) (es_append (es_cons (t := 91) (by exact OT.tmp rfl) (es_cons (t := 19) (OT.val (OT.tmp rfl) (congrArg (Value.int _) (by rw [seek_succ]; rw [if_neg (by simpa using c100)]))) (es_cons (t := 20) (OT.val (OT.tmp rfl) (congrArg (Value.int _) (by rw [seek_succ]; rw [if_pos (by simpa using c111)]))) es_nil))) (es_cons (t := 3) (OT.tmp rfl) (es_cons (t := 5) (OT.tmp rfl) (es_cons (t := 13) (OT.tmp rfl) (es_cons (t := 15) (OT.tmp rfl) (es_cons (t := 16) (OT.tmp rfl) (es_cons (t := 18) (OT.tmp rfl) (es_cons (t := 76) (OT.tmp rfl) (es_cons (t := 77) (OT.tmp rfl) (es_cons (t := 78) (OT.tmp rfl) (es_cons (t := 83) (OT.tmp rfl) (es_cons (t := 84) (OT.tmp rfl) (es_cons (t := 85) (OT.tmp rfl) (es_cons (t := 90) (OT.tmp rfl) es_nil)))))))))))))) (own_picks (by repeat (first | exact picks_nil | refine picks_cons 0 rfl ?_ | refine picks_cons 1 rfl ?_ | refine picks_cons 2 rfl ?_ | refine picks_cons 3 rfl ?_ | refine picks_cons 4 rfl ?_ | refine picks_cons 5 rfl ?_ | refine picks_cons 6 rfl ?_ | refine picks_cons 7 rfl ?_ | refine picks_cons 8 rfl ?_)))
                              · skip
                                refine tr_skip ?_
                                refine block_normal ?_
                                refine then_normal ?_
                                -- region 29
                                refine tr_env (es_cons (t := 3) (OT.tmp rfl) (es_cons (t := 5) (OT.tmp rfl) (es_cons (t := 13) (OT.tmp rfl) (es_cons (t := 15) (OT.tmp rfl) (es_cons (t := 16) (OT.tmp rfl) (es_cons (t := 18) (OT.tmp rfl) (es_cons (t := 19) (OT.tmp rfl) (es_cons (t := 20) (OT.tmp rfl) (es_cons (t := 76) (OT.tmp rfl) (es_cons (t := 77) (OT.tmp rfl) (es_cons (t := 78) (OT.tmp rfl) (es_cons (t := 83) (OT.tmp rfl) (es_cons (t := 84) (OT.tmp rfl) (es_cons (t := 85) (OT.tmp rfl) (es_cons (t := 90) (OT.tmp rfl) (es_cons (t := 91) (OT.tmp rfl) es_nil)))))))))))))))) ?_
                                refine tr_region ?_
                                refine op_pure (pu_add' (OT.tmp rfl) OT.const (by omega)) rfl rfl ?_
                                refine op_pure (pu_move (OT.tmp rfl)) rfl rfl ?_
                                refine tr_nil ?_
                                refine then_normal ?_
                                exact tr_again (n + 1) (by simp only [decide_eq_true_eq] at c92; omega) (by simp only [decide_eq_true_eq] at c92; omega) (es_append (es_cons (t := 91) (by exact OT.tmp rfl) (es_cons (t := 19) (OT.val (OT.tmp rfl) (congrArg (Value.int _) (by rw [seek_succ]; rw [if_neg (by simpa using c100)]))) (es_cons (t := 20) (OT.val (OT.tmp rfl) (congrArg (Value.int _) (by rw [seek_succ]; rw [if_neg (by simpa using c111)]))) es_nil))) (es_cons (t := 3) (OT.tmp rfl) (es_cons (t := 5) (OT.tmp rfl) (es_cons (t := 13) (OT.tmp rfl) (es_cons (t := 15) (OT.tmp rfl) (es_cons (t := 16) (OT.tmp rfl) (es_cons (t := 18) (OT.tmp rfl) (es_cons (t := 76) (OT.tmp rfl) (es_cons (t := 77) (OT.tmp rfl) (es_cons (t := 78) (OT.tmp rfl) (es_cons (t := 83) (OT.tmp rfl) (es_cons (t := 84) (OT.tmp rfl) (es_cons (t := 85) (OT.tmp rfl) (es_cons (t := 90) (OT.tmp rfl) es_nil)))))))))))))) (own_picks (by repeat (first | exact picks_nil | refine picks_cons 0 rfl ?_ | refine picks_cons 1 rfl ?_ | refine picks_cons 2 rfl ?_ | refine picks_cons 3 rfl ?_ | refine picks_cons 4 rfl ?_ | refine picks_cons 5 rfl ?_ | refine picks_cons 6 rfl ?_ | refine picks_cons 7 rfl ?_ | refine picks_cons 8 rfl ?_)))
                      · skip
                        refine tr_exit ?_
                        refine then_exit ?_
                        refine then_exit ?_
                        refine block_hit ?_
                        refine then_normal ?_
                        -- region 30
                        refine tr_env (es_cons (t := 3) (OT.tmp rfl) (es_cons (t := 5) (OT.tmp rfl) (es_cons (t := 13) (OT.tmp rfl) (es_cons (t := 15) (OT.tmp rfl) (es_cons (t := 16) (OT.tmp rfl) (es_cons (t := 18) (OT.tmp rfl) (es_cons (t := 19) (OT.tmp rfl) (es_cons (t := 20) (OT.tmp rfl) (es_cons (t := 76) (OT.tmp rfl) (es_cons (t := 77) (OT.tmp rfl) (es_cons (t := 78) (OT.tmp rfl) (es_cons (t := 83) (OT.tmp rfl) (es_cons (t := 84) (OT.tmp rfl) (es_cons (t := 85) (OT.tmp rfl) es_nil)))))))))))))) ?_
                        obtain rfl : n = (varsL v.2.2.2.1).length := by simp only [decide_eq_false_iff_not] at c92; omega
                        rw [seek_env hnd hrl, seek_env hnd hrl]
                        refine tr_region ?_
                        refine op_pure (pu_move (OT.tmp rfl)) rfl rfl ?_
                        refine op_pure (pu_move (OT.tmp rfl)) rfl rfl ?_
                        refine op_gu rfl rfl rfl (OT.gu_mk (OT.tmp rfl)) (fun hg => by (have hg1 := hg.2; (try simp only [decide_eq_true_eq, decide_eq_false_iff_not] at hg1); exact pu_load_var (by exact OT.tmp rfl) (by exact mem_at 1 rfl) (show tyOk Try.prog 34 true 3 = true from by decide +kernel))) rfl ?_
                        refine op_gu rfl rfl rfl (OT.gu_mk (OT.tmp rfl)) (fun hg => by (have hg1 := hg.2; (try simp only [decide_eq_true_eq, decide_eq_false_iff_not] at hg1); exact pu_move (by exact OT.tmp rfl))) rfl ?_
                        refine op_gu rfl rfl rfl (OT.gu_mk (OT.tmp rfl)) (fun hg => by (have hg1 := hg.2; (try simp only [decide_eq_true_eq, decide_eq_false_iff_not] at hg1); exact pu_faddr (by exact OT.tmp rfl) (show fieldOk Try.prog 31 1 1 false 1 = true from by decide +kernel))) rfl ?_
                        refine op_gu rfl rfl rfl (OT.gu_mk (OT.tmp rfl)) (fun hg => by (have hg1 := hg.2; (try simp only [decide_eq_true_eq, decide_eq_false_iff_not] at hg1); exact pu_load_blk (by exact OT.gu (OT.tmp rfl) hg) (by exact mem_at 0 rfl) la1 (show tyOk Try.prog 9 false 1 = true from by decide +kernel))) rfl ?_
                        refine op_gu rfl rfl rfl (OT.gu_mk (OT.tmp rfl)) (fun hg => by (have hg1 := hg.2; (try simp only [decide_eq_true_eq, decide_eq_false_iff_not] at hg1); exact pu_move (by exact OT.tmp rfl))) rfl ?_
                        refine op_gu rfl rfl rfl (OT.gu_mk (OT.tmp rfl)) (fun hg => by (have hg1 := hg.2; (try simp only [decide_eq_true_eq, decide_eq_false_iff_not] at hg1); exact pu_build (d := kE) (v0 := (0, [], 0)) (ps := [(0, 1), (1, 1), (2, 1)]) zE (by kernel_rfl) rfl (fills_cons rfl le0 (by exact OT.gu (OT.tmp rfl) hg) (fills_cons rfl le1 (by exact OT.gu (OT.tmp rfl) hg) (fills_cons rfl le2 (by exact OT.gu (OT.tmp rfl) hg) fills_nil))))) rfl ?_
                        refine op_gu rfl rfl rfl (OT.gu_mk (OT.tmp rfl)) (fun hg => by (have hg1 := hg.2; (try simp only [decide_eq_true_eq, decide_eq_false_iff_not] at hg1); exact pu_eq_of eqEd (by exact OT.gu (OT.tmp rfl) hg) (by exact OT.gu (OT.tmp rfl) hg))) rfl ?_
                        refine op_pure (pu_pick_or (OT.tmp rfl) (by exact OT.tmp rfl)) rfl rfl ?_
                        refine op_pure (pu_assign (OT.tmp rfl)) rfl rfl ?_
                        refine tr_nil ?_
                        refine block_normal ?_
                        refine then_normal ?_
                        -- region 31
                        refine tr_env (es_cons (t := 3) (OT.tmp rfl) (es_cons (t := 5) (OT.tmp rfl) (es_cons (t := 13) (OT.tmp rfl) (es_cons (t := 15) (OT.tmp rfl) (es_cons (t := 16) (OT.tmp rfl) (es_cons (t := 76) (OT.tmp rfl) (es_cons (t := 77) (OT.tmp rfl) (es_cons (t := 78) (OT.tmp rfl) (es_cons (t := 83) (OT.tmp rfl) (es_cons (t := 84) (OT.tmp rfl) (es_cons (t := 85) (OT.tmp rfl) es_nil))))))))))) ?_
                        refine tr_region ?_
                        refine op_pure (pu_add' (OT.tmp rfl) OT.const (by omega)) rfl rfl ?_
                        refine op_pure (pu_move (OT.tmp rfl)) rfl rfl ?_
                        refine tr_nil ?_
                        refine then_normal ?_
                        exact tr_again (k + 1) (by omega) (by omega) (es_append (es_cons (t := 85) (by exact OT.tmp rfl) (es_cons (t := 16) (OT.val (OT.tmp rfl) (congrArg Value.bool (by rw [hst, usedA_snoc]))) es_nil)) (es_cons (t := 3) (OT.tmp rfl) (es_cons (t := 5) (OT.tmp rfl) (es_cons (t := 13) (OT.tmp rfl) (es_cons (t := 15) (OT.tmp rfl) (es_cons (t := 76) (OT.tmp rfl) (es_cons (t := 77) (OT.tmp rfl) (es_cons (t := 78) (OT.tmp rfl) (es_cons (t := 83) (OT.tmp rfl) (es_cons (t := 84) (OT.tmp rfl) es_nil)))))))))) (own_picks (by repeat (first | exact picks_nil | refine picks_cons 0 rfl ?_ | refine picks_cons 1 rfl ?_ | refine picks_cons 2 rfl ?_ | refine picks_cons 3 rfl ?_ | refine picks_cons 4 rfl ?_ | refine picks_cons 5 rfl ?_ | refine picks_cons 6 rfl ?_ | refine picks_cons 7 rfl ?_ | refine picks_cons 8 rfl ?_)))
                  · skip
                    refine tr_exit ?_
                    refine then_exit ?_
                    refine then_exit ?_
                    refine block_hit ?_
                    refine then_normal ?_
                    refine tr_seq ?_
                    -- region 32
                    refine tr_env (es_cons (t := 3) (OT.tmp rfl) (es_cons (t := 5) (OT.tmp rfl) (es_cons (t := 13) (OT.tmp rfl) (es_cons (t := 16) (OT.tmp rfl) (es_cons (t := 76) (OT.tmp rfl) (es_cons (t := 77) (OT.tmp rfl) (es_cons (t := 78) (OT.tmp rfl) es_nil))))))) ?_
                    obtain rfl : k = v.2.2.2.1.length := by simp only [decide_eq_false_iff_not] at c86; omega
                    rw [List.take_length, hua]
                    refine tr_region ?_
                    refine op_pure (pu_move (OT.tmp rfl)) rfl rfl ?_
                    refine op_pure (pu_not (OT.tmp rfl)) rfl rfl ?_
                    refine tr_nil ?_
                    refine then_normal ?_
                    refine tr_cond (OT.tmp rfl) (fun c129 => ?_) (fun c129 => ?_)
                    · skip
                      exact absurd c129 (by simp) --done
                    · skip
                      refine tr_skip ?_
                      refine block_normal ?_
                      refine then_normal ?_
                      -- region 34
                      refine tr_env (es_cons (t := 3) (OT.tmp rfl) (es_cons (t := 5) (OT.tmp rfl) (es_cons (t := 13) (OT.tmp rfl) (es_cons (t := 76) (OT.tmp rfl) (es_cons (t := 77) (OT.tmp rfl) (es_cons (t := 78) (OT.tmp rfl) es_nil)))))) ?_
                      refine tr_region ?_
                      refine op_pure (pu_add' (OT.tmp rfl) OT.const (by omega)) rfl rfl ?_
                      refine op_pure (pu_move (OT.tmp rfl)) rfl rfl ?_
                      refine tr_nil ?_
                      refine then_normal ?_
                      exact tr_again (j + 1) (by omega) (by omega) (es_append (es_cons (t := 78) (by exact OT.tmp rfl) es_nil) (es_cons (t := 3) (OT.tmp rfl) (es_cons (t := 5) (OT.tmp rfl) (es_cons (t := 13) (OT.tmp rfl) (es_cons (t := 76) (OT.tmp rfl) (es_cons (t := 77) (OT.tmp rfl) es_nil)))))) (own_picks (by repeat (first | exact picks_nil | refine picks_cons 0 rfl ?_ | refine picks_cons 1 rfl ?_ | refine picks_cons 2 rfl ?_ | refine picks_cons 3 rfl ?_ | refine picks_cons 4 rfl ?_ | refine picks_cons 5 rfl ?_ | refine picks_cons 6 rfl ?_ | refine picks_cons 7 rfl ?_ | refine picks_cons 8 rfl ?_)))
              · skip
                refine tr_exit ?_
                refine then_exit ?_
                refine then_exit ?_
                refine block_hit ?_
                refine then_normal ?_
                refine tr_seq ?_
                -- region 35
                refine tr_env es_nil ?_
                refine tr_region ?_
                refine op_pure (pu_assign OT.const) rfl rfl ?_
                refine tr_nil ?_
                refine then_normal ?_
                refine tr_ret ?_
                exact ret_one .ret (.inl rfl) rfl () (OT.val (OT.tmp rfl) (congrArg Value.bool (rfl))) trivial (by exact picks_nil)
end Go.Proofs.Ytakkjljhjfkkbaa
