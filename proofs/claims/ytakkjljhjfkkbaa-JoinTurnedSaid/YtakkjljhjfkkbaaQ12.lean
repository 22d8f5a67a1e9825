/- The texts JnH, JnL, JnM, JnN, Jn7, Jn8, JnO, Jn9, Jn10, JnP of this claim, put together in their order. No condition of their own. -/
import Derived.Test.YtakkjljhjfkkbaaQ9
import Derived.Test.YtakkjljhjfkkbaaQ5
import Derived.Test.YtakkjljhjfkkbaaQ1
import Derived.Test.YtakkjljhjfkkbaaQ2
/- How often each tuple comes in a list that rises. Plain Lean. -/
namespace Go.Jn
open Go Go.Gw Go.Tu
set_option linter.unusedVariables false
set_option linter.unusedSimpArgs false
abbrev SortL (xs : List Tp) : Prop := xs.Pairwise fun x y => cmpL x y ≤ 0
def cntL (xs : List Tp) : List Int := (dd xs).map fun t => (xs.count t : Int)
theorem cntL_len (xs : List Tp) : (cntL xs).length = (dd xs).length := by unfold cntL; rw [List.length_map]
section
variable {xs : List Tp} {k : Nat}
theorem sort_at (hs : SortL xs) {i j : Nat} (hi : i < j) (hj : j < xs.length) : cmpL (at' xs (i : Int)) (at' xs (j : Int)) ≤ 0 := by
  rw [at'_nat (show i < xs.length by omega), at'_nat hj]
  exact List.pairwise_iff_getElem.1 hs i j (by omega) hj hi
theorem cmp_anti {a b : Tp} (h1 : cmpL a b ≤ 0) (h2 : cmpL b a ≤ 0) : a = b := by
  have := cmp_neg a b
  exact cmp_eq.1 (by omega)
theorem sort_take (hs : SortL xs) (k : Nat) : SortL (xs.take k) := hs.sublist (List.take_sublist _ _)
theorem dd_nodup (hs : SortL xs) : (dd xs).Nodup := (dd_rises hs).imp fun {a b} h e => by subst e; rw [cmp_self] at h; omega
theorem prev_at (h : k + 1 < xs.length) : at' xs (((k + 1 : Nat) : Int) - 1) = at' xs (k : Int) := by congr 1; omega
/-- The last of them is the last tuple. -/
theorem dd_last : ∀ {k : Nat}, k < xs.length → dd (xs.take (k + 1)) ≠ [] ∧ at' (dd (xs.take (k + 1))) (((dd (xs.take (k + 1))).length : Int) - 1) = at' xs (k : Int)
  | 0, h => by
    have e : xs.take (0 + 1) = [at' xs ((0 : Nat) : Int)] := by rw [at'_nat h, List.take_succ_eq_append_getElem h]; simp
    rw [e, dd_one (by simp)]
    exact ⟨by simp, rfl⟩
  | k + 1, h => by
    obtain ⟨h1, h2⟩ := dd_last (k := k) (by omega)
    have hst := dd_step (xs := xs) (m := k + 1) (by omega) h
    rw [prev_at h] at hst
    split at hst
    · rename_i he
      rw [hst]; exact ⟨h1, h2.trans he⟩
    · rw [hst]
      refine ⟨by simp, ?_⟩
      rw [List.length_append, List.length_singleton]
      have e : (((dd (xs.take (k + 1))).length + 1 : Nat) : Int) - 1 = ((dd (xs.take (k + 1))).length : Int) := by omega
      rw [e, at'_nat (by simp)]
      simp
theorem count_take {t : Tp} (h : k < xs.length) : (xs.take (k + 1)).count t = (xs.take k).count t + if at' xs (k : Int) = t then 1 else 0 := by
  rw [at'_nat h, List.take_succ_eq_append_getElem h, List.count_append]
  congr 1
  rw [List.count_singleton]
  simp
theorem cnt_new (hs : SortL xs) (h : k < xs.length) (hne : k = 0 ∨ at' xs ((k : Int) - 1) ≠ at' xs (k : Int)) : dd (xs.take (k + 1)) = dd (xs.take k) ++ [at' xs (k : Int)] ∧ cntL (xs.take (k + 1)) = cntL (xs.take k) ++ [1] := by
  have hno : at' xs (k : Int) ∉ xs.take k := by
    intro hm
    obtain ⟨i, hi, he⟩ := List.getElem_of_mem hm
    rw [List.length_take] at hi
    have hik : i < k := by omega
    have he2 : at' xs (i : Int) = at' xs (k : Int) := by
      rw [List.getElem_take] at he
      rw [at'_nat (show i < xs.length by omega)]; exact he
    rcases hne with h0 | h0
    · omega
    · have e1 : ((k : Int) - 1) = ((k - 1 : Nat) : Int) := by omega
      rw [e1] at h0
      refine h0 (cmp_anti (sort_at hs (by omega) h) ?_)
      rcases Nat.lt_or_ge i (k - 1) with h1 | h1
      · rw [← he2]; exact sort_at hs h1 (by omega)
      · have : i = k - 1 := by omega
        subst this
        rw [← he2, cmp_self]; exact Int.le_refl _
  have hdd : dd (xs.take (k + 1)) = dd (xs.take k) ++ [at' xs (k : Int)] := by
    rcases Nat.eq_zero_or_pos k with h0 | h0
    · subst h0
      rw [at'_nat h, List.take_succ_eq_append_getElem h]
      simp only [List.take_zero, List.nil_append]
      rw [dd_one (by simp)]; rfl
    · have hst := dd_step (xs := xs) (m := k) h0 h
      rw [if_neg (hne.resolve_left (by omega))] at hst
      exact hst
  refine ⟨hdd, ?_⟩
  unfold cntL
  rw [hdd, List.map_append]
  have c0 : (xs.take k).count (at' xs (k : Int)) = 0 := List.count_eq_zero.2 hno
  congr 1
  · refine List.map_congr_left fun t ht => ?_
    rw [count_take h, if_neg (show ¬ at' xs (k : Int) = t from fun e => hno (by rw [e]; exact dd_mem.1 ht))]; rfl
  · simp [count_take h, c0]
theorem cnt_same (hs : SortL xs) (h : k + 1 < xs.length) (he : at' xs (k : Int) = at' xs ((k + 1 : Nat) : Int)) : dd (xs.take (k + 1 + 1)) = dd (xs.take (k + 1)) ∧
    cntL (xs.take (k + 1 + 1)) = (cntL (xs.take (k + 1))).set ((dd (xs.take (k + 1))).length - 1) (at' (cntL (xs.take (k + 1))) (((dd (xs.take (k + 1))).length : Int) - 1) + 1) := by
  have hst := dd_step (xs := xs) (m := k + 1) (by omega) h
  rw [prev_at h, if_pos he] at hst
  refine ⟨hst, ?_⟩
  obtain ⟨hn, hl⟩ := dd_last (xs := xs) (k := k) (by omega)
  have hnd := dd_nodup (sort_take hs (k + 1))
  unfold cntL
  rw [hst]
  generalize hD : dd (xs.take (k + 1)) = D at hn hl hnd
  have hlen : 0 < D.length := by cases D with
    | nil => exact absurd rfl hn
    | cons a l => simp
  have hi : ((D.length : Int) - 1) = ((D.length - 1 : Nat) : Int) := by omega
  rw [hi] at hl ⊢
  have hlt : D.length - 1 < D.length := by omega
  rw [at'_nat hlt] at hl
  rw [at'_nat (by rw [List.length_map]; exact hlt), List.getElem_map]
  apply List.ext_getElem
  · simp
  · intro i h1 h2
    rw [List.length_map] at h1
    rw [List.getElem_map, count_take h, List.getElem_set]
    by_cases hii : D.length - 1 = i
    · subst hii
      rw [if_pos rfl, if_pos (by rw [← he, hl])]
      omega
    · rw [if_neg hii, if_neg, List.getElem_map]
      · simp
      · intro e
        rw [← he, ← hl] at e
        exact hii ((List.getElem_inj hnd).1 e)
end
theorem cntL_all {all rs : List Tp} (hp : rs.Perm all) (hs : SortL rs) : dd rs = setR all ∧ cntL rs = countsOf all := by
  have h1 := dd_set hp hs
  refine ⟨h1, ?_⟩
  unfold cntL countsOf
  rw [h1]
  exact List.map_congr_left fun t _ => by rw [hp.count_eq]
theorem setR_idem (l : List Tp) : setR (setR l) = setR l := (setR_unique (setR_spec l).1 fun x => Iff.rfl).symm
end Go.Jn
namespace Go.Jn
open Go Go.Gw Go.Tu
theorem res_err {v : Vw} {l : List Ed} {r : List Tp × Int} (h : RowsSay v l r) (h0 : r.2 ≠ 0) : ResSay v l ([], [], r.2) := by
  rcases h with ⟨h1, rfl⟩ | ⟨h1, h2, rfl⟩ | ⟨h1, h2, rfl⟩
  · exact .inl ⟨h1, rfl⟩
  · exact .inr (.inl ⟨h1, h2, rfl⟩)
  · exact absurd rfl h0
theorem rows_ok {v : Vw} {l : List Ed} {r : List Tp × Int} (h : RowsSay v l r) (h0 : r.2 = 0) : okV v = true ∧ ¬ tooMany l v.2.2.2.1 ∧ r.1 = setR (rowsK (byLab l) (varsL v.2.2.2.1) v.2.2.2.1) := by
  rcases h with ⟨h1, rfl⟩ | ⟨h1, h2, rfl⟩ | ⟨h1, h2, rfl⟩
  · cases h0
  · cases h0
  · exact ⟨h1, h2, rfl⟩
theorem rows_facts {v : Vw} {l : List Ed} {rows : List Tp} (hok : okV v = true) (hn : ¬ tooMany l v.2.2.2.1) (hr : rows = setR (rowsK (byLab l) (varsL v.2.2.2.1) v.2.2.2.1)) :
    rows.length ≤ 3000 ∧ (∀ r ∈ rows, r.length = (varsL v.2.2.2.1).length) ∧ v.2.2.1.length ≤ 6 ∧ (varsL v.2.2.2.1).length ≤ 16 ∧ ∀ o ∈ v.2.2.1, o ∈ varsL v.2.2.2.1 := by
  obtain ⟨_, h1, h2, h3⟩ := okV_pat (v := v) (by rw [hok]; rfl)
  have hvl := varsL_len v.2.2.2.1
  refine ⟨?_, fun r hrm => ?_, h1, by omega, fun o ho => ?_⟩
  · have h4 : ¬ 3000 < (rowsK (byLab l) (varsL v.2.2.2.1) (v.2.2.2.1.take v.2.2.2.1.length)).length := fun e => hn ⟨_, Nat.le_refl _, e⟩
    rw [List.take_length] at h4
    have := setR_len (rowsK (byLab l) (varsL v.2.2.2.1) v.2.2.2.1)
    rw [hr]; omega
  · rw [hr] at hrm
    have := ((setR_spec _).2 r).1 hrm
    have h5 := rows_len l (al := v.2.2.2.1) (k := v.2.2.2.1.length) (r := r) (by rw [List.take_length]; exact this)
    rwa [List.take_length] at h5
  · have h6 := hok
    unfold okV outB at h6
    simp only [Bool.and_eq_true, List.all_eq_true] at h6
    simpa using h6.2.1 o ho
theorem cnt_bound (xs : List Tp) (i : Int) : 0 ≤ at' (cntL xs) i ∧ at' (cntL xs) i ≤ xs.length := by
  unfold at'
  rw [List.getD_eq_getElem?_getD]
  cases e : (cntL xs)[i.toNat]? with
  | none => exact ⟨Int.le_refl _, Int.natCast_nonneg _⟩
  | some x =>
    unfold cntL at e
    rw [List.getElem?_map] at e
    cases e2 : (dd xs)[i.toNat]? with
    | none => rw [e2] at e; cases e
    | some t =>
      rw [e2] at e
      cases e
      have := List.count_le_length (a := t) (l := xs)
      simp only [Option.getD_some]; omega
theorem grp_yes {rs : List Tp} {k : Nat} {t : Tp} (h : k < rs.length) (ht : at' rs (k : Int) = t) (hc : (decide ((0 : Int) < (dd (rs.take k)).length) && decide (cmpL (at' (dd (rs.take k)) (((dd (rs.take k)).length : Int) - 1)) t = 0)) = true) : ∃ k', k = k' + 1 ∧ at' rs (k' : Int) = at' rs ((k' + 1 : Nat) : Int) := by
  simp only [Bool.and_eq_true, decide_eq_true_eq] at hc
  match k, h, ht, hc with
  | 0, h, ht, hc => simp [dd] at hc
  | k' + 1, h, ht, hc => exact ⟨k', rfl, (dd_last (by omega)).2.symm.trans ((cmp_eq.1 hc.2).trans ht.symm)⟩
theorem grp_no {rs : List Tp} {k : Nat} {t : Tp} (h : k < rs.length) (ht : at' rs (k : Int) = t) (hc : (decide ((0 : Int) < (dd (rs.take k)).length) && decide (cmpL (at' (dd (rs.take k)) (((dd (rs.take k)).length : Int) - 1)) t = 0)) = false) : k = 0 ∨ at' rs ((k : Int) - 1) ≠ at' rs (k : Int) := by
  match k, h, ht, hc with
  | 0, _, _, _ => exact .inl rfl
  | k' + 1, h, ht, hc =>
    right
    rw [prev_at h]
    intro e
    obtain ⟨h1, h2⟩ := dd_last (xs := rs) (k := k') (by omega)
    have h3 : 0 < (dd (rs.take (k' + 1))).length := by cases hd : dd (rs.take (k' + 1)) with
      | nil => exact absurd hd h1
      | cons a l => simp
    have h4 : cmpL (at' (dd (rs.take (k' + 1))) (((dd (rs.take (k' + 1))).length : Int) - 1)) t = 0 := cmp_eq.2 (h2.trans (e.trans ht))
    have h5 : decide ((0 : Int) < (dd (rs.take (k' + 1))).length) = true := decide_eq_true (by omega)
    rw [h4, h5] at hc
    exact absurd hc (by decide)
end Go.Jn
/- The order of atoms, of edges; more edges: what rows and results are then. Plain Lean. -/
namespace Go.Jn
open Go Go.Gw Go.Tu
set_option linter.unusedVariables false
set_option linter.unusedSimpArgs false
abbrev ats (v : Vw) : List Atm := v.2.2.2.1
abbrev outs (v : Vw) : List Lab := v.2.2.1
/-- The rows of a pattern. -/
def rowsV (v : Vw) (l : List Ed) : List Tp := rowsK (byLab l) (varsL (ats v)) (ats v)
theorem rowsV_spec (v : Vw) (l : List Ed) : (rowsV v l).Nodup ∧ ∀ r, r ∈ rowsV v l ↔ r.length = (varsL (ats v)).length ∧ Sat l (varsL (ats v)) (ats v) r := rows_spec l (ats v) (List.prefix_refl _)
theorem env_map {W : List Lab} {f : Lab → Int} {x : Lab} (h : x ∈ W) : env W (W.map f) x = f x := by
  unfold env ix
  have h1 := List.idxOf_lt_length_of_mem h
  rw [List.getD_eq_getElem?_getD, List.getElem?_map, List.getElem?_eq_getElem h1, List.getElem_idxOf]; rfl
theorem row_eq {V : List Lab} {r : Tp} (hn : V.Nodup) (hl : r.length = V.length) : V.map (env V r) = r := by
  apply List.ext_getElem
  · rw [List.length_map, hl]
  · intro i h1 h2
    rw [List.length_map] at h1
    rw [List.getElem_map]
    unfold env ix
    have e : V.idxOf V[i] = i := by
      have h3 := List.idxOf_lt_length_of_mem (List.getElem_mem h1)
      exact (List.getElem_inj hn).1 (List.getElem_idxOf h3)
    rw [e, List.getD_eq_getElem?_getD, List.getElem?_eq_getElem h2]; rfl
theorem perm_mem {α : Type} [DecidableEq α] {l m : List α} (h1 : l.Nodup) (h2 : m.Nodup) (h : ∀ x, x ∈ l ↔ x ∈ m) : l.Perm m := (List.perm_ext_iff_of_nodup h1 h2).2 h
theorem map_nodup {α β : Type} {f : α → β} {l : List α} (hl : l.Nodup) (hf : ∀ a ∈ l, ∀ b ∈ l, f a = f b → a = b) : (l.map f).Nodup := by
  induction l with
  | nil => exact List.nodup_nil
  | cons a l ih =>
    obtain ⟨h1, h2⟩ := List.nodup_cons.1 hl
    rw [List.map_cons]
    refine List.nodup_cons.2 ⟨fun h => ?_, ih h2 fun x hx y hy => hf x (List.mem_cons_of_mem _ hx) y (List.mem_cons_of_mem _ hy)⟩
    obtain ⟨b, hb, e⟩ := List.mem_map.1 h
    have := hf b (List.mem_cons_of_mem _ hb) a List.mem_cons_self e
    subst this; exact h1 hb
theorem setR_nodup (l : List Tp) : (setR l).Nodup := (setR_spec l).1.imp fun {a b} h e => by subst e; rw [cmp_self] at h; omega
theorem setR_perm {l : List Tp} (h : l.Nodup) : (setR l).Perm l := perm_mem (setR_nodup l) h (setR_spec l).2
theorem Sat.congr {l l' : List Ed} {V W : List Lab} {al bl : List Atm} {r s : Tp} (h : Sat l V al r) (hA : ∀ a ∈ bl, a ∈ al) (hE : ∀ e ∈ l, e ∈ l') (he : ∀ a ∈ bl, env W s a.1 = env V r a.1 ∧ env W s a.2.2 = env V r a.2.2) : Sat l' W bl s := fun a ha => by
  rw [(he a ha).1, (he a ha).2]
  exact hE _ (h a (hA a ha))
section
variable {v w : Vw} {l l' : List Ed}
theorem vars_same (hA : ∀ a, a ∈ ats w ↔ a ∈ ats v) (x : Lab) : x ∈ varsL (ats w) ↔ x ∈ varsL (ats v) := by
  rw [varsL_mem, varsL_mem]
  exact ⟨fun ⟨a, h, e⟩ => ⟨a, (hA a).1 h, e⟩, fun ⟨a, h, e⟩ => ⟨a, (hA a).2 h, e⟩⟩
theorem turned_rows (hA : ∀ a, a ∈ ats w ↔ a ∈ ats v) (hE : ∀ e, e ∈ l' ↔ e ∈ l) : (rowsV w l').Perm ((rowsV v l).map fun r => (varsL (ats w)).map (env (varsL (ats v)) r)) := by
  obtain ⟨n1, s1⟩ := rowsV_spec v l
  obtain ⟨n2, s2⟩ := rowsV_spec w l'
  have nV := varsL_nodup (ats v)
  have nW := varsL_nodup (ats w)
  have hlen : (varsL (ats w)).length = (varsL (ats v)).length := (perm_mem nW nV (vars_same hA)).length_eq
  refine perm_mem n2 (map_nodup n1 fun a ha b hb e => ?_) fun s => ?_
  · have l1 := ((s1 a).1 ha).1
    have l2 := ((s1 b).1 hb).1
    rw [← row_eq nV l1, ← row_eq nV l2]
    refine List.map_congr_left fun x hx => ?_
    have hxW := (vars_same hA x).2 hx
    rw [← env_map (f := env (varsL (ats v)) a) hxW, e, env_map hxW]
  · rw [s2, List.mem_map]
    constructor
    · rintro ⟨h1, h2⟩
      refine ⟨(varsL (ats v)).map (env (varsL (ats w)) s), (s1 _).2 ⟨by rw [List.length_map], ?_⟩, ?_⟩
      · refine Sat.congr h2 (fun a ha => (hA a).2 ha) (fun e he => (hE e).1 he) fun a ha => ⟨env_map (varsL_mem.2 ⟨a, ha, .inl rfl⟩), env_map (varsL_mem.2 ⟨a, ha, .inr rfl⟩)⟩
      · rw [show (varsL (ats w)).map (env (varsL (ats v)) ((varsL (ats v)).map (env (varsL (ats w)) s))) = (varsL (ats w)).map (env (varsL (ats w)) s) from List.map_congr_left fun x hx => env_map ((vars_same hA x).1 hx)]
        exact row_eq nW h1
    · rintro ⟨r, hr, rfl⟩
      obtain ⟨h1, h2⟩ := (s1 r).1 hr
      refine ⟨by rw [List.length_map], Sat.congr h2 (fun a ha => (hA a).1 ha) (fun e he => (hE e).2 he) fun a ha => ⟨env_map (varsL_mem.2 ⟨a, ha, .inl rfl⟩), env_map (varsL_mem.2 ⟨a, ha, .inr rfl⟩)⟩⟩
theorem turned_all (hA : ∀ a, a ∈ ats w ↔ a ∈ ats v) (hE : ∀ e, e ∈ l' ↔ e ∈ l) (hO : outs w = outs v) (hov : ∀ o ∈ outs v, o ∈ varsL (ats v)) : (allOf w l').Perm (allOf v l) := by
  have h1 : (setR (rowsV w l')).Perm ((setR (rowsV v l)).map fun r => (varsL (ats w)).map (env (varsL (ats v)) r)) :=
    (setR_perm (rowsV_spec w l').1).trans ((turned_rows hA hE).trans ((setR_perm (rowsV_spec v l).1).symm.map _))
  have h2 := h1.map (proj (varsL (ats w)) (outs w))
  rw [List.map_map] at h2
  refine h2.trans (List.Perm.of_eq (List.map_congr_left fun r _ => ?_))
  show (outs w).map (fun o => env (varsL (ats w)) ((varsL (ats w)).map (env (varsL (ats v)) r)) o) = (outs v).map fun o => env (varsL (ats v)) r o
  rw [hO]
  exact List.map_congr_left fun o ho => env_map ((vars_same hA o).2 (hov o ho))
theorem perm_res {a b : List Tp} (h : a.Perm b) : setR a = setR b ∧ countsOf a = countsOf b := by
  have e : setR a = setR b := rises_unique (setR_spec a).1 (setR_spec b).1 fun x => by rw [(setR_spec a).2, (setR_spec b).2]; exact h.mem_iff
  refine ⟨e, ?_⟩
  unfold countsOf
  rw [e]
  exact List.map_congr_left fun t _ => by rw [h.count_eq]
theorem okV_turn (h1 : w.1 = v.1) (h2 : w.2.1 = v.2.1) (hO : outs w = outs v) (h5 : w.2.2.2.2 = v.2.2.2.2) (hA : ∀ a, a ∈ ats w ↔ a ∈ ats v) (hl : (1 ≤ (ats w).length ∧ (ats w).length ≤ 8) ↔ (1 ≤ (ats v).length ∧ (ats v).length ≤ 8)) : okV w = okV v := by
  have e1 : (ats w).all (fun a => nameB a.1 && nameB a.2.1 && nameB a.2.2) = (ats v).all (fun a => nameB a.1 && nameB a.2.1 && nameB a.2.2) := by
    rw [Bool.eq_iff_iff, List.all_eq_true, List.all_eq_true]
    exact ⟨fun h a ha => h a ((hA a).2 ha), fun h a ha => h a ((hA a).1 ha)⟩
  have e2 : outB (varsL (ats w)) (outs w) = outB (varsL (ats v)) (outs v) := by
    unfold outB
    rw [hO]
    congr 1
    rw [Bool.eq_iff_iff, List.all_eq_true, List.all_eq_true]
    simp only [List.contains_iff_mem]
    exact ⟨fun h o ho => (vars_same hA o).1 (h o ho), fun h o ho => (vars_same hA o).2 (h o ho)⟩
  unfold okV patB
  rw [show varsL w.2.2.2.1 = varsL (ats w) from rfl, show w.2.2.1 = outs w from rfl, e2, h1, h2, h5, show w.2.2.2.1 = ats w from rfl, e1, hO]
  have e3 : (decide (1 ≤ (ats w).length) && decide ((ats w).length ≤ 8)) = (decide (1 ≤ (ats v).length) && decide ((ats v).length ≤ 8)) := by
    rw [Bool.eq_iff_iff]; simpa using hl
  simp only [Bool.and_assoc] at e3 ⊢
  rw [← Bool.and_assoc (decide (1 ≤ (ats w).length)), e3]
  simp only [Bool.and_assoc]
/-- JoinTurned: both results are the same, or one is too great. -/
theorem turned_law {a b : List Tp × List Int × Int} (ha : ResSay v l a) (hb : ResSay w l' b) (h1 : w.1 = v.1) (h2 : w.2.1 = v.2.1) (hO : outs w = outs v) (h5 : w.2.2.2.2 = v.2.2.2.2) (hA : ∀ a, a ∈ ats w ↔ a ∈ ats v) (hl : (1 ≤ (ats w).length ∧ (ats w).length ≤ 8) ↔ (1 ≤ (ats v).length ∧ (ats v).length ≤ 8)) (hE : ∀ e, e ∈ l' ↔ e ∈ l)
    (hf : a.2.2 ≠ 5) (hg : b.2.2 ≠ 5) : a = b := by
  have hok := okV_turn h1 h2 hO h5 hA hl
  rcases ha with ⟨x1, rfl⟩ | ⟨x1, x2, rfl⟩ | ⟨x1, x2, rfl⟩
  · rcases hb with ⟨y1, rfl⟩ | ⟨y1, y2, rfl⟩ | ⟨y1, y2, rfl⟩
    · rfl
    · exact absurd rfl hg
    · rw [hok, x1] at y1; cases y1
  · exact absurd rfl hf
  · rcases hb with ⟨y1, rfl⟩ | ⟨y1, y2, rfl⟩ | ⟨y1, y2, rfl⟩
    · rw [hok, x1] at y1; cases y1
    · exact absurd rfl hg
    · have hov : ∀ o ∈ outs v, o ∈ varsL (ats v) := by
        unfold okV outB at x1
        simp only [Bool.and_eq_true, List.all_eq_true] at x1
        exact fun o ho => by simpa using x1.2.1 o ho
      obtain ⟨e1, e2⟩ := perm_res (turned_all hA hE hO hov)
      rw [e1, e2]
end
theorem sub_len {α : Type} [DecidableEq α] {l m : List α} (h1 : l.Nodup) (h : ∀ x ∈ l, x ∈ m) (h2 : m.Nodup) : l.length ≤ m.length := by
  have hp : l.Perm (m.filter fun x => decide (x ∈ l)) := perm_mem h1 (h2.sublist List.filter_sublist) fun x => by
    rw [List.mem_filter]; simp only [decide_eq_true_eq]; exact ⟨fun hx => ⟨h x hx, hx⟩, fun hx => hx.2⟩
  rw [hp.length_eq]; exact List.length_filter_le _ _
/-! ### More edges -/
section
variable {v : Vw} {l : List Ed} {m : Ed}
theorem rowsK_more {al : List Atm} {V : List Lab} (hV : varsL al <+: V) : (∀ r ∈ rowsK (byLab l) V al, r ∈ rowsK (byLab (l ++ [m])) V al) ∧ (rowsK (byLab l) V al).length ≤ (rowsK (byLab (l ++ [m])) V al).length := by
  obtain ⟨n1, s1⟩ := rows_spec l al hV
  obtain ⟨n2, s2⟩ := rows_spec (l ++ [m]) al hV
  have hs : ∀ r ∈ rowsK (byLab l) V al, r ∈ rowsK (byLab (l ++ [m])) V al := fun r hr => by
    obtain ⟨h1, h2⟩ := (s1 r).1 hr
    exact (s2 r).2 ⟨h1, fun a ha => List.mem_append_left _ (h2 a ha)⟩
  exact ⟨hs, sub_len n1 hs n2⟩
theorem more_many (h : tooMany l (ats v)) : tooMany (l ++ [m]) (ats v) := by
  obtain ⟨k, hk, h1⟩ := h
  exact ⟨k, hk, Nat.lt_of_lt_of_le h1 (rowsK_more (varsL_take _ _)).2⟩
theorem more_code {a b : List Tp × Int} (ha : RowsSay v l a) (hb : RowsSay v (l ++ [m]) b) (h : a.2 ≠ 0 ∨ b.2 ≠ 0) : a.2 = b.2 ∨ b.2 = 5 := by
  rcases ha with ⟨x1, rfl⟩ | ⟨x1, x2, rfl⟩ | ⟨x1, x2, rfl⟩ <;> rcases hb with ⟨y1, rfl⟩ | ⟨y1, y2, rfl⟩ | ⟨y1, y2, rfl⟩
  · exact .inl rfl
  · exact .inr rfl
  · rw [x1] at y1; cases y1
  · rw [x1] at y1; cases y1
  · exact .inr rfl
  · exact absurd (more_many x2) y2
  · rw [x1] at y1; cases y1
  · exact .inr rfl
  · simp at h
theorem more_sub {a b : List Tp × Int} (ha : RowsSay v l a) (hb : RowsSay v (l ++ [m]) b) (h1 : a.2 = 0) (h2 : b.2 = 0) : ∀ r ∈ a.1, r ∈ b.1 := by
  obtain ⟨_, _, e1⟩ := rows_ok ha h1
  obtain ⟨_, _, e2⟩ := rows_ok hb h2
  rw [e1, e2]
  intro r hr
  exact ((setR_spec _).2 r).2 ((rowsK_more (List.prefix_refl _)).1 r (((setR_spec _).2 r).1 hr))
theorem more_new {a b : List Tp × Int} (ha : RowsSay v l a) (hb : RowsSay v (l ++ [m]) b) (h1 : a.2 = 0) (h2 : b.2 = 0) {r : Tp} (hr : r ∈ b.1) (hn : r ∉ a.1) : r.length = (varsL (ats v)).length ∧ ∃ x ∈ ats v, m = (env (varsL (ats v)) r x.1, x.2.1, env (varsL (ats v)) r x.2.2) := by
  obtain ⟨_, _, e1⟩ := rows_ok ha h1
  obtain ⟨_, _, e2⟩ := rows_ok hb h2
  rw [e2] at hr
  rw [e1] at hn
  obtain ⟨h3, h4⟩ := ((rowsV_spec v (l ++ [m])).2 r).1 (((setR_spec _).2 r).1 hr)
  refine ⟨h3, Classical.byContradiction fun hno => hn (((setR_spec _).2 r).2 (((rowsV_spec v l).2 r).2 ⟨h3, fun x hx => ?_⟩))⟩
  rcases List.mem_append.1 (h4 x hx) with h5 | h5
  · exact h5
  · exact absurd ⟨x, hx, (by simpa using h5 : _ = m).symm⟩ hno
end
end Go.Jn
/- A pattern beside itself with other names; a great pattern. Plain Lean. -/
namespace Go.Jn
open Go Go.Gw Go.Tu
set_option linter.unusedVariables false
set_option linter.unusedSimpArgs false
def turnB (b : UInt8) : UInt8 := UInt8.ofNat (97 + (b.toNat - 97 + 13) % 26)
def turnL : Lab → Lab
  | [] => []
  | b :: t => turnB b :: t
def tA (a : Atm) : Atm := (turnL a.1, a.2.1, turnL a.2.2)
theorem turnB_nat (b : UInt8) : (turnB b).toNat = 97 + (b.toNat - 97 + 13) % 26 := by
  unfold turnB
  have : (b.toNat - 97 + 13) % 26 < 26 := Nat.mod_lt _ (by decide)
  simp; omega
theorem low_iff {b : UInt8} : isLow b = true ↔ 97 ≤ b.toNat ∧ b.toNat ≤ 122 := by unfold isLow; simp
theorem turnB_low (b : UInt8) : isLow (turnB b) = true := by
  rw [low_iff, turnB_nat]
  have : (b.toNat - 97 + 13) % 26 < 26 := Nat.mod_lt _ (by decide)
  omega
theorem turnB_inj {b c : UInt8} (hb : isLow b = true) (hc : isLow c = true) (h : turnB b = turnB c) : b = c := by
  have e := congrArg UInt8.toNat h
  rw [turnB_nat, turnB_nat] at e
  rw [low_iff] at hb hc
  exact UInt8.toNat_inj.1 (by omega)
theorem name_iff {s : Lab} : nameB s = true ↔ 0 < s.length ∧ s.length ≤ 16 ∧ ∀ b ∈ s, isLow b = true := by unfold nameB; simp [and_assoc]
theorem turnL_name {s : Lab} (h : nameB s = true) : nameB (turnL s) = true := by
  rw [name_iff] at h ⊢
  cases s with
  | nil => exact h
  | cons b t =>
    refine ⟨h.1, h.2.1, fun c hc => ?_⟩
    rcases List.mem_cons.1 hc with rfl | hc
    · exact turnB_low b
    · exact h.2.2 c (List.mem_cons_of_mem _ hc)
theorem turnL_inj {s t : Lab} (hs : nameB s = true) (ht : nameB t = true) (h : turnL s = turnL t) : s = t := by
  rw [name_iff] at hs ht
  cases s with
  | nil => simp at hs
  | cons b s =>
    cases t with
    | nil => simp at ht
    | cons c t =>
      simp only [turnL, List.cons.injEq] at h
      rw [turnB_inj (hs.2.2 b List.mem_cons_self) (ht.2.2 c List.mem_cons_self) h.1, h.2]
theorem addV_app {V out : List Lab} {x : Lab} (h : x ∉ V) : addV (V ++ out) x = V ++ addV out x := by
  unfold addV
  by_cases hx : x ∈ out
  · rw [if_pos (by simp [hx]), if_pos (by simpa using hx)]
  · rw [if_neg (by simp [h, hx]), if_neg (by simpa using hx), List.append_assoc]
theorem vars_app {V : List Lab} : ∀ (B : List Atm) (out : List Lab), (∀ b ∈ B, b.1 ∉ V ∧ b.2.2 ∉ V) → B.foldl addA (V ++ out) = V ++ B.foldl addA out
  | [], out, _ => rfl
  | b :: B, out, h => by
    have h1 := h b List.mem_cons_self
    rw [List.foldl_cons, List.foldl_cons, addA, addV_app h1.1, addV_app h1.2, vars_app B _ fun c hc => h c (List.mem_cons_of_mem _ hc)]
    rfl
theorem vars_two {A B : List Atm} (h : ∀ b ∈ B, b.1 ∉ varsL A ∧ b.2.2 ∉ varsL A) : varsL (A ++ B) = varsL A ++ varsL B := by
  have := vars_app B [] h
  rw [List.append_nil] at this
  unfold varsL at this ⊢
  rw [List.foldl_append]; exact this
theorem addV_map {out : List Lab} {x : Lab} (hi : ∀ y ∈ out, turnL y = turnL x → y = x) : addV (out.map turnL) (turnL x) = (addV out x).map turnL := by
  unfold addV
  by_cases hx : x ∈ out
  · rw [if_pos (by simpa using ⟨x, hx, rfl⟩), if_pos (by simpa using hx)]
  · rw [if_neg, if_neg (by simpa using hx), List.map_append]; rfl
    simp only [List.contains_iff_mem, List.mem_map, not_exists, not_and]
    exact fun y hy e => hx (hi y hy e ▸ hy)
theorem vars_map : ∀ (B : List Atm) (out : List Lab), (∀ y ∈ out, nameB y = true) → (∀ b ∈ B, nameB b.1 = true ∧ nameB b.2.2 = true) → (B.map tA).foldl addA (out.map turnL) = (B.foldl addA out).map turnL
  | [], out, _, _ => rfl
  | b :: B, out, ho, hB => by
    obtain ⟨n1, n2⟩ := hB b List.mem_cons_self
    rw [List.map_cons, List.foldl_cons, List.foldl_cons]
    have h1 : ∀ y ∈ addV out b.1, nameB y = true := fun y hy => by rcases addV_mem.1 hy with h | h; exact ho y h; rw [h]; exact n1
    have h2 : ∀ y ∈ addA out b, nameB y = true := fun y hy => by rcases addV_mem.1 hy with h | h; exact h1 y h; rw [h]; exact n2
    rw [show addA (out.map turnL) (tA b) = (addA out b).map turnL from by
      unfold addA tA
      rw [addV_map fun y hy e => turnL_inj (ho y hy) n1 e, addV_map fun y hy e => turnL_inj (h1 y hy) n2 e]]
    exact vars_map B _ h2 fun c hc => hB c (List.mem_cons_of_mem _ hc)
theorem vars_turn {A : List Atm} (hA : ∀ b ∈ A, nameB b.1 = true ∧ nameB b.2.2 = true) : varsL (A.map tA) = (varsL A).map turnL := vars_map A [] (fun y hy => by cases hy) hA
theorem idx_map {V : List Lab} {x : Lab} (hx : x ∈ V) (hi : ∀ y ∈ V, turnL y = turnL x → y = x) : (V.map turnL).idxOf (turnL x) = V.idxOf x := by
  induction V with
  | nil => cases hx
  | cons y V ih =>
    rw [List.map_cons, List.idxOf_cons, List.idxOf_cons]
    by_cases e : y = x
    · subst e; simp
    · have e2 : ¬ turnL y = turnL x := fun h => e (hi y List.mem_cons_self h)
      simp only [beq_iff_eq, e, e2, if_false, cond_false, beq_eq_false_iff_ne.2 e, beq_eq_false_iff_ne.2 e2]
      rcases List.mem_cons.1 hx with h | h
      · exact absurd h.symm e
      · rw [ih h fun z hz => hi z (List.mem_cons_of_mem _ hz)]
section
variable {v w : Vw} {l : List Ed}
structure Prod2 (v w : Vw) : Prop where
  nm : w.1 = v.1
  kd : w.2.1 = v.2.1
  out : outs w = outs v
  lb : w.2.2.2.2 = v.2.2.2.2
  at_ : ats w = ats v ++ (ats v).map tA
  few : (ats v).length ≤ 3
  ok : okV v = true
  no : ∀ x ∈ (ats v).map tA, ∀ y ∈ ats v, x.1 ≠ y.1 ∧ x.1 ≠ y.2.2 ∧ x.2.2 ≠ y.1 ∧ x.2.2 ≠ y.2.2
theorem names_of (h : okV v = true) : ∀ b ∈ ats v, nameB b.1 = true ∧ nameB b.2.1 = true ∧ nameB b.2.2 = true := by
  unfold okV patB at h
  simp only [Bool.and_eq_true, List.all_eq_true] at h
  intro b hb
  have := h.1.2.2 b hb
  exact ⟨this.1.1, this.1.2, this.2⟩
theorem Prod2.vars (h : Prod2 v w) : varsL (ats w) = varsL (ats v) ++ (varsL (ats v)).map turnL := by
  have hn := names_of h.ok
  rw [h.at_, vars_two, vars_turn fun b hb => ⟨(hn b hb).1, (hn b hb).2.2⟩]
  intro b hb
  refine ⟨fun hm => ?_, fun hm => ?_⟩
  · obtain ⟨a, ha, e⟩ := varsL_mem.1 hm
    have := h.no b hb a ha
    rcases e with e | e
    · exact this.1 e
    · exact this.2.1 e
  · obtain ⟨a, ha, e⟩ := varsL_mem.1 hm
    have := h.no b hb a ha
    rcases e with e | e
    · exact this.2.2.1 e
    · exact this.2.2.2 e
theorem var_name (h : okV v = true) {x : Lab} (hx : x ∈ varsL (ats v)) : nameB x = true := by
  obtain ⟨a, ha, e⟩ := varsL_mem.1 hx
  have := names_of h a ha
  rcases e with rfl | rfl
  · exact this.1
  · exact this.2.2
theorem Prod2.apart (h : Prod2 v w) {x : Lab} (hx : x ∈ varsL (ats v)) : turnL x ∉ varsL (ats v) := by
  intro hm
  have hd := varsL_nodup (ats w)
  rw [h.vars] at hd
  exact (List.nodup_append.1 hd).2.2 _ hm _ (List.mem_map_of_mem hx) rfl
theorem Prod2.okw (h : Prod2 v w) : okV w = true := by
  have hok := h.ok
  have hn := names_of h.ok
  have hv := h.vars
  have hl1 := (okV_pat (v := v) (by rw [hok]; rfl)).2.2.1
  have hf := h.few
  have hlen : (ats w).length = (ats v).length + (ats v).length := by rw [h.at_, List.length_append, List.length_map]
  have hw1 : 1 ≤ (ats w).length := by rw [hlen]; exact Nat.le_trans hl1 (Nat.le_add_right _ _)
  have hw8 : (ats w).length ≤ 8 := by omega
  unfold okV patB outB at hok ⊢
  rw [show w.2.2.1 = outs w from rfl, show w.2.2.2.1 = ats w from rfl, h.nm, h.kd, h.out, h.lb, hv]
  simp only [Bool.and_eq_true, decide_eq_true_eq, List.all_eq_true] at hok ⊢
  obtain ⟨⟨k1, ⟨⟨⟨⟨⟨⟨k2, k3⟩, k4⟩, k5⟩, k6⟩, k7⟩, k8⟩⟩, k9, k10⟩ := hok
  refine ⟨⟨k1, ⟨⟨⟨⟨⟨⟨k2, k3⟩, k4⟩, k5⟩, hw1⟩, hw8⟩, fun a ha => ?_⟩⟩, fun o ho => ?_, k10⟩
  · rw [h.at_] at ha
    rcases List.mem_append.1 ha with ha | ha
    · exact k8 a ha
    · obtain ⟨b, hb, rfl⟩ := List.mem_map.1 ha
      have := hn b hb
      exact ⟨⟨turnL_name this.1, this.2.1⟩, turnL_name this.2.2⟩
  · have := k9 o ho
    simp only [List.contains_iff_mem, List.mem_append] at this ⊢
    exact .inl this
theorem env_left {V W : List Lab} {r s : Tp} {x : Lab} (hl : r.length = V.length) (hx : x ∈ V) : env (V ++ W) (r ++ s) x = env V r x := by
  unfold env ix
  have h1 := List.idxOf_lt_length_of_mem hx
  rw [List.idxOf_append, if_pos hx, List.getD_eq_getElem?_getD, List.getD_eq_getElem?_getD, List.getElem?_append_left (by omega)]
theorem env_right {V W : List Lab} {r s : Tp} {x : Lab} (hl : r.length = V.length) (hx : x ∉ V) : env (V ++ W) (r ++ s) x = env W s x := by
  unfold env ix
  rw [List.idxOf_append, if_neg hx, List.getD_eq_getElem?_getD, List.getD_eq_getElem?_getD, List.getElem?_append_right (by omega)]
  congr 2; omega
theorem env_turn {V : List Lab} {s : Tp} {x : Lab} (hx : x ∈ V) (hn : ∀ y ∈ V, nameB y = true) : env (V.map turnL) s (turnL x) = env V s x := by
  unfold env ix
  rw [idx_map hx fun y hy e => turnL_inj (hn y hy) (hn x hx) e]
theorem Prod2.rows (h : Prod2 v w) : (rowsV w l).Perm ((rowsV v l).flatMap fun r => (rowsV v l).map fun s => r ++ s) := by
  obtain ⟨n1, s1⟩ := rowsV_spec v l
  obtain ⟨n2, s2⟩ := rowsV_spec w l
  have hv := h.vars
  have hnm : ∀ y ∈ varsL (ats v), nameB y = true := fun y hy => var_name h.ok hy
  refine perm_mem n2 (nodup_flat (fun r hr => map_nodup n1 fun a ha b hb e => by simpa using e) ?_) fun t => ?_
  · refine n1.imp_of_mem ?_
    intro a b ha hb hne x hx hx2
    obtain ⟨s, hs, rfl⟩ := List.mem_map.1 hx
    obtain ⟨s', hs', e⟩ := List.mem_map.1 hx2
    have l1 := ((s1 a).1 ha).1
    have l2 := ((s1 b).1 hb).1
    exact hne (List.append_inj_left e (by omega)).symm
  · rw [s2, List.mem_flatMap]
    constructor
    · rintro ⟨h1, h2⟩
      rw [hv, List.length_append, List.length_map] at h1
      have hl1 : (t.take (varsL (ats v)).length).length = (varsL (ats v)).length := by rw [List.length_take]; omega
      have hl2 : (t.drop (varsL (ats v)).length).length = (varsL (ats v)).length := by rw [List.length_drop]; omega
      have ht := List.take_append_drop (varsL (ats v)).length t
      refine ⟨t.take (varsL (ats v)).length, (s1 _).2 ⟨hl1, fun a ha => ?_⟩, List.mem_map.2 ⟨t.drop (varsL (ats v)).length, (s1 _).2 ⟨hl2, fun a ha => ?_⟩, ht⟩⟩
      · have h3 := h2 a (by rw [h.at_]; exact List.mem_append_left _ ha)
        rw [hv, ← ht, env_left hl1 (varsL_mem.2 ⟨a, ha, .inl rfl⟩), env_left hl1 (varsL_mem.2 ⟨a, ha, .inr rfl⟩)] at h3
        exact h3
      · have h3 := h2 (tA a) (by rw [h.at_]; exact List.mem_append_right _ (List.mem_map_of_mem ha))
        have m1 : a.1 ∈ varsL (ats v) := varsL_mem.2 ⟨a, ha, .inl rfl⟩
        have m2 : a.2.2 ∈ varsL (ats v) := varsL_mem.2 ⟨a, ha, .inr rfl⟩
        unfold tA at h3
        rw [hv, ← ht, env_right hl1 (h.apart m1), env_right hl1 (h.apart m2), env_turn m1 hnm, env_turn m2 hnm] at h3
        exact h3
    · rintro ⟨r, hr, ht⟩
      obtain ⟨s, hs, rfl⟩ := List.mem_map.1 ht
      obtain ⟨l1, q1⟩ := (s1 r).1 hr
      obtain ⟨l2, q2⟩ := (s1 s).1 hs
      rw [hv]
      refine ⟨by simp [l1, l2], fun a ha => ?_⟩
      rw [h.at_] at ha
      rcases List.mem_append.1 ha with ha | ha
      · rw [env_left l1 (varsL_mem.2 ⟨a, ha, .inl rfl⟩), env_left l1 (varsL_mem.2 ⟨a, ha, .inr rfl⟩)]
        exact q1 a ha
      · obtain ⟨b, hb, rfl⟩ := List.mem_map.1 ha
        have m1 : b.1 ∈ varsL (ats v) := varsL_mem.2 ⟨b, hb, .inl rfl⟩
        have m2 : b.2.2 ∈ varsL (ats v) := varsL_mem.2 ⟨b, hb, .inr rfl⟩
        unfold tA
        rw [env_right l1 (h.apart m1), env_right l1 (h.apart m2), env_turn m1 hnm, env_turn m2 hnm]
        exact q2 b hb
theorem flat_len {α β : Type} (f : α → List β) (n : Nat) : ∀ (l : List α), (∀ x ∈ l, (f x).length = n) → (l.flatMap f).length = l.length * n
  | [], _ => by simp
  | a :: l, h => by
    rw [List.flatMap_cons, List.length_append, h a List.mem_cons_self, flat_len f n l fun x hx => h x (List.mem_cons_of_mem _ hx), List.length_cons, Nat.succ_mul, Nat.add_comm]
theorem product_law (h : Prod2 v w) {a b : List Tp × Int} (ha : RowsSay v l a) (h0 : a.2 = 0) (hb : RowsSay w l b) : b.2 = 5 ∨ (b.2 = 0 ∧ b.1.length = a.1.length * a.1.length) := by
  obtain ⟨_, _, e1⟩ := rows_ok ha h0
  rcases hb with ⟨y1, rfl⟩ | ⟨y1, y2, rfl⟩ | ⟨y1, y2, rfl⟩
  · rw [h.okw] at y1; cases y1
  · exact .inl rfl
  · refine .inr ⟨rfl, ?_⟩
    show (setR (rowsV w l)).length = _
    rw [e1, (setR_perm (rowsV_spec w l).1).length_eq, show rowsK (byLab l) (varsL v.2.2.2.1) v.2.2.2.1 = rowsV v l from rfl, (setR_perm (rowsV_spec v l).1).length_eq, (h.rows (l := l)).length_eq]
    exact flat_len _ _ _ fun r _ => by rw [List.length_map]
end
end Go.Jn
/- A great pattern: n edges and m edges of one node; the document's example. Plain Lean. -/
namespace Go.Jn
open Go Go.Gw Go.Tu
set_option linter.unusedVariables false
set_option linter.unusedSimpArgs false
def edA (n : Nat) (lab : Lab) : List Ed := (List.range n).map fun i : Nat => (1, lab, (i : Int) + 2)
def edG (n m : Nat) : List Ed := edA n [97] ++ edA m [98]
abbrev vG : Vw := ([118], 1, [[120]], [([120], [97], [121]), ([120], [98], [122])], [])
theorem edA_snoc (k : Nat) (lab : Lab) : edA (k + 1) lab = edA k lab ++ [(1, lab, (k : Int) + 2)] := by unfold edA; rw [List.range_succ, List.map_append]; rfl
theorem edA_len (k : Nat) (lab : Lab) : (edA k lab).length = k := by unfold edA; simp
theorem mem_edA {n : Nat} {lab lab2 : Lab} {x y : Int} : (x, lab2, y) ∈ edA n lab ↔ x = 1 ∧ lab2 = lab ∧ ∃ i, i < n ∧ y = (i : Int) + 2 := by
  unfold edA
  simp only [List.mem_map, List.mem_range, Prod.mk.injEq]
  constructor
  · rintro ⟨i, hi, rfl, rfl, rfl⟩; exact ⟨rfl, rfl, i, hi, rfl⟩
  · rintro ⟨rfl, rfl, i, hi, rfl⟩; exact ⟨i, hi, rfl, rfl, rfl⟩
theorem mem_a {n m : Nat} {x y : Int} : (x, [97], y) ∈ edG n m ↔ x = 1 ∧ ∃ i, i < n ∧ y = (i : Int) + 2 := by
  unfold edG
  rw [List.mem_append, mem_edA, mem_edA]
  simp
theorem mem_b {n m : Nat} {x y : Int} : (x, [98], y) ∈ edG n m ↔ x = 1 ∧ ∃ i, i < m ∧ y = (i : Int) + 2 := by
  unfold edG
  rw [List.mem_append, mem_edA, mem_edA]
  simp
theorem vG_vars : varsL (ats vG) = [[120], [121], [122]] := by decide
theorem vG_vars1 : varsL ((ats vG).take 1) = [[120], [121]] := by decide
theorem vG_ok : okV vG = true := by decide
def rows1 (n : Nat) : List Tp := (List.range n).map fun i : Nat => [1, (i : Int) + 2]
def rows2 (n m : Nat) : List Tp := (List.range n).flatMap fun i : Nat => (List.range m).map fun j : Nat => [1, (i : Int) + 2, (j : Int) + 2]
theorem r1_perm (n m : Nat) : (rowsK (byLab (edG n m)) (varsL (ats vG)) ((ats vG).take 1)).Perm (rows1 n) := by
  obtain ⟨n1, s1⟩ := rows_spec (edG n m) ((ats vG).take 1) (varsL_take (ats vG) 1)
  refine perm_mem n1 (map_nodup List.nodup_range fun a _ b _ e => ?_) fun r => ?_
  · simp at e; omega
  · rw [s1, vG_vars1, vG_vars]
    unfold rows1
    rw [List.mem_map]
    constructor
    · rintro ⟨h1, h2⟩
      match r, h1 with
      | [a, b], _ =>
        have h3 := h2 ([120], [97], [121]) (List.mem_singleton.2 rfl)
        have h4 : (a, [97], b) ∈ edG n m := h3
        obtain ⟨rfl, i, hi, rfl⟩ := mem_a.1 h4
        exact ⟨i, by simpa using hi, rfl⟩
    · rintro ⟨i, hi, rfl⟩
      refine ⟨rfl, fun a ha => ?_⟩
      have : a = ([120], [97], [121]) := List.mem_singleton.1 ha
      subst this
      show ((1 : Int), [97], (i : Int) + 2) ∈ edG n m
      exact mem_a.2 ⟨rfl, i, by simpa using hi, rfl⟩
theorem r2_perm (n m : Nat) : (rowsV vG (edG n m)).Perm (rows2 n m) := by
  obtain ⟨n1, s1⟩ := rowsV_spec vG (edG n m)
  refine perm_mem n1 (nodup_flat (fun i _ => map_nodup List.nodup_range fun a _ b _ e => ?_) (List.nodup_range.imp ?_)) fun r => ?_
  · simp at e; omega
  · intro a b hne x hx hx2
    obtain ⟨i, _, rfl⟩ := List.mem_map.1 hx
    obtain ⟨j, _, e⟩ := List.mem_map.1 hx2
    simp at e
    exact hne (by omega)
  · rw [s1, vG_vars]
    unfold rows2
    rw [List.mem_flatMap]
    constructor
    · rintro ⟨h1, h2⟩
      match r, h1 with
      | [a, b, c], _ =>
        have h4 : (a, [97], b) ∈ edG n m := h2 ([120], [97], [121]) List.mem_cons_self
        have h5 : (a, [98], c) ∈ edG n m := h2 ([120], [98], [122]) (List.mem_cons_of_mem _ (List.mem_singleton.2 rfl))
        obtain ⟨rfl, i, hi, rfl⟩ := mem_a.1 h4
        obtain ⟨_, j, hj, rfl⟩ := mem_b.1 h5
        exact ⟨i, by simpa using hi, List.mem_map.2 ⟨j, by simpa using hj, rfl⟩⟩
    · rintro ⟨i, hi, hr⟩
      obtain ⟨j, hj, rfl⟩ := List.mem_map.1 hr
      refine ⟨rfl, fun a ha => ?_⟩
      have : a = ([120], [97], [121]) ∨ a = ([120], [98], [122]) := (List.mem_cons.1 ha).imp id fun h => List.mem_singleton.1 h
      rcases this with rfl | rfl
      · show ((1 : Int), [97], (i : Int) + 2) ∈ edG n m
        exact mem_a.2 ⟨rfl, i, by simpa using hi, rfl⟩
      · show ((1 : Int), [98], (j : Int) + 2) ∈ edG n m
        exact mem_b.2 ⟨rfl, j, by simpa using hj, rfl⟩
theorem r2_len (n m : Nat) : (rows2 n m).length = n * m := by
  unfold rows2
  rw [flat_len _ m _ fun i _ => by simp, List.length_range]
theorem great_many {n m : Nat} (hn : n ≤ 60) : tooMany (edG n m) (ats vG) ↔ 3000 < n * m := by
  have h2 := (r2_perm n m).length_eq
  rw [r2_len] at h2
  have h1 := (r1_perm n m).length_eq
  rw [show (rows1 n).length = n from by unfold rows1; simp] at h1
  constructor
  · rintro ⟨k, hk, h⟩
    have hk2 : k ≤ 2 := hk
    match k, hk2 with
    | 0, _ => exact absurd h (by show ¬ 3000 < 1; omega)
    | 1, _ => rw [h1] at h; omega
    | 2, _ => exact h2 ▸ h
  · intro h
    exact ⟨2, Nat.le_refl _, by show 3000 < (rowsV vG (edG n m)).length; omega⟩
theorem great_all {n m : Nat} : (allOf vG (edG n m)) = List.replicate (n * m) [1] := by
  rw [List.eq_replicate_iff]
  have hp : (setR (rowsV vG (edG n m))).Perm (rows2 n m) := (setR_perm (rowsV_spec _ _).1).trans (r2_perm n m)
  constructor
  · unfold allOf
    rw [List.length_map, show setR (rowsK (byLab (edG n m)) (varsL vG.2.2.2.1) vG.2.2.2.1) = setR (rowsV vG (edG n m)) from rfl, hp.length_eq, r2_len]
  · intro t ht
    obtain ⟨r, hr, rfl⟩ := List.mem_map.1 ht
    have := (hp.mem_iff).1 hr
    unfold rows2 at this
    obtain ⟨i, _, h2⟩ := List.mem_flatMap.1 this
    obtain ⟨j, _, rfl⟩ := List.mem_map.1 h2
    rw [show varsL vG.2.2.2.1 = [[120], [121], [122]] from vG_vars]; rfl
theorem great_res {N : Nat} (h : 0 < N) : setR (List.replicate N ([1] : Tp)) = [[1]] ∧ countsOf (List.replicate N ([1] : Tp)) = [(N : Int)] := by
  have e : setR (List.replicate N ([1] : Tp)) = [[1]] := by
    refine (setR_unique (List.pairwise_singleton _ _) fun x => ?_).symm
    rw [List.mem_singleton, List.mem_replicate]
    exact ⟨fun hx => ⟨by omega, hx⟩, fun hx => hx.2⟩
  refine ⟨e, ?_⟩
  unfold countsOf
  rw [e]
  simp
theorem great_law {n m : Nat} (hn0 : 0 < n) (hm0 : 0 < m) (hn : n ≤ 60) {r : List Tp × List Int × Int} (h : ResSay vG (edG n m) r) : (3000 < n * m ∧ r = ([], [], 5)) ∨ (¬ 3000 < n * m ∧ r = ([[1]], [((n * m : Nat) : Int)], 0)) := by
  rcases h with ⟨y1, _⟩ | ⟨_, y2, rfl⟩ | ⟨_, y2, rfl⟩
  · rw [vG_ok] at y1; cases y1
  · exact .inl ⟨(great_many hn).1 y2, rfl⟩
  · refine .inr ⟨fun e => y2 ((great_many hn).2 e), ?_⟩
    rw [great_all]
    obtain ⟨e1, e2⟩ := great_res (N := n * m) (Nat.mul_pos hn0 hm0)
    rw [e1, e2]
/-! ### The document's example -/
abbrev vW : Vw := ([103], 1, [[120]], [([120], [97], [121])], [])
abbrev eW : List Ed := [(1, [97], 2), (2, [97], 3), (1, [97], 3)]
theorem awake_law {r : List Tp × List Int × Int} (h : ResSay vW eW r) : r = ([[1], [2]], [2, 1], 0) := by
  have hok : okV vW = true := by decide
  have hR : rowsK (byLab eW) (varsL (ats vW)) (ats vW) = [[1, 2], [2, 3], [1, 3]] := by decide +kernel
  have hn : ¬ tooMany eW (ats vW) := by
    rintro ⟨k, hk, h1⟩
    have hk2 : k ≤ 1 := hk
    match k, hk2 with
    | 0, _ => exact absurd h1 (by show ¬ 3000 < 1; omega)
    | 1, _ => rw [show (ats vW).take 1 = ats vW from rfl, hR] at h1; exact absurd h1 (by decide)
  rcases h with ⟨y1, _⟩ | ⟨_, y2, _⟩ | ⟨_, y2, rfl⟩
  · rw [hok] at y1; cases y1
  · exact absurd y2 hn
  · have ha : allOf vW eW = [[1], [1], [2]] := by
      unfold allOf
      rw [show rowsK (byLab eW) (varsL vW.2.2.2.1) vW.2.2.2.1 = [[1, 2], [2, 3], [1, 3]] from hR]
      decide +kernel
    rw [ha]
    have h1 : setR ([[1], [1], [2]] : List Tp) = [[1], [2]] := by decide +kernel
    rw [h1]
    unfold countsOf
    rw [h1]
    rfl
end Go.Jn
namespace Go.Jn
open Go Go.Gw Go.Tu
def fitsB (v : Vw) (l : List Ed) : Bool := decide ((l.length : Int) ≤ 25) && decide ((v.2.2.2.1.length : Int) ≤ 12) && decide ((v.2.2.1.length : Int) ≤ 12)
theorem fits_iff {v : Vw} {l : List Ed} : fitsB v l = true ↔ l.length ≤ 25 ∧ (ats v).length ≤ 12 ∧ (outs v).length ≤ 12 := by
  unfold fitsB ats outs
  simp only [Bool.and_eq_true, decide_eq_true_eq]
  omega
end Go.Jn
/- Walks through the Go functions slices.Clip[[]int,int], join.Result, as typed contracts. -/
namespace Go.Proofs.Ytakkjljhjfkkbaa
open Go Go.Gw Go.So Go.Tu Go.Jn
set_option linter.unusedVariables false
set_option linter.unusedSimpArgs false
theorem take_at2 {α : Type} [Inhabited α] {l : List α} {k : Nat} (h : k < l.length) : l.take (k + 1) = l.take k ++ [at' l (k : Int)] := by rw [at'_nat h, List.take_succ_eq_append_getElem h]

set_option maxRecDepth 20000 in
/-- slices.Clip[[]int,int] -/
theorem ClipI_fn (xs : List Int) : Ct Try.prog 23 [FreshT noK 0 kI xs] ([]) Unit (fun _ => SlT kI xs) (fun _ => []) (fun _ => True) := by
  refine fn_intro Try.func23 rfl rfl ?_
  intro H w
  refine tr_seq ?_
  -- region 0
  refine tr_env (es_cons (t := 0) (OT.tmp rfl) es_nil) ?_
  refine tr_region ?_
  refine op_pure (pu_assign OT.const) rfl rfl ?_
  refine tr_nil ?_
  refine then_normal ?_
  refine tr_seq ?_
  -- region 1
  refine tr_env (es_cons (t := 0) (OT.tmp rfl) es_nil) ?_
  refine tr_region ?_
  refine op_pure (pu_move (OT.tmp rfl)) rfl rfl ?_
  refine op_pure (pu_move (OT.tmp rfl)) rfl rfl ?_
  refine tr_as 4 (OT.fresh (OT.tmp rfl)) ?_
  refine op_pure (pu_len_sl (OT.tmp rfl) Try.underlying36) rfl rfl ?_
  refine op_pure (pu_move (OT.tmp rfl)) rfl rfl ?_
  refine tr_as 6 (OT.fresh (OT.tmp rfl)) ?_
  refine op_pure (pu_len_sl (OT.tmp rfl) Try.underlying36) rfl rfl ?_
  refine op_pure (pu_clip (OT.tmp rfl) (OT.tmp rfl) (OT.tmp rfl) Try.underlying36 (show tyOk Try.prog 3 false 1 = true from by decide +kernel)) rfl rfl ?_
  refine op_pure (pu_assign (OT.tmp rfl)) rfl rfl ?_
  refine tr_nil ?_
  refine then_normal ?_
  refine tr_ret ?_
  exact ret_one .ret (.inl rfl) rfl () (OT.fresh (OT.unclip (OT.tmp rfl))) trivial (by exact picks_nil)
set_option maxRecDepth 20000 in
/-- rhizome/join.Result -/
theorem Result_fn (v : Vw) (l : List Ed) (ho : v.2.2.1.length ≤ maxLen) (ha : v.2.2.2.1.length ≤ maxLen) (hm : l.length ≤ 1000000) : Ct Try.prog 10 [kV.T v, SlT kE l] ([]) (List Tp × List Int × Int) (fun r => TupT [SlT kT r.1, SlT kI r.2.1, I64 r.2.2]) (fun _ => []) (fun r => ResSay v l r) := by
  refine fn_intro Try.func10 rfl rfl ?_
  intro H w
  have ho0 := ho; have ha0 := ha; unfold maxLen at ho ha
  refine tr_seq ?_
  -- region 0
  refine tr_env (es_cons (t := 0) (OT.tmp rfl) (es_cons (t := 1) (OT.tmp rfl) es_nil)) ?_
  refine tr_region ?_
  refine op_acts (acts_box (d := kV) (OT.tmp rfl)) (List.Perm.refl _) rfl rfl (fun g0_0 _ => ?_)
  refine op_pure (pu_assign OT.const) rfl rfl ?_
  refine op_pure (pu_assign OT.const) rfl rfl ?_
  refine op_pure (pu_assign OT.const) rfl rfl ?_
  refine tr_nil ?_
  refine then_normal ?_
  refine tr_seq ?_
  -- region 1
  refine tr_env (es_cons (t := 1) (OT.tmp rfl) (es_cons (t := 2) (OT.tmp rfl) es_nil)) ?_
  refine tr_region ?_
  refine op_pure (pu_load_var (OT.tmp rfl) (by exact mem_at 0 rfl) (show tyOk Try.prog 25 true 5 = true from by decide +kernel)) rfl rfl ?_
  refine op_pure (pu_move (OT.tmp rfl)) rfl rfl ?_
  refine op_acts (acts_call (Rows_fn _ _ ho0 ha0 (by omega)) (show enters Try.prog 13 = true from by decide +kernel) (OTs.cons (OT.tmp rfl) (OTs.cons (OT.tmp rfl) OTs.nil)) (List.Perm.refl _)) (List.Perm.refl _) rfl rfl (fun r1_2 hr1_2 => ?_)
  refine op_pure (pu_move (OT.tmp rfl)) rfl rfl ?_
  refine op_pure (pu_extract (OT.tmp rfl) rfl) rfl rfl ?_
  refine op_pure (pu_extract (OT.tmp rfl) rfl) rfl rfl ?_
  refine op_pure (pu_assign (OT.tmp rfl)) rfl rfl ?_
  refine op_pure (pu_assign (OT.tmp rfl)) rfl rfl ?_
  refine tr_nil ?_
  refine then_normal ?_
  refine tr_seq ?_
  refine tr_seq ?_
  -- region 2
  refine tr_env (es_cons (t := 2) (OT.tmp rfl) (es_cons (t := 7) (OT.tmp rfl) (es_cons (t := 8) (OT.tmp rfl) es_nil))) ?_
  refine tr_region ?_
  refine op_pure (pu_move (OT.tmp rfl)) rfl rfl ?_
  refine op_pure (pu_neq (OT.tmp rfl) OT.const) rfl rfl ?_
  refine tr_nil ?_
  refine then_normal ?_
  refine tr_cond (OT.tmp rfl) (fun c28 => ?_) (fun c28 => ?_)
  · skip
    refine tr_seq ?_
    -- region 3
    refine tr_env (es_cons (t := 8) (OT.tmp rfl) es_nil) ?_
    refine tr_region ?_
    refine op_pure (pu_move (OT.tmp rfl)) rfl rfl ?_
    refine op_pure (pu_assign OT.const) rfl rfl ?_
    refine op_pure (pu_assign OT.const) rfl rfl ?_
    refine op_pure (pu_assign (OT.tmp rfl)) rfl rfl ?_
    refine tr_nil ?_
    refine then_normal ?_
    refine tr_ret ?_
    refine then_ret ?_
    exact ret_three .ret (.inl rfl) rfl ([], [], r1_2.2) (OT.conv (OT.tmp rfl) (fun H u h => nil_slt h)) (OT.conv (OT.tmp rfl) (fun H u h => nil_slt h)) (OT.tmp rfl) (fun _ _ h => h) (res_err hr1_2 (by simpa using c28)) (by exact picks_nil)
  · skip
    obtain ⟨hok, hnm, hr1⟩ := rows_ok hr1_2 (by simpa using c28)
    obtain ⟨rows, hrw⟩ : ∃ x, r1_2.1 = x := ⟨_, rfl⟩
    rw [hrw] at hr1
    obtain ⟨hrn, hrl, hol, hvl, hout⟩ := rows_facts hok hnm hr1
    have hal8 := (okV_pat (v := v) (by rw [hok]; rfl)).2.2.2
    refine tr_skip ?_
    refine then_normal ?_
    refine tr_seq ?_
    -- region 4
    refine tr_env (es_cons (t := 2) (OT.tmp rfl) (es_cons (t := 7) (OT.tmp rfl) es_nil)) ?_
    rw [hrw]
    refine tr_region ?_
    refine op_pure (pu_load_var (OT.tmp rfl) (by exact mem_at 0 rfl) (show tyOk Try.prog 25 true 5 = true from by decide +kernel)) rfl rfl ?_
    refine op_acts (acts_call (Vars_fn _ (by omega)) (show enters Try.prog 18 = true from by decide +kernel) (OTs.cons (OT.tmp rfl) OTs.nil) (List.Perm.refl _)) (List.Perm.refl _) rfl rfl (fun _ _ => ?_)
    refine op_pure (pu_assign (OT.tmp rfl)) rfl rfl ?_
    refine tr_nil ?_
    refine then_normal ?_
    refine tr_seq ?_
    -- region 5
    refine tr_env (es_cons (t := 2) (OT.tmp rfl) (es_cons (t := 7) (OT.tmp rfl) (es_cons (t := 9) (OT.tmp rfl) es_nil))) ?_
    refine tr_region ?_
    refine op_pure (pu_assign OT.const) rfl rfl ?_
    refine tr_nil ?_
    refine then_normal ?_
    refine tr_seq ?_
    refine tr_seq ?_
    -- region 6
    refine tr_env (es_cons (t := 2) (OT.tmp rfl) (es_cons (t := 7) (OT.tmp rfl) (es_cons (t := 9) (OT.tmp rfl) (es_cons (t := 10) (OT.tmp rfl) es_nil)))) ?_
    refine tr_nilItem 45 kT ?_
    refine tr_region ?_
    refine op_pure (pu_move (OT.tmp rfl)) rfl rfl ?_
    refine op_pure (pu_len_sl (OT.tmp rfl) Try.underlying35) rfl rfl ?_
    refine op_pure (pu_move OT.const) rfl rfl ?_
    refine tr_nil ?_
    refine then_normal ?_
    refine tr_block ?_
    refine tr_loopK (σ := Nat × Value) (es_cons (t := 2) (OT.tmp rfl) (es_cons (t := 9) (OT.tmp rfl) (es_cons (t := 32) (OT.tmp rfl) (es_cons (t := 33) (OT.tmp rfl) es_nil)))) (fun s => [(34, I64 (s.1 : Int)), (10, IsV s.2)]) (fun s => [OwnI 45 kT s.2 ((rows.take s.1).map (proj (varsL v.2.2.2.1) v.2.2.1)), BlkI g0_0 25 kV v]) (fun s => s.1 ≤ rows.length) (fun s => rows.length - s.1) (0, nilS) (Nat.zero_le _) ?_ (own_picks (by repeat (first | exact picks_nil | refine picks_cons 0 rfl ?_ | refine picks_cons 1 rfl ?_ | refine picks_cons 2 rfl ?_ | refine picks_cons 3 rfl ?_ | refine picks_cons 4 rfl ?_ | refine picks_cons 5 rfl ?_ | refine picks_cons 6 rfl ?_ | refine picks_cons 7 rfl ?_ | refine picks_cons 8 rfl ?_))) ?_
    · exact (es_cons (t := 34) (by exact OT.tmp rfl) (es_cons (t := 10) (by exact OT.tmp rfl) es_nil))
    · rintro ⟨i, va⟩ hi
      dsimp only at hi ⊢
      refine tr_seq ?_
      -- region 7
      refine tr_env (es_cons (t := 2) (OT.tmp rfl) (es_cons (t := 9) (OT.tmp rfl) (es_cons (t := 10) (OT.tmp rfl) (es_cons (t := 32) (OT.tmp rfl) (es_cons (t := 33) (OT.tmp rfl) (es_cons (t := 34) (OT.tmp rfl) es_nil)))))) ?_
      refine tr_region ?_
      refine op_pure (pu_lss (OT.tmp rfl) (OT.tmp rfl)) rfl rfl ?_
      refine tr_nil ?_
      refine then_normal ?_
      refine tr_seq ?_
      refine tr_cond (OT.tmp rfl) (fun c35 => ?_) (fun c35 => ?_)
      · skip
        refine tr_skip ?_
        refine then_normal ?_
        refine tr_seq ?_
        refine tr_block ?_
        refine tr_seq ?_
        -- region 8
        refine tr_env (es_cons (t := 2) (OT.tmp rfl) (es_cons (t := 9) (OT.tmp rfl) (es_cons (t := 10) (OT.tmp rfl) (es_cons (t := 32) (OT.tmp rfl) (es_cons (t := 33) (OT.tmp rfl) (es_cons (t := 34) (OT.tmp rfl) es_nil)))))) ?_
        have hir : i < rows.length := by simpa using c35
        obtain ⟨row, hrow⟩ : ∃ r, at' rows (i : Int) = r := ⟨_, rfl⟩
        have hrwl := hrl row (by rw [← hrow]; exact at_mem hir)
        have hst2 := map_snoc (proj (varsL v.2.2.2.1) v.2.2.1) hir
        rw [hrow] at hst2
        refine tr_region ?_
        refine op_pure (pu_index (OT.tmp rfl) (OT.tmp rfl) Try.underlying35 (show tyOk Try.prog 45 false 1 = true from by decide +kernel) (by omega) (by omega)) rfl rfl ?_
        refine op_pure (pu_load (OT.tmp rfl) (show tyOk Try.prog 45 false 1 = true from by decide +kernel)) rfl rfl ?_
        refine op_pure (pu_assign (OT.tmp rfl)) rfl rfl ?_
        refine tr_nil ?_
        refine then_normal ?_
        refine tr_seq ?_
        -- region 9
        refine tr_env (es_cons (t := 2) (OT.tmp rfl) (es_cons (t := 9) (OT.tmp rfl) (es_cons (t := 10) (OT.tmp rfl) (es_cons (t := 12) (OT.tmp rfl) (es_cons (t := 32) (OT.tmp rfl) (es_cons (t := 33) (OT.tmp rfl) (es_cons (t := 34) (OT.tmp rfl) es_nil))))))) ?_
        rw [hrow]
        refine tr_region ?_
        refine op_pure (pu_assign OT.const) rfl rfl ?_
        refine tr_nil ?_
        refine then_normal ?_
        refine tr_seq ?_
        refine tr_seq ?_
        -- region 10
        refine tr_env (es_cons (t := 2) (OT.tmp rfl) (es_cons (t := 9) (OT.tmp rfl) (es_cons (t := 10) (OT.tmp rfl) (es_cons (t := 12) (OT.tmp rfl) (es_cons (t := 13) (OT.tmp rfl) (es_cons (t := 32) (OT.tmp rfl) (es_cons (t := 33) (OT.tmp rfl) (es_cons (t := 34) (OT.tmp rfl) es_nil)))))))) ?_
        refine tr_nilItem 3 kI ?_
        refine tr_region ?_
        refine op_pure (pu_faddr (OT.tmp rfl) (show fieldOk Try.prog 25 2 2 false 1 = true from by decide +kernel)) rfl rfl ?_
        refine op_pure (pu_load_blk (OT.tmp rfl) (by exact mem_at 2 rfl) lv2 (show tyOk Try.prog 22 false 1 = true from by decide +kernel)) rfl rfl ?_
        refine op_pure (pu_len_sl (OT.tmp rfl) Try.underlying22) rfl rfl ?_
        refine op_pure (pu_move OT.const) rfl rfl ?_
        refine tr_nil ?_
        refine then_normal ?_
        refine tr_block ?_
        refine tr_loopK (σ := Nat × Value) (es_cons (t := 2) (OT.tmp rfl) (es_cons (t := 9) (OT.tmp rfl) (es_cons (t := 10) (OT.tmp rfl) (es_cons (t := 12) (OT.tmp rfl) (es_cons (t := 32) (OT.tmp rfl) (es_cons (t := 33) (OT.tmp rfl) (es_cons (t := 34) (OT.tmp rfl) (es_cons (t := 39) (OT.tmp rfl) (es_cons (t := 40) (OT.tmp rfl) es_nil))))))))) (fun s => [(41, I64 (s.1 : Int)), (13, IsV s.2)]) (fun s => [OwnI 3 kI s.2 ((v.2.2.1.take s.1).map (fun o => env (varsL v.2.2.2.1) row o)), OwnI 45 kT va ((rows.take i).map (proj (varsL v.2.2.2.1) v.2.2.1)), BlkI g0_0 25 kV v]) (fun s => s.1 ≤ v.2.2.1.length) (fun s => v.2.2.1.length - s.1) (0, nilS) (Nat.zero_le _) ?_ (own_picks (by repeat (first | exact picks_nil | refine picks_cons 0 rfl ?_ | refine picks_cons 1 rfl ?_ | refine picks_cons 2 rfl ?_ | refine picks_cons 3 rfl ?_ | refine picks_cons 4 rfl ?_ | refine picks_cons 5 rfl ?_ | refine picks_cons 6 rfl ?_ | refine picks_cons 7 rfl ?_ | refine picks_cons 8 rfl ?_))) ?_
        · exact (es_cons (t := 41) (by exact OT.tmp rfl) (es_cons (t := 13) (by exact OT.tmp rfl) es_nil))
        · rintro ⟨j, vt⟩ hj
          dsimp only at hj ⊢
          refine tr_seq ?_
          -- region 11
          refine tr_env (es_cons (t := 2) (OT.tmp rfl) (es_cons (t := 9) (OT.tmp rfl) (es_cons (t := 10) (OT.tmp rfl) (es_cons (t := 12) (OT.tmp rfl) (es_cons (t := 13) (OT.tmp rfl) (es_cons (t := 32) (OT.tmp rfl) (es_cons (t := 33) (OT.tmp rfl) (es_cons (t := 34) (OT.tmp rfl) (es_cons (t := 39) (OT.tmp rfl) (es_cons (t := 40) (OT.tmp rfl) (es_cons (t := 41) (OT.tmp rfl) es_nil))))))))))) ?_
          refine tr_region ?_
          refine op_pure (pu_lss (OT.tmp rfl) (OT.tmp rfl)) rfl rfl ?_
          refine tr_nil ?_
          refine then_normal ?_
          refine tr_seq ?_
          refine tr_cond (OT.tmp rfl) (fun c42 => ?_) (fun c42 => ?_)
          · skip
            refine tr_skip ?_
            refine then_normal ?_
            refine tr_seq ?_
            refine tr_block ?_
            refine tr_seq ?_
            -- region 12
            refine tr_env (es_cons (t := 2) (OT.tmp rfl) (es_cons (t := 9) (OT.tmp rfl) (es_cons (t := 10) (OT.tmp rfl) (es_cons (t := 12) (OT.tmp rfl) (es_cons (t := 13) (OT.tmp rfl) (es_cons (t := 32) (OT.tmp rfl) (es_cons (t := 33) (OT.tmp rfl) (es_cons (t := 34) (OT.tmp rfl) (es_cons (t := 39) (OT.tmp rfl) (es_cons (t := 40) (OT.tmp rfl) (es_cons (t := 41) (OT.tmp rfl) es_nil))))))))))) ?_
            have hjo : j < v.2.2.1.length := by simpa using c42
            obtain ⟨o, hoo⟩ : ∃ o, at' v.2.2.1 (j : Int) = o := ⟨_, rfl⟩
            have hoV := hout o (by rw [← hoo]; exact at_mem hjo)
            have hix := ixI_in hoV
            have hixl := ix_lt hoV
            have hst := map_snoc (fun o => env (varsL v.2.2.2.1) row o) hjo
            rw [hoo] at hst
            refine tr_region ?_
            refine op_pure (pu_index (OT.tmp rfl) (OT.tmp rfl) Try.underlying22 (show tyOk Try.prog 9 false 1 = true from by decide +kernel) (by omega) (by omega)) rfl rfl ?_
            refine op_pure (pu_load (OT.tmp rfl) (show tyOk Try.prog 9 false 1 = true from by decide +kernel)) rfl rfl ?_
            refine op_pure (pu_assign (OT.tmp rfl)) rfl rfl ?_
            refine tr_nil ?_
            refine then_normal ?_
            -- region 13
            refine tr_env (es_cons (t := 2) (OT.tmp rfl) (es_cons (t := 9) (OT.tmp rfl) (es_cons (t := 10) (OT.tmp rfl) (es_cons (t := 12) (OT.tmp rfl) (es_cons (t := 13) (OT.tmp rfl) (es_cons (t := 15) (OT.tmp rfl) (es_cons (t := 32) (OT.tmp rfl) (es_cons (t := 33) (OT.tmp rfl) (es_cons (t := 34) (OT.tmp rfl) (es_cons (t := 39) (OT.tmp rfl) (es_cons (t := 40) (OT.tmp rfl) (es_cons (t := 41) (OT.tmp rfl) es_nil)))))))))))) ?_
            rw [hoo]
            refine tr_region ?_
            refine op_pure (pu_move (OT.tmp rfl)) rfl rfl ?_
            refine op_pure (pu_move (OT.tmp rfl)) rfl rfl ?_
            refine op_pure (pu_move (OT.tmp rfl)) rfl rfl ?_
            refine op_pure (pu_move (OT.tmp rfl)) rfl rfl ?_
            refine op_acts (acts_call (IndexS_fn _ _ (by omega)) (show enters Try.prog 19 = true from by decide +kernel) (OTs.cons (OT.tmp rfl) (OTs.cons (OT.tmp rfl) OTs.nil)) (List.Perm.refl _)) (List.Perm.refl _) rfl rfl (fun _ _ => ?_)
            refine op_pure (pu_index (OT.tmp rfl) (OT.tmp rfl) Try.underlying45 (show tyOk Try.prog 3 false 1 = true from by decide +kernel) (by omega) (by omega)) rfl rfl ?_
            rw [hix]
            refine op_pure (pu_load (OT.tmp rfl) (show tyOk Try.prog 3 false 1 = true from by decide +kernel)) rfl rfl ?_
            refine op_acts (acts_lit (d := kI) (v0 := 0) (show slTy Try.prog 45 3 1 8 = true from by decide +kernel) (show tyOk Try.prog 3 false 1 = true from by decide +kernel) zI (show 1 * 1 ≤ 16777216 from by decide) (by decide) (fills_arr rfl rfl (by decide) (OT.tmp rfl) fills_nil)) (List.Perm.refl _) rfl rfl (fun _ _ => ?_)
            refine op_acts (acts_append (OT.tmp rfl) (by exact perm_at 0 rfl) (OT.tmp rfl) (show slTy Try.prog 45 3 1 8 = true from by decide +kernel) (by (simp; omega)) (by (simp; omega))) (by exact perm_at 0 rfl) rfl rfl (fun v13_8 _ => ?_)
            refine op_pure (pu_assign (OT.tmp rfl)) rfl rfl ?_
            refine tr_nil ?_
            refine block_normal ?_
            refine then_normal ?_
            -- region 14
            refine tr_env (es_cons (t := 2) (OT.tmp rfl) (es_cons (t := 9) (OT.tmp rfl) (es_cons (t := 10) (OT.tmp rfl) (es_cons (t := 12) (OT.tmp rfl) (es_cons (t := 13) (OT.tmp rfl) (es_cons (t := 32) (OT.tmp rfl) (es_cons (t := 33) (OT.tmp rfl) (es_cons (t := 34) (OT.tmp rfl) (es_cons (t := 39) (OT.tmp rfl) (es_cons (t := 40) (OT.tmp rfl) (es_cons (t := 41) (OT.tmp rfl) es_nil))))))))))) ?_
            refine tr_region ?_
            refine op_pure (pu_add' (OT.tmp rfl) OT.const (by omega)) rfl rfl ?_
            refine op_pure (pu_move (OT.tmp rfl)) rfl rfl ?_
            refine tr_nil ?_
            refine then_normal ?_
            exact tr_again (j + 1, v13_8) (by show j + 1 ≤ _; omega) (by show v.2.2.1.length - (j + 1) < v.2.2.1.length - j; omega) (es_append (es_cons (t := 41) (by exact OT.tmp rfl) (es_cons (t := 13) (by exact OT.tmp rfl) es_nil)) (es_cons (t := 2) (OT.tmp rfl) (es_cons (t := 9) (OT.tmp rfl) (es_cons (t := 10) (OT.tmp rfl) (es_cons (t := 12) (OT.tmp rfl) (es_cons (t := 32) (OT.tmp rfl) (es_cons (t := 33) (OT.tmp rfl) (es_cons (t := 34) (OT.tmp rfl) (es_cons (t := 39) (OT.tmp rfl) (es_cons (t := 40) (OT.tmp rfl) es_nil)))))))))) (own_picks (by rw [hst]; exact (by repeat (first | exact picks_nil | refine picks_cons 0 rfl ?_ | refine picks_cons 1 rfl ?_ | refine picks_cons 2 rfl ?_ | refine picks_cons 3 rfl ?_ | refine picks_cons 4 rfl ?_ | refine picks_cons 5 rfl ?_ | refine picks_cons 6 rfl ?_ | refine picks_cons 7 rfl ?_ | refine picks_cons 8 rfl ?_))))
          · skip
            refine tr_exit ?_
            refine then_exit ?_
            refine then_exit ?_
            refine block_hit ?_
            refine then_normal ?_
            -- region 15
            refine tr_env (es_cons (t := 2) (OT.tmp rfl) (es_cons (t := 9) (OT.tmp rfl) (es_cons (t := 10) (OT.tmp rfl) (es_cons (t := 13) (OT.tmp rfl) (es_cons (t := 32) (OT.tmp rfl) (es_cons (t := 33) (OT.tmp rfl) (es_cons (t := 34) (OT.tmp rfl) es_nil))))))) ?_
            obtain rfl : j = v.2.2.1.length := by simp only [decide_eq_false_iff_not] at c42; omega
            rw [List.take_length]
            refine tr_region ?_
            refine op_pure (pu_move (OT.tmp rfl)) rfl rfl ?_
            refine op_pure (pu_move (OT.tmp rfl)) rfl rfl ?_
            refine tr_freeze (by exact perm_at 0 rfl) 56 (OT.tmp rfl) ?_
            refine op_acts (acts_lit (d := kT) (v0 := []) (show slTy Try.prog 35 45 1 24 = true from by decide +kernel) (show tyOk Try.prog 45 false 1 = true from by decide +kernel) zT (show 1 * 1 ≤ 16777216 from by decide) (by decide) (fills_arr rfl rfl (by decide) (OT.tmp rfl) fills_nil)) (List.Perm.refl _) rfl rfl (fun _ _ => ?_)
            refine op_acts (acts_append (OT.tmp rfl) (by exact perm_at 0 rfl) (OT.tmp rfl) (show slTy Try.prog 35 45 1 24 = true from by decide +kernel) (by (simp; omega)) (by (simp [maxLen]; omega))) (by exact perm_at 0 rfl) rfl rfl (fun v15_3 _ => ?_)
            refine op_pure (pu_assign (OT.tmp rfl)) rfl rfl ?_
            refine tr_nil ?_
            refine block_normal ?_
            refine then_normal ?_
            -- region 16
            refine tr_env (es_cons (t := 2) (OT.tmp rfl) (es_cons (t := 9) (OT.tmp rfl) (es_cons (t := 10) (OT.tmp rfl) (es_cons (t := 32) (OT.tmp rfl) (es_cons (t := 33) (OT.tmp rfl) (es_cons (t := 34) (OT.tmp rfl) es_nil)))))) ?_
            refine tr_region ?_
            refine op_pure (pu_add' (OT.tmp rfl) OT.const (by omega)) rfl rfl ?_
            refine op_pure (pu_move (OT.tmp rfl)) rfl rfl ?_
            refine tr_nil ?_
            refine then_normal ?_
            exact tr_again (i + 1, v15_3) (by show i + 1 ≤ rows.length; omega) (by show rows.length - (i + 1) < rows.length - i; omega) (es_append (es_cons (t := 34) (by exact OT.tmp rfl) (es_cons (t := 10) (by exact OT.tmp rfl) es_nil)) (es_cons (t := 2) (OT.tmp rfl) (es_cons (t := 9) (OT.tmp rfl) (es_cons (t := 32) (OT.tmp rfl) (es_cons (t := 33) (OT.tmp rfl) es_nil))))) (own_picks (by rw [hst2]; exact (by repeat (first | exact picks_nil | refine picks_cons 0 rfl ?_ | refine picks_cons 1 rfl ?_ | refine picks_cons 2 rfl ?_ | refine picks_cons 3 rfl ?_ | refine picks_cons 4 rfl ?_ | refine picks_cons 5 rfl ?_ | refine picks_cons 6 rfl ?_ | refine picks_cons 7 rfl ?_ | refine picks_cons 8 rfl ?_))))
      · skip
        refine tr_exit ?_
        refine then_exit ?_
        refine then_exit ?_
        refine block_hit ?_
        refine then_normal ?_
        refine tr_seq ?_
        -- region 17
        refine tr_env (es_cons (t := 10) (OT.tmp rfl) es_nil) ?_
        obtain rfl : i = rows.length := by simp only [decide_eq_false_iff_not] at c35; omega
        rw [List.take_length]
        obtain ⟨all, hall⟩ : ∃ a, rows.map (proj (varsL v.2.2.2.1) v.2.2.1) = a := ⟨_, rfl⟩
        rw [hall]
        have hallen : all.length ≤ 1000000 := by rw [← hall, List.length_map]; omega
        refine tr_region ?_
        refine op_pure (pu_move (OT.tmp rfl)) rfl rfl ?_
        refine op_acts (acts_call (SortT_fn _ _ hallen) (show enters Try.prog 20 = true from by decide +kernel) (OTs.cons (OT.tmp rfl) (OTs.cons OT.func OTs.nil)) (by exact perm_at 0 rfl)) (by exact perm_at 0 rfl) rfl rfl (fun rs hrs => ?_)
        refine tr_nil ?_
        refine then_normal ?_
        refine tr_seq ?_
        -- region 18
        refine tr_env (es_cons (t := 10) (OT.tmp rfl) es_nil) ?_
        have hrsl : rs.length ≤ 1000000 := by rw [hrs.1.length_eq]; exact hallen
        refine tr_freeze (by exact perm_at 0 rfl) 10 (OT.tmp rfl) ?_
        refine tr_region ?_
        refine op_pure (pu_assign OT.const) rfl rfl ?_
        refine tr_nil ?_
        refine then_normal ?_
        refine tr_seq ?_
        -- region 19
        refine tr_env (es_cons (t := 10) (OT.tmp rfl) (es_cons (t := 16) (OT.tmp rfl) es_nil)) ?_
        refine tr_region ?_
        refine op_pure (pu_assign OT.const) rfl rfl ?_
        refine tr_nil ?_
        refine then_normal ?_
        refine tr_seq ?_
        refine tr_seq ?_
        -- region 20
        refine tr_env (es_cons (t := 10) (OT.tmp rfl) (es_cons (t := 16) (OT.tmp rfl) (es_cons (t := 17) (OT.tmp rfl) es_nil))) ?_
        refine tr_nilItem 3 kI (tr_nilItem 45 kT ?_)
        refine tr_region ?_
        refine op_pure (pu_move (OT.tmp rfl)) rfl rfl ?_
        refine op_pure (pu_len_sl (OT.tmp rfl) Try.underlying35) rfl rfl ?_
        refine op_pure (pu_move OT.const) rfl rfl ?_
        refine tr_nil ?_
        refine then_normal ?_
        refine tr_block ?_
        refine tr_loopK (σ := Nat × Value × Value) (es_cons (t := 62) (OT.tmp rfl) (es_cons (t := 63) (OT.tmp rfl) es_nil)) (fun s => [(64, I64 (s.1 : Int)), (16, IsV s.2.1), (17, IsV s.2.2)]) (fun s => [OwnI 45 kT s.2.1 (dd (rs.take s.1)), OwnI 3 kI s.2.2 (cntL (rs.take s.1)), BlkI g0_0 25 kV v]) (fun s => s.1 ≤ rs.length) (fun s => rs.length - s.1) (0, nilS, nilS) (Nat.zero_le _) ?_ (own_picks (by repeat (first | exact picks_nil | refine picks_cons 0 rfl ?_ | refine picks_cons 1 rfl ?_ | refine picks_cons 2 rfl ?_ | refine picks_cons 3 rfl ?_ | refine picks_cons 4 rfl ?_ | refine picks_cons 5 rfl ?_ | refine picks_cons 6 rfl ?_ | refine picks_cons 7 rfl ?_ | refine picks_cons 8 rfl ?_))) ?_
        · exact (es_cons (t := 64) (by exact OT.tmp rfl) (es_cons (t := 16) (by exact OT.tmp rfl) (es_cons (t := 17) (by exact OT.tmp rfl) es_nil)))
        · rintro ⟨k, vo, vc⟩ hk
          dsimp only at hk ⊢
          refine tr_seq ?_
          -- region 21
          refine tr_env (es_cons (t := 16) (OT.tmp rfl) (es_cons (t := 17) (OT.tmp rfl) (es_cons (t := 62) (OT.tmp rfl) (es_cons (t := 63) (OT.tmp rfl) (es_cons (t := 64) (OT.tmp rfl) es_nil))))) ?_
          refine tr_region ?_
          refine op_pure (pu_lss (OT.tmp rfl) (OT.tmp rfl)) rfl rfl ?_
          refine tr_nil ?_
          refine then_normal ?_
          refine tr_seq ?_
          refine tr_cond (OT.tmp rfl) (fun c65 => ?_) (fun c65 => ?_)
          · skip
            refine tr_skip ?_
            refine then_normal ?_
            refine tr_seq ?_
            refine tr_block ?_
            refine tr_seq ?_
            -- region 22
            refine tr_env (es_cons (t := 16) (OT.tmp rfl) (es_cons (t := 17) (OT.tmp rfl) (es_cons (t := 62) (OT.tmp rfl) (es_cons (t := 63) (OT.tmp rfl) (es_cons (t := 64) (OT.tmp rfl) es_nil))))) ?_
            have hkr : k < rs.length := by simpa using c65
            obtain ⟨t, ht⟩ : ∃ t, at' rs (k : Int) = t := ⟨_, rfl⟩
            have hdl := dd_len (rs.take k)
            rw [List.length_take] at hdl
            have hcl := cntL_len (rs.take k)
            have hcb := cnt_bound (rs.take k) (((dd (rs.take k)).length : Int) - 1)
            rw [List.length_take] at hcb
            refine tr_region ?_
            refine op_pure (pu_index (OT.tmp rfl) (OT.tmp rfl) Try.underlying35 (show tyOk Try.prog 45 false 1 = true from by decide +kernel) (by omega) (by omega)) rfl rfl ?_
            refine op_pure (pu_load (OT.tmp rfl) (show tyOk Try.prog 45 false 1 = true from by decide +kernel)) rfl rfl ?_
            refine op_pure (pu_assign (OT.tmp rfl)) rfl rfl ?_
            refine tr_nil ?_
            refine then_normal ?_
            refine tr_seq ?_
            refine tr_seq ?_
            -- region 23
            refine tr_env (es_cons (t := 16) (OT.tmp rfl) (es_cons (t := 17) (OT.tmp rfl) (es_cons (t := 19) (OT.tmp rfl) (es_cons (t := 62) (OT.tmp rfl) (es_cons (t := 63) (OT.tmp rfl) (es_cons (t := 64) (OT.tmp rfl) es_nil)))))) ?_
            rw [ht]
            refine tr_region ?_
            refine op_pure (pu_move (OT.tmp rfl)) rfl rfl ?_
            refine op_pure (pu_len_own (OT.tmp rfl) (by exact mem_at 0 rfl) Try.underlying35) rfl rfl ?_
            refine op_pure (pu_assign (OT.tmp rfl)) rfl rfl ?_
            refine tr_nil ?_
            refine then_normal ?_
            refine tr_seq ?_
            -- region 24
            refine tr_env (es_cons (t := 16) (OT.tmp rfl) (es_cons (t := 17) (OT.tmp rfl) (es_cons (t := 19) (OT.tmp rfl) (es_cons (t := 20) (OT.tmp rfl) (es_cons (t := 62) (OT.tmp rfl) (es_cons (t := 63) (OT.tmp rfl) (es_cons (t := 64) (OT.tmp rfl) es_nil))))))) ?_
            refine tr_region ?_
            refine op_pure (pu_move (OT.tmp rfl)) rfl rfl ?_
            refine op_pure (pu_gtr (OT.tmp rfl) OT.const) rfl rfl ?_
            refine op_pure (pu_move (OT.tmp rfl)) rfl rfl ?_
            refine op_gu rfl rfl rfl (OT.gu_mk (OT.tmp rfl)) (fun hg => by (have hg1 := hg.2; (try simp only [decide_eq_true_eq, decide_eq_false_iff_not] at hg1); exact pu_move (by exact OT.tmp rfl))) rfl ?_
            refine op_gu rfl rfl rfl (OT.gu_mk (OT.tmp rfl)) (fun hg => by (have hg1 := hg.2; (try simp only [decide_eq_true_eq, decide_eq_false_iff_not] at hg1); exact pu_move (by exact OT.tmp rfl))) rfl ?_
            refine op_gu rfl rfl rfl (OT.gu_mk (OT.tmp rfl)) (fun hg => by (have hg1 := hg.2; (try simp only [decide_eq_true_eq, decide_eq_false_iff_not] at hg1); exact pu_sub' (by exact OT.gu (OT.tmp rfl) hg) OT.const (by omega))) rfl ?_
            refine op_gu rfl rfl rfl (OT.gu_mk (OT.tmp rfl)) (fun hg => by (have hg1 := hg.2; (try simp only [decide_eq_true_eq, decide_eq_false_iff_not] at hg1); exact pu_index_own (by exact OT.gu (OT.tmp rfl) hg) (by exact mem_at 0 rfl) (by exact OT.gu (OT.tmp rfl) hg) Try.underlying35 (show tyOk Try.prog 45 false 1 = true from by decide +kernel) (by omega) (by omega))) rfl ?_
            refine op_gu rfl rfl rfl (OT.gu_mk (OT.tmp rfl)) (fun hg => by (have hg1 := hg.2; (try simp only [decide_eq_true_eq, decide_eq_false_iff_not] at hg1); exact pu_load_own0 (by exact OT.gu (OT.tmp rfl) hg) (by exact mem_at 0 rfl) (by omega) (by omega) (show tyOk Try.prog 45 false 1 = true from by decide +kernel))) rfl ?_
            refine op_gu rfl rfl rfl (OT.gu_mk (OT.tmp rfl)) (fun hg => by (have hg1 := hg.2; (try simp only [decide_eq_true_eq, decide_eq_false_iff_not] at hg1); exact pu_move (by exact OT.tmp rfl))) rfl ?_
            refine op_gu_acts () rfl rfl rfl (OT.gu_mk (OT.tmp rfl)) (fun hg => by (have hg1 := hg.2; (try simp only [decide_eq_true_eq, decide_eq_false_iff_not] at hg1); exact acts_call (Cmp_all _ _) (show enters Try.prog 21 = true from by decide +kernel) (OTs.cons (by exact OT.gu (OT.tmp rfl) hg) (OTs.cons (by exact OT.gu (OT.tmp rfl) hg) OTs.nil)) (List.Perm.refl _))) rfl (fun _ _ => ?_)
            refine op_gu rfl rfl rfl (OT.gu_mk (OT.tmp rfl)) (fun hg => by (have hg1 := hg.2; (try simp only [decide_eq_true_eq, decide_eq_false_iff_not] at hg1); exact pu_eql (by exact OT.gu (OT.tmp rfl) hg) OT.const)) rfl ?_
            refine op_pure (pu_pick_and (OT.tmp rfl) (by exact OT.tmp rfl)) rfl rfl ?_
            refine tr_nil ?_
            refine then_normal ?_
            refine tr_cond (OT.tmp rfl) (fun c81 => ?_) (fun c81 => ?_)
            · skip
              obtain ⟨k', rfl, hkk⟩ := grp_yes hkr ht c81
              have hst := cnt_same hrs.2 hkr hkk
              simp only [Bool.and_eq_true, decide_eq_true_eq] at c81
              have hn1 : (((dd (rs.take (k' + 1))).length : Int) - 1).toNat = (dd (rs.take (k' + 1))).length - 1 := by omega
              refine tr_seq ?_
              -- region 25
              refine tr_env (es_cons (t := 16) (OT.tmp rfl) (es_cons (t := 17) (OT.tmp rfl) (es_cons (t := 20) (OT.tmp rfl) (es_cons (t := 62) (OT.tmp rfl) (es_cons (t := 63) (OT.tmp rfl) (es_cons (t := 64) (OT.tmp rfl) es_nil)))))) ?_
              refine tr_region ?_
              refine op_pure (pu_move (OT.tmp rfl)) rfl rfl ?_
              refine op_pure (pu_move (OT.tmp rfl)) rfl rfl ?_
              refine op_pure (pu_sub' (OT.tmp rfl) OT.const (by omega)) rfl rfl ?_
              refine op_pure (pu_index_own (OT.tmp rfl) (by exact mem_at 1 rfl) (OT.tmp rfl) Try.underlying36 (show tyOk Try.prog 3 false 1 = true from by decide +kernel) (by omega) (by omega)) rfl rfl ?_
              refine op_pure (pu_load_own0 (OT.tmp rfl) (by exact mem_at 1 rfl) (by omega) (by omega) (show tyOk Try.prog 3 false 1 = true from by decide +kernel)) rfl rfl ?_
              refine op_pure (pu_add' (OT.tmp rfl) OT.const (by omega)) rfl rfl ?_
              refine op_pure (pu_index_own (OT.tmp rfl) (by exact mem_at 1 rfl) (OT.tmp rfl) Try.underlying36 (show tyOk Try.prog 3 false 1 = true from by decide +kernel) (by omega) (by omega)) rfl rfl ?_
              refine op_acts (acts_store_own0 (OT.tmp rfl) (OT.tmp rfl) (by exact perm_at 1 rfl) (by omega) (by omega) (show tyOk Try.prog 3 false 1 = true from by decide +kernel)) (by exact perm_at 1 rfl) rfl rfl (fun _ _ => ?_)
              refine tr_nil ?_
              refine then_normal ?_
              refine tr_exit ?_
              refine then_exit ?_
              refine block_hit ?_
              refine then_normal ?_
              -- region 27
              refine tr_env (es_cons (t := 16) (OT.tmp rfl) (es_cons (t := 17) (OT.tmp rfl) (es_cons (t := 62) (OT.tmp rfl) (es_cons (t := 63) (OT.tmp rfl) (es_cons (t := 64) (OT.tmp rfl) es_nil))))) ?_
              refine tr_region ?_
              refine op_pure (pu_add' (OT.tmp rfl) OT.const (by omega)) rfl rfl ?_
              refine op_pure (pu_move (OT.tmp rfl)) rfl rfl ?_
              refine tr_nil ?_
              refine then_normal ?_
              exact tr_again (k' + 1 + 1, vo, vc) (by show k' + 1 + 1 ≤ rs.length; omega) (by show rs.length - (k' + 1 + 1) < rs.length - (k' + 1); omega) (es_append (es_cons (t := 64) (by exact OT.tmp rfl) (es_cons (t := 16) (by exact OT.tmp rfl) (es_cons (t := 17) (by exact OT.tmp rfl) es_nil))) (es_cons (t := 62) (OT.tmp rfl) (es_cons (t := 63) (OT.tmp rfl) es_nil))) (own_picks (by rw [hst.1, hst.2, ← hn1]; exact (by repeat (first | exact picks_nil | refine picks_cons 0 rfl ?_ | refine picks_cons 1 rfl ?_ | refine picks_cons 2 rfl ?_ | refine picks_cons 3 rfl ?_ | refine picks_cons 4 rfl ?_ | refine picks_cons 5 rfl ?_ | refine picks_cons 6 rfl ?_ | refine picks_cons 7 rfl ?_ | refine picks_cons 8 rfl ?_))))
            · skip
              have hst := cnt_new hrs.2 hkr (grp_no hkr ht c81)
              rw [ht] at hst
              refine tr_skip ?_
              refine then_normal ?_
              -- region 26
              refine tr_env (es_cons (t := 16) (OT.tmp rfl) (es_cons (t := 17) (OT.tmp rfl) (es_cons (t := 19) (OT.tmp rfl) (es_cons (t := 62) (OT.tmp rfl) (es_cons (t := 63) (OT.tmp rfl) (es_cons (t := 64) (OT.tmp rfl) es_nil)))))) ?_
              refine tr_region ?_
              refine op_pure (pu_move (OT.tmp rfl)) rfl rfl ?_
              refine op_pure (pu_move (OT.tmp rfl)) rfl rfl ?_
              refine op_acts (acts_lit (d := kT) (v0 := []) (show slTy Try.prog 35 45 1 24 = true from by decide +kernel) (show tyOk Try.prog 45 false 1 = true from by decide +kernel) zT (show 1 * 1 ≤ 16777216 from by decide) (by decide) (fills_arr rfl rfl (by decide) (OT.tmp rfl) fills_nil)) (List.Perm.refl _) rfl rfl (fun _ _ => ?_)
              refine op_acts (acts_append (OT.tmp rfl) (by exact perm_at 0 rfl) (OT.tmp rfl) (show slTy Try.prog 35 45 1 24 = true from by decide +kernel) (by (simp; omega)) (by (simp [maxLen]; omega))) (by exact perm_at 0 rfl) rfl rfl (fun v26_3 _ => ?_)
              refine op_pure (pu_move (OT.tmp rfl)) rfl rfl ?_
              refine op_acts (acts_lit (d := kI) (v0 := 0) (show slTy Try.prog 36 3 1 8 = true from by decide +kernel) (show tyOk Try.prog 3 false 1 = true from by decide +kernel) zI (show 1 * 1 ≤ 16777216 from by decide) (by decide) (fills_arr rfl rfl (by decide) OT.const fills_nil)) (List.Perm.refl _) rfl rfl (fun _ _ => ?_)
              refine op_acts (acts_append (OT.tmp rfl) (by exact perm_at 1 rfl) (OT.tmp rfl) (show slTy Try.prog 36 3 1 8 = true from by decide +kernel) (by (simp; omega)) (by (simp [maxLen]; omega))) (by exact perm_at 1 rfl) rfl rfl (fun v26_6 _ => ?_)
              refine op_pure (pu_assign (OT.tmp rfl)) rfl rfl ?_
              refine op_pure (pu_assign (OT.tmp rfl)) rfl rfl ?_
              refine tr_nil ?_
              refine block_normal ?_
              refine then_normal ?_
              -- region 27
              refine tr_env (es_cons (t := 16) (OT.tmp rfl) (es_cons (t := 17) (OT.tmp rfl) (es_cons (t := 62) (OT.tmp rfl) (es_cons (t := 63) (OT.tmp rfl) (es_cons (t := 64) (OT.tmp rfl) es_nil))))) ?_
              refine tr_region ?_
              refine op_pure (pu_add' (OT.tmp rfl) OT.const (by omega)) rfl rfl ?_
              refine op_pure (pu_move (OT.tmp rfl)) rfl rfl ?_
              refine tr_nil ?_
              refine then_normal ?_
              exact tr_again (k + 1, v26_3, v26_6) (by show k + 1 ≤ rs.length; omega) (by show rs.length - (k + 1) < rs.length - k; omega) (es_append (es_cons (t := 64) (by exact OT.tmp rfl) (es_cons (t := 16) (by exact OT.tmp rfl) (es_cons (t := 17) (by exact OT.tmp rfl) es_nil))) (es_cons (t := 62) (OT.tmp rfl) (es_cons (t := 63) (OT.tmp rfl) es_nil))) (own_picks (by rw [hst.1, hst.2]; exact (by repeat (first | exact picks_nil | refine picks_cons 0 rfl ?_ | refine picks_cons 1 rfl ?_ | refine picks_cons 2 rfl ?_ | refine picks_cons 3 rfl ?_ | refine picks_cons 4 rfl ?_ | refine picks_cons 5 rfl ?_ | refine picks_cons 6 rfl ?_ | refine picks_cons 7 rfl ?_ | refine picks_cons 8 rfl ?_))))
          · skip
            refine tr_exit ?_
            refine then_exit ?_
            refine then_exit ?_
            refine block_hit ?_
            refine then_normal ?_
            refine tr_seq ?_
            -- region 28
            refine tr_env (es_cons (t := 16) (OT.tmp rfl) (es_cons (t := 17) (OT.tmp rfl) es_nil)) ?_
            obtain rfl : k = rs.length := by simp only [decide_eq_false_iff_not] at c65; omega
            obtain ⟨hD, hC⟩ := cntL_all hrs.1 hrs.2
            rw [List.take_length, hD, hC]
            have hsma : Small all := ⟨hallen, fun x hx => by
              rw [← hall] at hx
              obtain ⟨r, _, rfl⟩ := List.mem_map.1 hx
              unfold proj; rw [List.length_map]; omega⟩
            have hsm := hsma.setR
            refine tr_region ?_
            refine op_pure (pu_move (OT.tmp rfl)) rfl rfl ?_
            refine tr_freeze (by exact perm_at 0 rfl) 97 (OT.tmp rfl) ?_
            refine op_acts (acts_callM (Set_fn (K0 := noK) (n0 := 0) _ hsm) mk_none (show enters Try.prog 22 = true from by decide +kernel) (OTs.cons (OT.tmp rfl) OTs.nil) (List.Perm.refl _)) (List.Perm.refl _) rfl rfl (fun _ _ => ?_)
            refine op_pure (pu_move (OT.tmp rfl)) rfl rfl ?_
            refine tr_freezeF mk_none (fun g => blks_nil) (by exact perm_at 0 rfl) 99 (OT.tmp rfl) ?_
            refine op_acts (acts_call (ClipI_fn _) (show enters Try.prog 23 = true from by decide +kernel) (OTs.cons (OT.tmp rfl) OTs.nil) (List.Perm.refl _)) (List.Perm.refl _) rfl rfl (fun _ _ => ?_)
            refine op_pure (pu_assign (OT.tmp rfl)) rfl rfl ?_
            refine op_pure (pu_assign (OT.tmp rfl)) rfl rfl ?_
            refine op_pure (pu_assign OT.const) rfl rfl ?_
            refine tr_nil ?_
            refine then_normal ?_
            refine tr_ret ?_
            exact ret_three .ret (.inl rfl) rfl (setR all, countsOf all, 0) (OT.eq (OT.unfr2 (OT.tmp rfl)) (congrArg (SlT kT) (setR_idem all))) (OT.tmp rfl) (OT.tmp rfl) (fun _ _ h => h) (.inr (.inr ⟨hok, hnm, by unfold allOf; rw [← hr1, hall]⟩)) (by exact picks_nil)
end Go.Proofs.Ytakkjljhjfkkbaa
/- Walks through the Go functions rhizomelaw11.Fits, rhizomelaw11.awake, rhizomelaw11.JoinGreat, as typed contracts. -/
namespace Go.Proofs.Ytakkjljhjfkkbaa
open Go Go.Gw Go.So Go.Tu Go.Jn
set_option linter.unusedVariables false
set_option linter.unusedSimpArgs false
theorem u64_mod (a n : Int) (h0 : 0 < n) (h1 : n < 1000) : 0 ≤ (IntKind.u64.wrap a) % n ∧ (IntKind.u64.wrap a) % n < n ∧ 0 ≤ IntKind.u64.wrap a := by
  refine ⟨Int.emod_nonneg _ (by omega), Int.emod_lt_of_pos _ h0, ?_⟩
  simp [IntKind.wrap, IntKind.bits, IntKind.signed]; omega
theorem zAl : ZeroOf Try.prog 23 (ksl kA) [] := ⟨nilS, by kernel_rfl, fun H => nil_sl⟩

set_option maxRecDepth 20000 in
/-- rhizome/rhizomelaw11.Fits -/
theorem Fits_fn (v : Vw) (l : List Ed) : Ct Try.prog 8 [kV.T v, SlT kE l] ([]) Unit (fun _ => BoolT (fitsB v l)) (fun _ => []) (fun _ => True) := by
  refine fn_intro Try.func8 rfl rfl ?_
  intro H w
  refine tr_seq ?_
  -- region 0
  refine tr_env (es_cons (t := 0) (OT.tmp rfl) (es_cons (t := 1) (OT.tmp rfl) es_nil)) ?_
  refine tr_region ?_
  refine op_acts (acts_box (d := kV) (OT.tmp rfl)) (List.Perm.refl _) rfl rfl (fun g0_0 _ => ?_)
  refine op_pure (pu_assign OT.const) rfl rfl ?_
  refine tr_nil ?_
  refine then_normal ?_
  refine tr_seq ?_
  -- region 1
  refine tr_env (es_cons (t := 1) (OT.tmp rfl) (es_cons (t := 2) (OT.tmp rfl) es_nil)) ?_
  refine tr_region ?_
  refine op_pure (pu_move (OT.tmp rfl)) rfl rfl ?_
  refine op_pure (pu_len_sl (OT.tmp rfl) Try.underlying26) rfl rfl ?_
  refine op_pure (pu_leq (OT.tmp rfl) OT.const) rfl rfl ?_
  refine op_pure (pu_move (OT.tmp rfl)) rfl rfl ?_
  refine op_gu rfl rfl rfl (OT.gu_mk (OT.tmp rfl)) (fun hg => by (have hg1 := hg.2; (try simp only [decide_eq_true_eq, decide_eq_false_iff_not] at hg1); exact pu_faddr (by exact OT.tmp rfl) (show fieldOk Try.prog 25 3 3 false 1 = true from by decide +kernel))) rfl ?_
  refine op_gu rfl rfl rfl (OT.gu_mk (OT.tmp rfl)) (fun hg => by (have hg1 := hg.2; (try simp only [decide_eq_true_eq, decide_eq_false_iff_not] at hg1); exact pu_load_blk (by exact OT.gu (OT.tmp rfl) hg) (by exact mem_at 0 rfl) lv3 (show tyOk Try.prog 23 false 1 = true from by decide +kernel))) rfl ?_
  refine op_gu rfl rfl rfl (OT.gu_mk (OT.tmp rfl)) (fun hg => by (have hg1 := hg.2; (try simp only [decide_eq_true_eq, decide_eq_false_iff_not] at hg1); exact pu_len_sl (by exact OT.gu (OT.tmp rfl) hg) Try.underlying23)) rfl ?_
  refine op_gu rfl rfl rfl (OT.gu_mk (OT.tmp rfl)) (fun hg => by (have hg1 := hg.2; (try simp only [decide_eq_true_eq, decide_eq_false_iff_not] at hg1); exact pu_leq (by exact OT.gu (OT.tmp rfl) hg) OT.const)) rfl ?_
  refine op_pure (pu_pick_and (OT.tmp rfl) (by exact OT.tmp rfl)) rfl rfl ?_
  refine op_pure (pu_move (OT.tmp rfl)) rfl rfl ?_
  refine op_gu rfl rfl rfl (OT.gu_mk (OT.tmp rfl)) (fun hg => by (have hg1 := hg.2; (try simp only [decide_eq_true_eq, decide_eq_false_iff_not] at hg1); exact pu_faddr (by exact OT.tmp rfl) (show fieldOk Try.prog 25 2 2 false 1 = true from by decide +kernel))) rfl ?_
  refine op_gu rfl rfl rfl (OT.gu_mk (OT.tmp rfl)) (fun hg => by (have hg1 := hg.2; (try simp only [decide_eq_true_eq, decide_eq_false_iff_not] at hg1); exact pu_load_blk (by exact OT.gu (OT.tmp rfl) hg) (by exact mem_at 0 rfl) lv2 (show tyOk Try.prog 22 false 1 = true from by decide +kernel))) rfl ?_
  refine op_gu rfl rfl rfl (OT.gu_mk (OT.tmp rfl)) (fun hg => by (have hg1 := hg.2; (try simp only [decide_eq_true_eq, decide_eq_false_iff_not] at hg1); exact pu_len_sl (by exact OT.gu (OT.tmp rfl) hg) Try.underlying22)) rfl ?_
  refine op_gu rfl rfl rfl (OT.gu_mk (OT.tmp rfl)) (fun hg => by (have hg1 := hg.2; (try simp only [decide_eq_true_eq, decide_eq_false_iff_not] at hg1); exact pu_leq (by exact OT.gu (OT.tmp rfl) hg) OT.const)) rfl ?_
  refine op_pure (pu_pick_and (OT.tmp rfl) (by exact OT.tmp rfl)) rfl rfl ?_
  refine op_pure (pu_assign (OT.tmp rfl)) rfl rfl ?_
  refine tr_nil ?_
  refine then_normal ?_
  refine tr_ret ?_
  exact ret_one .ret (.inl rfl) rfl () (OT.val (OT.tmp rfl) (congrArg Value.bool (rfl))) trivial (by exact picks_nil)
set_option maxRecDepth 20000 in
/-- rhizome/rhizomelaw11.awake -/
theorem awake_fn  : Ct Try.prog 7 [] ([]) Unit (fun _ => BoolT true) (fun _ => []) (fun _ => True) := by
  refine fn_intro Try.func7 rfl rfl ?_
  intro H w
  refine tr_seq ?_
  -- region 0
  refine tr_env es_nil ?_
  refine tr_region ?_
  refine op_pure (pu_assign OT.const) rfl rfl ?_
  refine tr_nil ?_
  refine then_normal ?_
  refine tr_seq ?_
  -- region 1
  refine tr_env es_nil ?_
  refine tr_region ?_
  refine op_pure (pu_build (d := kE) (v0 := (0, [], 0)) (ps := [(0, 1), (1, 1), (2, 1)]) zE (by kernel_rfl) rfl (fills_cons rfl le0 OT.const (fills_cons rfl le1 OT.const (fills_cons rfl le2 OT.const fills_nil)))) rfl rfl ?_
  refine op_pure (pu_build (d := kE) (v0 := (0, [], 0)) (ps := [(0, 1), (1, 1), (2, 1)]) zE (by kernel_rfl) rfl (fills_cons rfl le0 OT.const (fills_cons rfl le1 OT.const (fills_cons rfl le2 OT.const fills_nil)))) rfl rfl ?_
  refine op_pure (pu_build (d := kE) (v0 := (0, [], 0)) (ps := [(0, 1), (1, 1), (2, 1)]) zE (by kernel_rfl) rfl (fills_cons rfl le0 OT.const (fills_cons rfl le1 OT.const (fills_cons rfl le2 OT.const fills_nil)))) rfl rfl ?_
  refine op_acts (acts_lit (d := kE) (v0 := (0, [], 0)) (show slTy Try.prog 26 34 3 32 = true from by decide +kernel) (show tyOk Try.prog 34 true 3 = true from by decide +kernel) zE (show 3 * 3 ≤ 16777216 from by decide) (by decide) (fills_arr rfl rfl (by decide) (OT.tmp rfl) (fills_arr rfl rfl (by decide) (OT.tmp rfl) (fills_arr rfl rfl (by decide) (OT.tmp rfl) fills_nil)))) (List.Perm.refl _) rfl rfl (fun _ _ => ?_)
  refine tr_as 9 (T := SlT kE eW) (OT.tmp rfl) ?_
  refine op_pure (pu_assign (OT.tmp rfl)) rfl rfl ?_
  refine tr_nil ?_
  refine then_normal ?_
  refine tr_seq ?_
  -- region 2
  refine tr_env (es_cons (t := 1) (OT.tmp rfl) es_nil) ?_
  refine tr_region ?_
  refine op_acts (acts_lit (d := kS) (v0 := []) (show slTy Try.prog 22 9 1 16 = true from by decide +kernel) (show tyOk Try.prog 9 false 1 = true from by decide +kernel) zS (show 1 * 1 ≤ 16777216 from by decide) (by decide) (fills_arr rfl rfl (by decide) OT.const fills_nil)) (List.Perm.refl _) rfl rfl (fun _ _ => ?_)
  refine op_pure (pu_build (d := kA) (v0 := ([], [], [])) (ps := [(0, 1), (1, 1), (2, 1)]) zA (by kernel_rfl) rfl (fills_cons rfl la0 OT.const (fills_cons rfl la1 OT.const (fills_cons rfl la2 OT.const fills_nil)))) rfl rfl ?_
  refine op_acts (acts_lit (d := kA) (v0 := ([], [], [])) (show slTy Try.prog 23 31 3 48 = true from by decide +kernel) (show tyOk Try.prog 31 true 3 = true from by decide +kernel) zA (show 1 * 3 ≤ 16777216 from by decide) (by decide) (fills_arr rfl rfl (by decide) (OT.tmp rfl) fills_nil)) (List.Perm.refl _) rfl rfl (fun _ _ => ?_)
  refine op_pure (pu_build (d := kV) (v0 := ([], 0, [], [], [])) (ps := [(0, 1), (1, 1), (2, 1), (3, 1), (4, 1)]) zV (by kernel_rfl) rfl (fills_cons rfl lv0 OT.const (fills_cons rfl lv1 OT.const (fills_cons rfl lv2 (OT.tmp rfl) (fills_cons rfl lv3 (OT.tmp rfl) fills_nil))))) rfl rfl ?_
  refine tr_as 13 (T := kV.T vW) (OT.tmp rfl) ?_
  refine op_acts (acts_alloc (zV)) (List.Perm.refl _) rfl rfl (fun g2_4 _ => ?_)
  refine op_acts (acts_store_var (OT.tmp rfl) (OT.tmp rfl) (by exact perm_at 0 rfl) (show tyOk Try.prog 25 true 5 = true from by decide +kernel)) (by exact perm_at 0 rfl) rfl rfl (fun _ _ => ?_)
  refine tr_nil ?_
  refine then_normal ?_
  refine tr_seq ?_
  -- region 3
  refine tr_env (es_cons (t := 1) (OT.tmp rfl) (es_cons (t := 2) (OT.tmp rfl) es_nil)) ?_
  refine tr_region ?_
  refine op_pure (pu_load_var (OT.tmp rfl) (by exact mem_at 0 rfl) (show tyOk Try.prog 25 true 5 = true from by decide +kernel)) rfl rfl ?_
  refine op_pure (pu_move (OT.tmp rfl)) rfl rfl ?_
  refine op_acts (acts_call (Result_fn vW eW (show (1 : Nat) ≤ maxLen from by decide) (show (1 : Nat) ≤ maxLen from by decide) (by decide)) (show enters Try.prog 10 = true from by decide +kernel) (OTs.cons (OT.tmp rfl) (OTs.cons (OT.tmp rfl) OTs.nil)) (List.Perm.refl _)) (List.Perm.refl _) rfl rfl (fun r3_2 hr3_2 => ?_)
  refine op_pure (pu_move (OT.tmp rfl)) rfl rfl ?_
  refine op_pure (pu_extract (OT.tmp rfl) rfl) rfl rfl ?_
  refine op_pure (pu_extract (OT.tmp rfl) rfl) rfl rfl ?_
  refine op_pure (pu_extract (OT.tmp rfl) rfl) rfl rfl ?_
  refine op_pure (pu_assign (OT.tmp rfl)) rfl rfl ?_
  refine op_pure (pu_assign (OT.tmp rfl)) rfl rfl ?_
  refine op_pure (pu_assign (OT.tmp rfl)) rfl rfl ?_
  refine tr_nil ?_
  refine then_normal ?_
  refine tr_seq ?_
  -- region 4
  refine tr_env (es_cons (t := 3) (OT.tmp rfl) (es_cons (t := 4) (OT.tmp rfl) (es_cons (t := 5) (OT.tmp rfl) es_nil))) ?_
  obtain rfl := awake_law hr3_2
  refine tr_region ?_
  refine op_pure (pu_move (OT.tmp rfl)) rfl rfl ?_
  refine op_pure (pu_eql (OT.tmp rfl) OT.const) rfl rfl ?_
  refine op_pure (pu_move (OT.tmp rfl)) rfl rfl ?_
  refine op_gu rfl rfl rfl (OT.gu_mk (OT.tmp rfl)) (fun hg => by (have hg1 := hg.2; (try simp only [decide_eq_true_eq, decide_eq_false_iff_not] at hg1); exact pu_move (by exact OT.tmp rfl))) rfl ?_
  refine op_gu rfl rfl rfl (OT.gu_mk (OT.tmp rfl)) (fun hg => by (have hg1 := hg.2; (try simp only [decide_eq_true_eq, decide_eq_false_iff_not] at hg1); exact pu_len_sl (by exact OT.gu (OT.tmp rfl) hg) Try.underlying35)) rfl ?_
  refine op_gu rfl rfl rfl (OT.gu_mk (OT.tmp rfl)) (fun hg => by (have hg1 := hg.2; (try simp only [decide_eq_true_eq, decide_eq_false_iff_not] at hg1); exact pu_eql (by exact OT.gu (OT.tmp rfl) hg) OT.const)) rfl ?_
  refine op_pure (pu_pick_and (OT.tmp rfl) (by exact OT.tmp rfl)) rfl rfl ?_
  refine op_pure (pu_move (OT.tmp rfl)) rfl rfl ?_
  refine op_gu rfl rfl rfl (OT.gu_mk (OT.tmp rfl)) (fun hg => by (have hg1 := hg.2; (try simp only [decide_eq_true_eq, decide_eq_false_iff_not] at hg1); exact pu_move (by exact OT.tmp rfl))) rfl ?_
  refine op_gu_acts () rfl rfl rfl (OT.gu_mk (OT.tmp rfl)) (fun hg => by (have hg1 := hg.2; (try simp only [decide_eq_true_eq, decide_eq_false_iff_not] at hg1); exact acts_lit (d := kI) (v0 := 0) (show slTy Try.prog 36 3 1 8 = true from by decide +kernel) (show tyOk Try.prog 3 false 1 = true from by decide +kernel) zI (show 2 * 1 ≤ 16777216 from by decide) (by decide) (fills_arr rfl rfl (by decide) OT.const (fills_arr rfl rfl (by decide) OT.const fills_nil)))) rfl (fun _ _ => ?_)
  refine op_gu_acts () rfl rfl rfl (OT.gu_mk (OT.tmp rfl)) (fun hg => by (have hg1 := hg.2; (try simp only [decide_eq_true_eq, decide_eq_false_iff_not] at hg1); exact acts_call (Ints_fn [2, 1] [2, 1] (by decide)) (show enters Try.prog 12 = true from by decide +kernel) (OTs.cons (by exact OT.gu (OT.tmp rfl) hg) (OTs.cons (by exact OT.gu (OT.tmp rfl) hg) OTs.nil)) (List.Perm.refl _))) rfl (fun _ _ => ?_)
  refine op_pure (pu_pick_and (OT.tmp rfl) (by exact OT.tmp rfl)) rfl rfl ?_
  refine op_pure (pu_move (OT.tmp rfl)) rfl rfl ?_
  refine op_gu rfl rfl rfl (OT.gu_mk (OT.tmp rfl)) (fun hg => by (have hg1 := hg.2; (try simp only [decide_eq_true_eq, decide_eq_false_iff_not] at hg1); exact pu_move (by exact OT.tmp rfl))) rfl ?_
  refine op_gu rfl rfl rfl (OT.gu_mk (OT.tmp rfl)) (fun hg => by (have hg1 := hg.2; (try simp only [decide_eq_true_eq, decide_eq_false_iff_not] at hg1); exact pu_index (by exact OT.gu (OT.tmp rfl) hg) OT.const Try.underlying35 (show tyOk Try.prog 45 false 1 = true from by decide +kernel) (by omega) (by (simp; done)))) rfl ?_
  refine op_gu rfl rfl rfl (OT.gu_mk (OT.tmp rfl)) (fun hg => by (have hg1 := hg.2; (try simp only [decide_eq_true_eq, decide_eq_false_iff_not] at hg1); exact pu_load (by exact OT.gu (OT.tmp rfl) hg) (show tyOk Try.prog 45 false 1 = true from by decide +kernel))) rfl ?_
  refine op_gu rfl rfl rfl (OT.gu_mk (OT.tmp rfl)) (fun hg => by (have hg1 := hg.2; (try simp only [decide_eq_true_eq, decide_eq_false_iff_not] at hg1); exact pu_index (by exact OT.gu (OT.tmp rfl) hg) OT.const Try.underlying45 (show tyOk Try.prog 3 false 1 = true from by decide +kernel) (by omega) (by decide))) rfl ?_
  refine op_gu rfl rfl rfl (OT.gu_mk (OT.tmp rfl)) (fun hg => by (have hg1 := hg.2; (try simp only [decide_eq_true_eq, decide_eq_false_iff_not] at hg1); exact pu_load (by exact OT.gu (OT.tmp rfl) hg) (show tyOk Try.prog 3 false 1 = true from by decide +kernel))) rfl ?_
  refine op_gu rfl rfl rfl (OT.gu_mk (OT.tmp rfl)) (fun hg => by (have hg1 := hg.2; (try simp only [decide_eq_true_eq, decide_eq_false_iff_not] at hg1); exact pu_eql (by exact OT.gu (OT.tmp rfl) hg) OT.const)) rfl ?_
  refine op_pure (pu_pick_and (OT.tmp rfl) (by exact OT.tmp rfl)) rfl rfl ?_
  refine op_pure (pu_assign (OT.tmp rfl)) rfl rfl ?_
  refine tr_nil ?_
  refine then_normal ?_
  refine tr_ret ?_
  exact ret_one .ret (.inl rfl) rfl () (OT.val (OT.tmp rfl) (congrArg Value.bool (rfl))) trivial (by exact picks_nil)
set_option maxRecDepth 20000 in
/-- rhizome/rhizomelaw11.JoinGreat -/
theorem JoinGreat_fn (x y : Int) : Ct Try.prog 5 [I64 x, I64 y] ([]) Unit (fun _ => BoolT true) (fun _ => []) (fun _ => True) := by
  refine fn_intro Try.func5 rfl rfl ?_
  intro H w
  refine tr_seq ?_
  -- region 0
  refine tr_env (es_cons (t := 0) (OT.tmp rfl) (es_cons (t := 1) (OT.tmp rfl) es_nil)) ?_
  refine tr_region ?_
  refine op_pure (pu_assign OT.const) rfl rfl ?_
  refine tr_nil ?_
  refine then_normal ?_
  refine tr_seq ?_
  refine tr_seq ?_
  -- region 1
  refine tr_env (es_cons (t := 0) (OT.tmp rfl) (es_cons (t := 1) (OT.tmp rfl) es_nil)) ?_
  refine tr_region ?_
  refine op_acts (acts_call awake_fn (show enters Try.prog 7 = true from by decide +kernel) OTs.nil (List.Perm.refl _)) (List.Perm.refl _) rfl rfl (fun _ _ => ?_)
  refine op_pure (pu_not (OT.tmp rfl)) rfl rfl ?_
  refine tr_nil ?_
  refine then_normal ?_
  refine tr_cond (OT.tmp rfl) (fun c13 => ?_) (fun c13 => ?_)
  · skip
    exact absurd c13 (by simp) --done
  · skip
    refine tr_skip ?_
    refine then_normal ?_
    refine tr_seq ?_
    -- region 3
    refine tr_env (es_cons (t := 0) (OT.tmp rfl) (es_cons (t := 1) (OT.tmp rfl) es_nil)) ?_
    have hu := u64_mod x 60 (by omega) (by omega)
    have hv := u64_mod y 60 (by omega) (by omega)
    refine tr_region ?_
    refine op_pure (pu_move (OT.tmp rfl)) rfl rfl ?_
    refine op_pure (pu_convert (OT.tmp rfl) Try.underlying3 Try.underlying32) rfl rfl ?_
    refine op_pure (pu_rem' (OT.tmp rfl) OT.const (by omega) (by omega)) rfl rfl ?_
    refine op_pure (pu_convert' (OT.tmp rfl) Try.underlying32 Try.underlying3 (by omega) (by omega) rfl) rfl rfl ?_
    refine op_pure (pu_add' (OT.tmp rfl) OT.const (by omega)) rfl rfl ?_
    refine op_pure (pu_move (OT.tmp rfl)) rfl rfl ?_
    refine op_pure (pu_convert (OT.tmp rfl) Try.underlying3 Try.underlying32) rfl rfl ?_
    refine op_pure (pu_rem' (OT.tmp rfl) OT.const (by omega) (by omega)) rfl rfl ?_
    refine op_pure (pu_convert' (OT.tmp rfl) Try.underlying32 Try.underlying3 (by omega) (by omega) rfl) rfl rfl ?_
    refine op_pure (pu_add' (OT.tmp rfl) OT.const (by omega)) rfl rfl ?_
    refine op_pure (pu_assign (OT.tmp rfl)) rfl rfl ?_
    refine op_pure (pu_assign (OT.tmp rfl)) rfl rfl ?_
    refine tr_nil ?_
    refine then_normal ?_
    refine tr_seq ?_
    -- region 4
    refine tr_env (es_cons (t := 0) (OT.tmp rfl) (es_cons (t := 1) (OT.tmp rfl) es_nil)) ?_
    obtain ⟨n, hn⟩ : ∃ n : Nat, IntKind.u64.wrap x % 60 + 1 = n := ⟨(IntKind.u64.wrap x % 60 + 1).toNat, by omega⟩
    obtain ⟨m, hm⟩ : ∃ m : Nat, IntKind.u64.wrap y % 60 + 1 = m := ⟨(IntKind.u64.wrap y % 60 + 1).toNat, by omega⟩
    rw [hn, hm]
    have hn0 : 0 < n := by omega
    have hm0 : 0 < m := by omega
    have hn60 : n ≤ 60 := by omega
    have hm60 : m ≤ 60 := by omega
    refine tr_region ?_
    refine op_pure (pu_assign OT.const) rfl rfl ?_
    refine tr_nil ?_
    refine then_normal ?_
    refine tr_seq ?_
    refine tr_seq ?_
    -- region 5
    refine tr_env (es_cons (t := 0) (OT.tmp rfl) (es_cons (t := 1) (OT.tmp rfl) (es_cons (t := 5) (OT.tmp rfl) es_nil))) ?_
    refine tr_nilItem 34 kE ?_
    refine tr_region ?_
    refine op_pure (pu_assign OT.const) rfl rfl ?_
    refine tr_nil ?_
    refine then_normal ?_
    refine tr_block ?_
    refine tr_loopK (σ := Nat × Value) (es_cons (t := 0) (OT.tmp rfl) (es_cons (t := 1) (OT.tmp rfl) es_nil)) (fun s => [(6, I64 (s.1 : Int)), (5, IsV s.2)]) (fun s => [OwnI 34 kE s.2 (edA s.1 [97])]) (fun s => s.1 ≤ n) (fun s => n - s.1) (0, nilS) (Nat.zero_le _) ?_ (own_picks (by repeat (first | exact picks_nil | refine picks_cons 0 rfl ?_ | refine picks_cons 1 rfl ?_ | refine picks_cons 2 rfl ?_ | refine picks_cons 3 rfl ?_ | refine picks_cons 4 rfl ?_ | refine picks_cons 5 rfl ?_ | refine picks_cons 6 rfl ?_ | refine picks_cons 7 rfl ?_ | refine picks_cons 8 rfl ?_))) ?_
    · exact (es_cons (t := 6) (by exact OT.tmp rfl) (es_cons (t := 5) (by exact OT.tmp rfl) es_nil))
    · rintro ⟨k, va⟩ hk
      dsimp only at hk ⊢
      refine tr_seq ?_
      refine tr_seq ?_
      -- region 6
      refine tr_env (es_cons (t := 0) (OT.tmp rfl) (es_cons (t := 1) (OT.tmp rfl) (es_cons (t := 5) (OT.tmp rfl) (es_cons (t := 6) (OT.tmp rfl) es_nil)))) ?_
      refine tr_region ?_
      refine op_pure (pu_move (OT.tmp rfl)) rfl rfl ?_
      refine op_pure (pu_move (OT.tmp rfl)) rfl rfl ?_
      refine op_pure (pu_lss (OT.tmp rfl) (OT.tmp rfl)) rfl rfl ?_
      refine tr_nil ?_
      refine then_normal ?_
      refine tr_cond (OT.tmp rfl) (fun c26 => ?_) (fun c26 => ?_)
      · skip
        refine tr_skip ?_
        refine then_normal ?_
        refine tr_seq ?_
        refine tr_block ?_
        -- region 8
        refine tr_env (es_cons (t := 0) (OT.tmp rfl) (es_cons (t := 1) (OT.tmp rfl) (es_cons (t := 5) (OT.tmp rfl) (es_cons (t := 6) (OT.tmp rfl) es_nil)))) ?_
        have hl1 := edA_len k [97]
        refine tr_region ?_
        refine op_pure (pu_move (OT.tmp rfl)) rfl rfl ?_
        refine op_pure (pu_move (OT.tmp rfl)) rfl rfl ?_
        refine op_pure (pu_add' (OT.tmp rfl) OT.const (by omega)) rfl rfl ?_
        refine op_pure (pu_build (d := kE) (v0 := (0, [], 0)) (ps := [(0, 1), (1, 1), (2, 1)]) zE (by kernel_rfl) rfl (fills_cons rfl le0 OT.const (fills_cons rfl le1 OT.const (fills_cons rfl le2 (OT.tmp rfl) fills_nil)))) rfl rfl ?_
        refine op_acts (acts_lit (d := kE) (v0 := (0, [], 0)) (show slTy Try.prog 26 34 3 32 = true from by decide +kernel) (show tyOk Try.prog 34 true 3 = true from by decide +kernel) zE (show 1 * 3 ≤ 16777216 from by decide) (by decide) (fills_arr rfl rfl (by decide) (OT.tmp rfl) fills_nil)) (List.Perm.refl _) rfl rfl (fun _ _ => ?_)
        refine op_acts (acts_append (OT.tmp rfl) (by exact perm_at 0 rfl) (OT.tmp rfl) (show slTy Try.prog 26 34 3 32 = true from by decide +kernel) (by (simp; omega)) (by (simp [maxLen]; omega))) (by exact perm_at 0 rfl) rfl rfl (fun v8_5 _ => ?_)
        refine op_pure (pu_assign (OT.tmp rfl)) rfl rfl ?_
        refine tr_nil ?_
        refine block_normal ?_
        refine then_normal ?_
        -- region 7
        refine tr_env (es_cons (t := 0) (OT.tmp rfl) (es_cons (t := 1) (OT.tmp rfl) (es_cons (t := 5) (OT.tmp rfl) (es_cons (t := 6) (OT.tmp rfl) es_nil)))) ?_
        refine tr_region ?_
        refine op_pure (pu_move (OT.tmp rfl)) rfl rfl ?_
        refine op_pure (pu_add' (OT.tmp rfl) OT.const (by omega)) rfl rfl ?_
        refine op_pure (pu_assign (OT.tmp rfl)) rfl rfl ?_
        refine tr_nil ?_
        refine then_normal ?_
        exact tr_again (k + 1, v8_5) (by show k + 1 ≤ n; simp only [decide_eq_true_eq] at c26; omega) (by show n - (k + 1) < n - k; simp only [decide_eq_true_eq] at c26; omega) (es_append (es_cons (t := 6) (by exact OT.tmp rfl) (es_cons (t := 5) (by exact OT.tmp rfl) es_nil)) (es_cons (t := 0) (OT.tmp rfl) (es_cons (t := 1) (OT.tmp rfl) es_nil))) (own_picks (by rw [edA_snoc]; exact (by repeat (first | exact picks_nil | refine picks_cons 0 rfl ?_ | refine picks_cons 1 rfl ?_ | refine picks_cons 2 rfl ?_ | refine picks_cons 3 rfl ?_ | refine picks_cons 4 rfl ?_ | refine picks_cons 5 rfl ?_ | refine picks_cons 6 rfl ?_ | refine picks_cons 7 rfl ?_ | refine picks_cons 8 rfl ?_))))
      · skip
        refine tr_exit ?_
        refine then_exit ?_
        refine then_exit ?_
        refine block_hit ?_
        refine then_normal ?_
        refine tr_seq ?_
        refine tr_seq ?_
        -- region 9
        refine tr_env (es_cons (t := 0) (OT.tmp rfl) (es_cons (t := 1) (OT.tmp rfl) (es_cons (t := 5) (OT.tmp rfl) es_nil))) ?_
        obtain rfl : k = n := by simp only [decide_eq_false_iff_not] at c26; omega
        refine tr_region ?_
        refine op_pure (pu_assign OT.const) rfl rfl ?_
        refine tr_nil ?_
        refine then_normal ?_
        refine tr_block ?_
        refine tr_loopK (σ := Nat × Value) (es_cons (t := 0) (OT.tmp rfl) (es_cons (t := 1) (OT.tmp rfl) es_nil)) (fun s => [(7, I64 (s.1 : Int)), (5, IsV s.2)]) (fun s => [OwnI 34 kE s.2 (edA k [97] ++ edA s.1 [98])]) (fun s => s.1 ≤ m) (fun s => m - s.1) (0, va) (Nat.zero_le _) ?_ (own_picks (by rw [show edA 0 [98] = [] from rfl, List.append_nil]; exact picks_cons 0 rfl picks_nil)) ?_
        · exact (es_cons (t := 7) (by exact OT.tmp rfl) (es_cons (t := 5) (by exact OT.tmp rfl) es_nil))
        · rintro ⟨j, vb⟩ hj
          dsimp only at hj ⊢
          refine tr_seq ?_
          refine tr_seq ?_
          -- region 10
          refine tr_env (es_cons (t := 0) (OT.tmp rfl) (es_cons (t := 1) (OT.tmp rfl) (es_cons (t := 5) (OT.tmp rfl) (es_cons (t := 7) (OT.tmp rfl) es_nil)))) ?_
          refine tr_region ?_
          refine op_pure (pu_move (OT.tmp rfl)) rfl rfl ?_
          refine op_pure (pu_move (OT.tmp rfl)) rfl rfl ?_
          refine op_pure (pu_lss (OT.tmp rfl) (OT.tmp rfl)) rfl rfl ?_
          refine tr_nil ?_
          refine then_normal ?_
          refine tr_cond (OT.tmp rfl) (fun c37 => ?_) (fun c37 => ?_)
          · skip
            refine tr_skip ?_
            refine then_normal ?_
            refine tr_seq ?_
            refine tr_block ?_
            -- region 12
            refine tr_env (es_cons (t := 0) (OT.tmp rfl) (es_cons (t := 1) (OT.tmp rfl) (es_cons (t := 5) (OT.tmp rfl) (es_cons (t := 7) (OT.tmp rfl) es_nil)))) ?_
            have hl1 := edA_len k [97]
            have hl2 := edA_len j [98]
            refine tr_region ?_
            refine op_pure (pu_move (OT.tmp rfl)) rfl rfl ?_
            refine op_pure (pu_move (OT.tmp rfl)) rfl rfl ?_
            refine op_pure (pu_add' (OT.tmp rfl) OT.const (by omega)) rfl rfl ?_
            refine op_pure (pu_build (d := kE) (v0 := (0, [], 0)) (ps := [(0, 1), (1, 1), (2, 1)]) zE (by kernel_rfl) rfl (fills_cons rfl le0 OT.const (fills_cons rfl le1 OT.const (fills_cons rfl le2 (OT.tmp rfl) fills_nil)))) rfl rfl ?_
            refine op_acts (acts_lit (d := kE) (v0 := (0, [], 0)) (show slTy Try.prog 26 34 3 32 = true from by decide +kernel) (show tyOk Try.prog 34 true 3 = true from by decide +kernel) zE (show 1 * 3 ≤ 16777216 from by decide) (by decide) (fills_arr rfl rfl (by decide) (OT.tmp rfl) fills_nil)) (List.Perm.refl _) rfl rfl (fun _ _ => ?_)
            refine op_acts (acts_append (OT.tmp rfl) (by exact perm_at 0 rfl) (OT.tmp rfl) (show slTy Try.prog 26 34 3 32 = true from by decide +kernel) (by (simp; omega)) (by (simp [maxLen]; omega))) (by exact perm_at 0 rfl) rfl rfl (fun v12_5 _ => ?_)
            refine op_pure (pu_assign (OT.tmp rfl)) rfl rfl ?_
            refine tr_nil ?_
            refine block_normal ?_
            refine then_normal ?_
            -- region 11
            refine tr_env (es_cons (t := 0) (OT.tmp rfl) (es_cons (t := 1) (OT.tmp rfl) (es_cons (t := 5) (OT.tmp rfl) (es_cons (t := 7) (OT.tmp rfl) es_nil)))) ?_
            refine tr_region ?_
            refine op_pure (pu_move (OT.tmp rfl)) rfl rfl ?_
            refine op_pure (pu_add' (OT.tmp rfl) OT.const (by omega)) rfl rfl ?_
            refine op_pure (pu_assign (OT.tmp rfl)) rfl rfl ?_
            refine tr_nil ?_
            refine then_normal ?_
            exact tr_again (j + 1, v12_5) (by show j + 1 ≤ m; simp only [decide_eq_true_eq] at c37; omega) (by show m - (j + 1) < m - j; simp only [decide_eq_true_eq] at c37; omega) (es_append (es_cons (t := 7) (by exact OT.tmp rfl) (es_cons (t := 5) (by exact OT.tmp rfl) es_nil)) (es_cons (t := 0) (OT.tmp rfl) (es_cons (t := 1) (OT.tmp rfl) es_nil))) (own_picks (by rw [edA_snoc, ← List.append_assoc]; exact (by repeat (first | exact picks_nil | refine picks_cons 0 rfl ?_ | refine picks_cons 1 rfl ?_ | refine picks_cons 2 rfl ?_ | refine picks_cons 3 rfl ?_ | refine picks_cons 4 rfl ?_ | refine picks_cons 5 rfl ?_ | refine picks_cons 6 rfl ?_ | refine picks_cons 7 rfl ?_ | refine picks_cons 8 rfl ?_))))
          · skip
            refine tr_exit ?_
            refine then_exit ?_
            refine then_exit ?_
            refine block_hit ?_
            refine then_normal ?_
            refine tr_seq ?_
            -- region 13
            refine tr_env (es_cons (t := 0) (OT.tmp rfl) (es_cons (t := 1) (OT.tmp rfl) (es_cons (t := 5) (OT.tmp rfl) es_nil))) ?_
            obtain rfl : j = m := by simp only [decide_eq_false_iff_not] at c37; omega
            have hl1 := edA_len k [97]
            have hl2 := edA_len j [98]
            have hgl : (edG k j).length ≤ 1000000 := by unfold edG; rw [List.length_append]; omega
            refine tr_freeze (by exact perm_at 0 rfl) 5 (OT.tmp rfl) ?_
            refine tr_region ?_
            refine op_acts (acts_lit (d := kS) (v0 := []) (show slTy Try.prog 22 9 1 16 = true from by decide +kernel) (show tyOk Try.prog 9 false 1 = true from by decide +kernel) zS (show 1 * 1 ≤ 16777216 from by decide) (by decide) (fills_arr rfl rfl (by decide) OT.const fills_nil)) (List.Perm.refl _) rfl rfl (fun _ _ => ?_)
            refine op_pure (pu_build (d := kA) (v0 := ([], [], [])) (ps := [(0, 1), (1, 1), (2, 1)]) zA (by kernel_rfl) rfl (fills_cons rfl la0 OT.const (fills_cons rfl la1 OT.const (fills_cons rfl la2 OT.const fills_nil)))) rfl rfl ?_
            refine op_pure (pu_build (d := kA) (v0 := ([], [], [])) (ps := [(0, 1), (1, 1), (2, 1)]) zA (by kernel_rfl) rfl (fills_cons rfl la0 OT.const (fills_cons rfl la1 OT.const (fills_cons rfl la2 OT.const fills_nil)))) rfl rfl ?_
            refine op_acts (acts_lit (d := kA) (v0 := ([], [], [])) (show slTy Try.prog 23 31 3 48 = true from by decide +kernel) (show tyOk Try.prog 31 true 3 = true from by decide +kernel) zA (show 2 * 3 ≤ 16777216 from by decide) (by decide) (fills_arr rfl rfl (by decide) (OT.tmp rfl) (fills_arr rfl rfl (by decide) (OT.tmp rfl) fills_nil))) (List.Perm.refl _) rfl rfl (fun _ _ => ?_)
            refine op_pure (pu_build (d := kV) (v0 := ([], 0, [], [], [])) (ps := [(0, 1), (1, 1), (2, 1), (3, 1), (4, 1)]) zV (by kernel_rfl) rfl (fills_cons rfl lv0 OT.const (fills_cons rfl lv1 OT.const (fills_cons rfl lv2 (OT.tmp rfl) (fills_cons rfl lv3 (OT.tmp rfl) fills_nil))))) rfl rfl ?_
            refine tr_as 50 (T := kV.T vG) (OT.tmp rfl) ?_
            refine op_acts (acts_alloc (zV)) (List.Perm.refl _) rfl rfl (fun g13_5 _ => ?_)
            refine op_acts (acts_store_var (OT.tmp rfl) (OT.tmp rfl) (by exact perm_at 0 rfl) (show tyOk Try.prog 25 true 5 = true from by decide +kernel)) (by exact perm_at 0 rfl) rfl rfl (fun _ _ => ?_)
            refine tr_nil ?_
            refine then_normal ?_
            refine tr_seq ?_
            -- region 14
            refine tr_env (es_cons (t := 0) (OT.tmp rfl) (es_cons (t := 1) (OT.tmp rfl) (es_cons (t := 5) (OT.tmp rfl) (es_cons (t := 8) (OT.tmp rfl) es_nil)))) ?_
            refine tr_region ?_
            refine op_pure (pu_load_var (OT.tmp rfl) (by exact mem_at 0 rfl) (show tyOk Try.prog 25 true 5 = true from by decide +kernel)) rfl rfl ?_
            refine op_pure (pu_move (OT.tmp rfl)) rfl rfl ?_
            refine op_acts (acts_call (Result_fn vG (edG k j) (show (1 : Nat) ≤ maxLen from by decide) (show (2 : Nat) ≤ maxLen from by decide) hgl) (show enters Try.prog 10 = true from by decide +kernel) (OTs.cons (OT.tmp rfl) (OTs.cons (OT.tmp rfl) OTs.nil)) (List.Perm.refl _)) (List.Perm.refl _) rfl rfl (fun r14_2 hr14_2 => ?_)
            refine op_pure (pu_move (OT.tmp rfl)) rfl rfl ?_
            refine op_pure (pu_extract (OT.tmp rfl) rfl) rfl rfl ?_
            refine op_pure (pu_extract (OT.tmp rfl) rfl) rfl rfl ?_
            refine op_pure (pu_extract (OT.tmp rfl) rfl) rfl rfl ?_
            refine op_pure (pu_assign (OT.tmp rfl)) rfl rfl ?_
            refine op_pure (pu_assign (OT.tmp rfl)) rfl rfl ?_
            refine op_pure (pu_assign (OT.tmp rfl)) rfl rfl ?_
            refine tr_nil ?_
            refine then_normal ?_
            refine tr_seq ?_
            refine tr_seq ?_
            -- region 15
            refine tr_env (es_cons (t := 0) (OT.tmp rfl) (es_cons (t := 1) (OT.tmp rfl) (es_cons (t := 9) (OT.tmp rfl) (es_cons (t := 10) (OT.tmp rfl) (es_cons (t := 11) (OT.tmp rfl) es_nil))))) ?_
            have h9 : k * j ≤ 60 * 60 := Nat.mul_le_mul hn60 hm60
            have hc : (k : Int) * (j : Int) = ((k * j : Nat) : Int) := by rw [Int.natCast_mul]
            refine tr_region ?_
            refine op_pure (pu_move (OT.tmp rfl)) rfl rfl ?_
            refine op_pure (pu_move (OT.tmp rfl)) rfl rfl ?_
            refine op_pure (pu_mul' (OT.tmp rfl) (OT.tmp rfl) (by omega)) rfl rfl ?_
            refine op_pure (pu_gtr (OT.tmp rfl) OT.const) rfl rfl ?_
            refine tr_nil ?_
            refine then_normal ?_
            refine tr_cond (OT.tmp rfl) (fun c61 => ?_) (fun c61 => ?_)
            · skip
              obtain ⟨_, rfl⟩ := (great_law hn0 hm0 hn60 hr14_2).resolve_right (fun e => e.1 (by simp only [decide_eq_true_eq] at c61; omega))
              refine tr_seq ?_
              -- region 16
              refine tr_env (es_cons (t := 9) (OT.tmp rfl) (es_cons (t := 10) (OT.tmp rfl) (es_cons (t := 11) (OT.tmp rfl) es_nil))) ?_
              refine tr_region ?_
              refine op_pure (pu_move (OT.tmp rfl)) rfl rfl ?_
              refine op_pure (pu_eql (OT.tmp rfl) OT.const) rfl rfl ?_
              refine op_pure (pu_move (OT.tmp rfl)) rfl rfl ?_
              refine op_gu rfl rfl rfl (OT.gu_mk (OT.tmp rfl)) (fun hg => by (have hg1 := hg.2; (try simp only [decide_eq_true_eq, decide_eq_false_iff_not] at hg1); exact pu_move (by exact OT.tmp rfl))) rfl ?_
              refine op_gu rfl rfl rfl (OT.gu_mk (OT.tmp rfl)) (fun hg => by (have hg1 := hg.2; (try simp only [decide_eq_true_eq, decide_eq_false_iff_not] at hg1); exact pu_len_sl (by exact OT.gu (OT.tmp rfl) hg) Try.underlying35)) rfl ?_
              refine op_gu rfl rfl rfl (OT.gu_mk (OT.tmp rfl)) (fun hg => by (have hg1 := hg.2; (try simp only [decide_eq_true_eq, decide_eq_false_iff_not] at hg1); exact pu_move (by exact OT.tmp rfl))) rfl ?_
              refine op_gu rfl rfl rfl (OT.gu_mk (OT.tmp rfl)) (fun hg => by (have hg1 := hg.2; (try simp only [decide_eq_true_eq, decide_eq_false_iff_not] at hg1); exact pu_len_sl (by exact OT.gu (OT.tmp rfl) hg) Try.underlying36)) rfl ?_
              refine op_gu rfl rfl rfl (OT.gu_mk (OT.tmp rfl)) (fun hg => by (have hg1 := hg.2; (try simp only [decide_eq_true_eq, decide_eq_false_iff_not] at hg1); exact pu_add' (by exact OT.gu (OT.tmp rfl) hg) (by exact OT.gu (OT.tmp rfl) hg) (by (simp; done)))) rfl ?_
              refine op_gu rfl rfl rfl (OT.gu_mk (OT.tmp rfl)) (fun hg => by (have hg1 := hg.2; (try simp only [decide_eq_true_eq, decide_eq_false_iff_not] at hg1); exact pu_eql (by exact OT.gu (OT.tmp rfl) hg) OT.const)) rfl ?_
              refine op_pure (pu_pick_and (OT.tmp rfl) (by exact OT.tmp rfl)) rfl rfl ?_
              refine op_pure (pu_assign (OT.tmp rfl)) rfl rfl ?_
              refine tr_nil ?_
              refine then_normal ?_
              refine tr_ret ?_
              refine then_ret ?_
              exact ret_one .ret (.inl rfl) rfl () (OT.val (OT.tmp rfl) (congrArg Value.bool (rfl))) trivial (by exact picks_nil)
            · skip
              obtain ⟨_, rfl⟩ := (great_law hn0 hm0 hn60 hr14_2).resolve_left (fun e => by simp only [decide_eq_false_iff_not] at c61; omega)
              refine tr_skip ?_
              refine then_normal ?_
              refine tr_seq ?_
              -- region 17
              refine tr_env (es_cons (t := 0) (OT.tmp rfl) (es_cons (t := 1) (OT.tmp rfl) (es_cons (t := 9) (OT.tmp rfl) (es_cons (t := 10) (OT.tmp rfl) (es_cons (t := 11) (OT.tmp rfl) es_nil))))) ?_
              refine tr_region ?_
              refine op_pure (pu_move (OT.tmp rfl)) rfl rfl ?_
              refine op_pure (pu_eql (OT.tmp rfl) OT.const) rfl rfl ?_
              refine op_pure (pu_move (OT.tmp rfl)) rfl rfl ?_
              refine op_gu rfl rfl rfl (OT.gu_mk (OT.tmp rfl)) (fun hg => by (have hg1 := hg.2; (try simp only [decide_eq_true_eq, decide_eq_false_iff_not] at hg1); exact pu_move (by exact OT.tmp rfl))) rfl ?_
              refine op_gu rfl rfl rfl (OT.gu_mk (OT.tmp rfl)) (fun hg => by (have hg1 := hg.2; (try simp only [decide_eq_true_eq, decide_eq_false_iff_not] at hg1); exact pu_len_sl (by exact OT.gu (OT.tmp rfl) hg) Try.underlying35)) rfl ?_
              refine op_gu rfl rfl rfl (OT.gu_mk (OT.tmp rfl)) (fun hg => by (have hg1 := hg.2; (try simp only [decide_eq_true_eq, decide_eq_false_iff_not] at hg1); exact pu_eql (by exact OT.gu (OT.tmp rfl) hg) OT.const)) rfl ?_
              refine op_pure (pu_pick_and (OT.tmp rfl) (by exact OT.tmp rfl)) rfl rfl ?_
              refine op_pure (pu_move (OT.tmp rfl)) rfl rfl ?_
              refine op_gu rfl rfl rfl (OT.gu_mk (OT.tmp rfl)) (fun hg => by (have hg1 := hg.2; (try simp only [decide_eq_true_eq, decide_eq_false_iff_not] at hg1); exact pu_move (by exact OT.tmp rfl))) rfl ?_
              refine op_gu rfl rfl rfl (OT.gu_mk (OT.tmp rfl)) (fun hg => by (have hg1 := hg.2; (try simp only [decide_eq_true_eq, decide_eq_false_iff_not] at hg1); exact pu_len_sl (by exact OT.gu (OT.tmp rfl) hg) Try.underlying36)) rfl ?_
              refine op_gu rfl rfl rfl (OT.gu_mk (OT.tmp rfl)) (fun hg => by (have hg1 := hg.2; (try simp only [decide_eq_true_eq, decide_eq_false_iff_not] at hg1); exact pu_eql (by exact OT.gu (OT.tmp rfl) hg) OT.const)) rfl ?_
              refine op_pure (pu_pick_and (OT.tmp rfl) (by exact OT.tmp rfl)) rfl rfl ?_
              refine op_pure (pu_move (OT.tmp rfl)) rfl rfl ?_
              refine op_gu rfl rfl rfl (OT.gu_mk (OT.tmp rfl)) (fun hg => by (have hg1 := hg.2; (try simp only [decide_eq_true_eq, decide_eq_false_iff_not] at hg1); exact pu_move (by exact OT.tmp rfl))) rfl ?_
              refine op_gu rfl rfl rfl (OT.gu_mk (OT.tmp rfl)) (fun hg => by (have hg1 := hg.2; (try simp only [decide_eq_true_eq, decide_eq_false_iff_not] at hg1); exact pu_index (by exact OT.gu (OT.tmp rfl) hg) OT.const Try.underlying36 (show tyOk Try.prog 3 false 1 = true from by decide +kernel) (by omega) (by (simp; done)))) rfl ?_
              refine op_gu rfl rfl rfl (OT.gu_mk (OT.tmp rfl)) (fun hg => by (have hg1 := hg.2; (try simp only [decide_eq_true_eq, decide_eq_false_iff_not] at hg1); exact pu_load (by exact OT.gu (OT.tmp rfl) hg) (show tyOk Try.prog 3 false 1 = true from by decide +kernel))) rfl ?_
              refine op_gu rfl rfl rfl (OT.gu_mk (OT.tmp rfl)) (fun hg => by (have hg1 := hg.2; (try simp only [decide_eq_true_eq, decide_eq_false_iff_not] at hg1); exact pu_move (by exact OT.tmp rfl))) rfl ?_
              refine op_gu rfl rfl rfl (OT.gu_mk (OT.tmp rfl)) (fun hg => by (have hg1 := hg.2; (try simp only [decide_eq_true_eq, decide_eq_false_iff_not] at hg1); exact pu_move (by exact OT.tmp rfl))) rfl ?_
              refine op_gu rfl rfl rfl (OT.gu_mk (OT.tmp rfl)) (fun hg => by (have hg1 := hg.2; (try simp only [decide_eq_true_eq, decide_eq_false_iff_not] at hg1); exact pu_mul' (by exact OT.gu (OT.tmp rfl) hg) (by exact OT.gu (OT.tmp rfl) hg) (by omega))) rfl ?_
              refine op_gu rfl rfl rfl (OT.gu_mk (OT.tmp rfl)) (fun hg => by (have hg1 := hg.2; (try simp only [decide_eq_true_eq, decide_eq_false_iff_not] at hg1); exact pu_eql (by exact OT.gu (OT.tmp rfl) hg) (by exact OT.gu (OT.tmp rfl) hg))) rfl ?_
              refine op_pure (pu_pick_and (OT.tmp rfl) (by exact OT.tmp rfl)) rfl rfl ?_
              refine op_pure (pu_assign (OT.tmp rfl)) rfl rfl ?_
              refine tr_nil ?_
              refine then_normal ?_
              refine tr_ret ?_
              exact ret_one .ret (.inl rfl) rfl () (OT.val (OT.tmp rfl) (congrArg Value.bool (by rw [hc]; simp [at']))) trivial (by exact picks_nil)
end Go.Proofs.Ytakkjljhjfkkbaa
/- A view in memory whose atoms are a row of one's own. -/
namespace Go.Gw
open Go Go.MapKept
set_option linter.unusedVariables false
set_option linter.unusedSimpArgs false
set_option linter.unusedSectionVars false
section
variable {C : Cx} {Γ : Env} {L R : List It} {α β : Type} {d : Kd α} {e : Kd β}
theorem Owns.blkx {ok : Nat → Prop} {w : World} {H : FH} {g : Nat} {t : TypeId} {x : α} {y : β} {cs : List Value} (h : Owns ok w H (BlkI g t d x :: R)) (hb : w.heap[g]? = some (.cells cs.toArray t (0, 0))) (hy : e.K H y cs) : Owns ok w H (BlkI g t e y :: R) where
  all := fun i hi => by
    rcases List.mem_cons.1 hi with rfl | hi
    · exact ⟨cs, hy, hb⟩
    · exact h.all i (List.mem_cons_of_mem _ hi)
  nodup := h.nodup
  own := h.own
/-- A variable seen in another way. -/
theorem tr_blkx {ψ : β → Prop} {g : Nat} {t : TypeId} {x : α} {φ : Act → World → Prop} (hc : ∀ H cs, d.K H x cs → ∃ y, e.K H y cs ∧ ψ y) (hp : List.Perm L (BlkI g t d x :: R)) (h : ∀ y, ψ y → Tr C Γ (BlkI g t e y :: R) φ) : Tr C Γ L φ := by
  intro a w H f s o
  have o' := o.perm hp
  obtain ⟨cs, hK, hb⟩ := o'.all _ List.mem_cons_self
  obtain ⟨y, hy, hψ⟩ := hc H cs hK
  exact h y hψ a w H f s (o'.blkx hb hy)
/-- Items frozen, and a variable that holds them seen in another way. -/
theorem tr_frzblk {J : List It} {Q : FH → Prop} {g : Nat} {t : TypeId} {x : α} {y : β} {φ : Act → World → Prop} (hf : Frz J Q) (hp : List.Perm L (J ++ BlkI g t d x :: R)) (hc : ∀ H cs, Q H → d.K H x cs → e.K H y cs) (h : Tr C Γ (BlkI g t e y :: R) φ) : Tr C Γ L φ := by
  intro a w H f s o
  obtain ⟨H', h1, h2, h3, h4, h5⟩ := hf _ w H _ s.on (o.perm hp)
  obtain ⟨cs, hK, hb⟩ := h4.all _ List.mem_cons_self
  refine h a w H' (f.mono h1) ⟨s.sub.trans h1, h2, s.os, s.tape, s.output, s.size, s.keep, fun k o e => ?_⟩ (h4.blkx hb (hc H' cs h5 hK))
  rcases h3 k o e with e | e
  · exact s.new k o e
  · rcases e with e | e
    · exact .inr (.inr e)
    · exact .inr (.inl e)
end
end Go.Gw
namespace Go.Proofs.Ytakkjljhjfkkbaa
open Go Go.Gw Go.So Go.Tu Go.Jn
set_option linter.unusedVariables false
set_option linter.unusedSimpArgs false
/-- A view, its atoms a raw header. -/
abbrev Vr := Lab × Int × List Lab × Value × Lab
abbrev kW4 : Kd (Value × Lab) := kpair kraw kS
abbrev kW3 : Kd (List Lab × Value × Lab) := kpair (ksl kS) kW4
abbrev kW2 : Kd (Int × List Lab × Value × Lab) := kpair kI kW3
abbrev kW : Kd Vr := kpair kS (kpair kI (kpair (ksl kS) (kpair kraw kS)))
theorem lw3 {t : Vr} : Lens kW kraw 3 t t.2.2.2.1 (fun y => (t.1, t.2.1, t.2.2.1, y, t.2.2.2.2)) := Lens.comp (Lens.snd (a := kS) (b := kW2)) (Lens.comp (Lens.snd (a := kI) (b := kW3)) (Lens.comp (Lens.snd (a := ksl kS) (b := kW4)) (Lens.fst (a := kraw) (b := kS))))
theorem zW : ZeroOf Try.prog 25 kW ([], 0, [], nilS, []) := ⟨.agg #[.string (bs []), .int .i64 0, nilS, nilS, .string (bs [])], by kernel_rfl, fun H => ⟨[.string (bs []), .int .i64 0, nilS, nilS, .string (bs [])], ⟨[_], [_, _, _, _], rfl, ⟨[_], [_, _, _], rfl, ⟨[_], [_, _], ⟨nilS, rfl, nil_sl⟩, ⟨[_], [_], ⟨rfl, rfl⟩, rfl, rfl⟩, rfl⟩, rfl⟩, rfl⟩, rfl⟩⟩
theorem v_raw {H : FH} {v : Vw} {cs : List Value} (h : kV.K H v cs) : ∃ y : Vr, kW.K H y cs ∧ ∃ va, y = (v.1, v.2.1, v.2.2.1, va, v.2.2.2.2) := by
  obtain ⟨c1, c2, h1, ⟨c3, c4, h3, ⟨c5, c6, h5, ⟨c7, c8, ⟨va, hc7, hva⟩, h8, rfl⟩, rfl⟩, rfl⟩, rfl⟩ := h
  subst hc7
  refine ⟨(v.1, v.2.1, v.2.2.1, va, v.2.2.2.2), ⟨c1, _, h1, ⟨c3, _, h3, ⟨c5, _, h5, ⟨[va], c8, ⟨rfl, ?_⟩, h8, rfl⟩, rfl⟩, rfl⟩, rfl⟩, va, rfl⟩
  exact (ksl kA).one (H := H) (x := v.2.2.2.1) ⟨va, rfl, hva⟩ va (by simp)
theorem raw_v {H : FH} {y : Vr} {al : List Atm} {cs : List Value} (hs : (SlT kA al).p H y.2.2.2.1) (h : kW.K H y cs) : kV.K H (y.1, y.2.1, y.2.2.1, al, y.2.2.2.2) cs := by
  obtain ⟨c1, c2, h1, ⟨c3, c4, h3, ⟨c5, c6, h5, ⟨c7, c8, ⟨hc7, _⟩, h8, rfl⟩, rfl⟩, rfl⟩, rfl⟩ := h
  subst hc7
  exact ⟨c1, _, h1, ⟨c3, _, h3, ⟨c5, _, h5, ⟨_, c8, ⟨_, rfl, hs⟩, h8, rfl⟩, rfl⟩, rfl⟩, rfl⟩
end Go.Proofs.Ytakkjljhjfkkbaa
/- Walks through the Go functions rhizomelaw09.Own, rhizomelaw11.turned, as typed contracts. -/
namespace Go.Proofs.Ytakkjljhjfkkbaa
open Go Go.Gw Go.So Go.Tu Go.Jn
set_option linter.unusedVariables false
set_option linter.unusedSimpArgs false
theorem z8 : ZeroOf Try.prog 5 (kint .u8) 0 := ⟨.int .u8 0, by kernel_rfl, fun H => rfl⟩
theorem turn_eq {b : UInt8} {t : List UInt8} (h1 : 97 ≤ b.toNat) (h2 : b.toNat ≤ 122) : unnum ((List.replicate 1 0).set 0 (IntKind.u8.wrap (97 + (IntKind.u8.wrap (IntKind.u8.wrap (at' (nums (b :: t)) 0 - 97) + 13)).tmod 26))) ++ List.drop (Int.toNat 1) (b :: t) = turnL (b :: t) := by
  have e0 : at' (nums (b :: t)) 0 = (b.toNat : Int) := rfl
  have w : ∀ x : Int, 0 ≤ x → x < 256 → IntKind.u8.wrap x = x := fun x h0 h1 => by simp [IntKind.wrap, IntKind.bits, IntKind.signed]; omega
  rw [e0, w (b.toNat - 97) (by omega) (by omega), w (b.toNat - 97 + 13) (by omega) (by omega), Int.tmod_eq_emod_of_nonneg (by omega), w _ (by omega) (by omega)]
  show UInt8.ofNat (97 + ((b.toNat : Int) - 97 + 13) % 26).toNat :: t = turnB b :: t
  unfold turnB
  congr 2
  omega
theorem turn_arg {s : Lab} (h : nameB s = true) : ∃ b t, s = b :: t ∧ 97 ≤ b.toNat ∧ b.toNat ≤ 122 ∧ t.length ≤ 15 := by
  rw [name_iff] at h
  cases s with
  | nil => simp at h
  | cons b t => exact ⟨b, t, rfl, (low_iff.1 (h.2.2 b List.mem_cons_self)).1, (low_iff.1 (h.2.2 b List.mem_cons_self)).2, by have := h.2.1; simp at this; omega⟩

set_option maxRecDepth 20000 in
/-- rhizome/rhizomelaw09.Own -/
theorem OwnO_fn (v : Vw) (ho : v.2.2.1.length ≤ 1000) (ha : v.2.2.2.1.length ≤ 1000) : Ct Try.prog 9 [kV.T v] ([]) Value (fun r => kW.T (v.1, v.2.1, v.2.2.1, r, v.2.2.2.2)) (fun r => [OwnI 31 kA r v.2.2.2.1]) (fun _ => True) := by
  refine fn_intro Try.func9 rfl rfl ?_
  intro H w
  refine tr_seq ?_
  -- region 0
  refine tr_env (es_cons (t := 0) (OT.tmp rfl) es_nil) ?_
  refine tr_region ?_
  refine op_acts (acts_box (OT.tmp rfl)) (List.Perm.refl _) rfl rfl (fun g0_0 _ => ?_)
  refine op_acts (acts_alloc (zW)) (List.Perm.refl _) rfl rfl (fun g0_1 _ => ?_)
  refine tr_nil ?_
  refine then_normal ?_
  refine tr_seq ?_
  -- region 1
  refine tr_env (es_cons (t := 1) (OT.tmp rfl) (es_cons (t := 2) (OT.tmp rfl) es_nil)) ?_
  refine tr_region ?_
  refine op_acts (acts_lit_own (d := kS) (v0 := []) (show slTy Try.prog 22 9 1 16 = true from by decide +kernel) (show tyOk Try.prog 9 false 1 = true from by decide +kernel) zS (show 0 * 1 ≤ 16777216 from by decide) (by decide) fills_nil) (List.Perm.refl _) rfl rfl (fun v1_0 _ => ?_)
  refine op_pure (pu_faddr (OT.tmp rfl) (show fieldOk Try.prog 25 2 2 false 1 = true from by decide +kernel)) rfl rfl ?_
  refine op_pure (pu_load_blk (OT.tmp rfl) (by exact mem_at 2 rfl) lv2 (show tyOk Try.prog 22 false 1 = true from by decide +kernel)) rfl rfl ?_
  refine op_acts (acts_append (OT.tmp rfl) (by exact perm_at 0 rfl) (OT.tmp rfl) (show slTy Try.prog 22 9 1 16 = true from by decide +kernel) (by (simp; omega)) (by (simp [maxLen]; omega))) (by exact perm_at 0 rfl) rfl rfl (fun v1_3 _ => ?_)
  refine op_pure (pu_faddr (OT.tmp rfl) (show fieldOk Try.prog 25 2 2 false 1 = true from by decide +kernel)) rfl rfl ?_
  refine tr_freeze (by exact perm_at 0 rfl) 6 (OT.tmp rfl) ?_
  refine op_acts (acts_store_blk (OT.tmp rfl) (OT.tmp rfl) (by exact perm_at 1 rfl) lv2 (show tyOk Try.prog 22 false 1 = true from by decide +kernel)) (by exact perm_at 1 rfl) rfl rfl (fun _ _ => ?_)
  refine tr_nil ?_
  refine then_normal ?_
  refine tr_seq ?_
  -- region 2
  refine tr_env (es_cons (t := 1) (OT.tmp rfl) (es_cons (t := 2) (OT.tmp rfl) es_nil)) ?_
  refine tr_region ?_
  refine op_acts (acts_lit_own (d := kA) (v0 := ([], [], [])) (show slTy Try.prog 23 31 3 48 = true from by decide +kernel) (show tyOk Try.prog 31 true 3 = true from by decide +kernel) zA (show 0 * 3 ≤ 16777216 from by decide) (by decide) fills_nil) (List.Perm.refl _) rfl rfl (fun v2_0 _ => ?_)
  refine op_pure (pu_faddr (OT.tmp rfl) (show fieldOk Try.prog 25 3 3 false 1 = true from by decide +kernel)) rfl rfl ?_
  refine op_pure (pu_load_blk (OT.tmp rfl) (by exact mem_at 1 rfl) lv3 (show tyOk Try.prog 23 false 1 = true from by decide +kernel)) rfl rfl ?_
  refine op_acts (acts_append (OT.tmp rfl) (by exact perm_at 0 rfl) (OT.tmp rfl) (show slTy Try.prog 23 31 3 48 = true from by decide +kernel) (by (simp; omega)) (by (simp [maxLen]; omega))) (by exact perm_at 0 rfl) rfl rfl (fun v2_3 _ => ?_)
  refine op_pure (pu_faddr (OT.tmp rfl) (show fieldOk Try.prog 25 3 3 false 1 = true from by decide +kernel)) rfl rfl ?_
  refine tr_blkx (ψ := fun y => ∃ va, y = (v.1, v.2.1, v.2.2.1, va, v.2.2.2.2)) (fun H cs h => v_raw h) (by exact perm_at 1 rfl) ?_
  rintro _ ⟨va, rfl⟩
  refine tr_fact (mem_at 1 rfl) own_cell fun hone => ?_
  refine op_acts (acts_store_rawf (OT.tmp rfl) (OT.tmp rfl) (by assumption) (by exact perm_at 0 rfl) lw3 (show tyOk Try.prog 23 false 1 = true from by decide +kernel)) (by exact perm_at 0 rfl) rfl rfl (fun _ _ => ?_)
  refine tr_nil ?_
  refine then_normal ?_
  refine tr_seq ?_
  -- region 3
  refine tr_env (es_cons (t := 1) (OT.tmp rfl) (es_cons (t := 2) (OT.tmp rfl) es_nil)) ?_
  refine tr_region ?_
  refine op_pure (pu_load_var (OT.tmp rfl) (by exact mem_at 0 rfl) (show tyOk Try.prog 25 true 5 = true from by decide +kernel)) rfl rfl ?_
  refine op_acts (acts_store_var (OT.tmp rfl) (OT.tmp rfl) (by exact perm_at 2 rfl) (show tyOk Try.prog 25 true 5 = true from by decide +kernel)) (by exact perm_at 2 rfl) rfl rfl (fun _ _ => ?_)
  refine tr_nil ?_
  refine then_normal ?_
  refine tr_ret ?_
  exact ret_cell .ret (.inl rfl) rfl v2_3 (OT.tmp rfl) (by exact mem_at 0 rfl) (show tyOk Try.prog 25 true 5 = true from by decide +kernel) rfl trivial (by repeat (first | exact picks_nil | refine picks_cons 0 rfl ?_ | refine picks_cons 1 rfl ?_ | refine picks_cons 2 rfl ?_ | refine picks_cons 3 rfl ?_ | refine picks_cons 4 rfl ?_ | refine picks_cons 5 rfl ?_ | refine picks_cons 6 rfl ?_ | refine picks_cons 7 rfl ?_ | refine picks_cons 8 rfl ?_))
set_option maxRecDepth 20000 in
/-- rhizome/rhizomelaw11.turned -/
theorem turned_fn (s : Lab) (hs : nameB s = true) : Ct Try.prog 17 [BsT s] ([]) Unit (fun _ => BsT (turnL s)) (fun _ => []) (fun _ => True) := by
  refine fn_intro Try.func17 rfl rfl ?_
  intro H w
  obtain ⟨b, t, rfl, hb1, hb2, hbl⟩ := turn_arg hs
  refine tr_seq ?_
  -- region 0
  refine tr_env (es_cons (t := 0) (OT.tmp rfl) es_nil) ?_
  refine tr_region ?_
  refine op_pure (pu_assign OT.const) rfl rfl ?_
  refine tr_nil ?_
  refine then_normal ?_
  refine tr_seq ?_
  -- region 1
  refine tr_env (es_cons (t := 0) (OT.tmp rfl) es_nil) ?_
  apply tr_any (m := 10) (ns := [[(0, none)], [(3, some 0)], [(4, some 1)], [(5, some 2)], [(6, some 3)], [(7, some 4)], [(8, some 5)], [(9, some 6)], [(0, none)], [(11, some 8)]]) (by kernel_rfl) (by kernel_rfl) (Ts := [_, _, _, _, _, _, _, _, _, _]) rfl
  case hops =>
    refine ⟨?_, ⟨?_, ⟨?_, ⟨?_, ⟨?_, ⟨?_, ⟨?_, ⟨?_, ⟨?_, ⟨?_, trivial⟩⟩⟩⟩⟩⟩⟩⟩⟩⟩
    · exact rop_pure rfl (pu_move (OT.tmp rfl))
    · exact rop_pure rfl (pu_bs_index (OT.tmp rfl) OT.const Try.underlying9 (by omega) (by (simp; done)))
    · exact rop_pure rfl (pu_sub (OT.tmp rfl) OT.const)
    · exact rop_pure rfl (pu_add (OT.tmp rfl) OT.const)
    · exact rop_pure rfl (pu_rem (OT.tmp rfl) OT.const (by omega))
    · exact rop_pure rfl (pu_add OT.const (OT.tmp rfl))
    · exact rop_acts rfl (acts_lit (d := (kint .u8)) (v0 := 0) (show slTy Try.prog 64 5 1 1 = true from by decide +kernel) (show tyOk Try.prog 5 false 1 = true from by decide +kernel) z8 (show 1 * 1 ≤ 16777216 from by decide) (by decide) (fills_arr rfl rfl (by decide) (OT.tmp rfl) fills_nil)) (fun _ _ _ _ h => h)
    · exact rop_pure rfl (pu_bytes_bs (OT.tmp rfl) Try.underlying64 Try.underlying5 Try.underlying9)
    · exact rop_pure rfl (pu_move (OT.tmp rfl))
    · exact rop_pure rfl (pu_bs_slice_lo (OT.tmp rfl) OT.const Try.underlying9 (by omega) (by (simp; omega)))
  case h =>
    refine op_pure (pu_bs_add (OT.tmp rfl) (OT.tmp rfl) (by (simp; omega))) rfl rfl ?_
    refine op_pure (pu_assign (OT.tmp rfl)) rfl rfl ?_
    refine tr_nil ?_
    refine then_normal ?_
    refine tr_ret ?_
    exact ret_one .ret (.inl rfl) rfl () (OT.val (OT.tmp rfl) (congrArg Value.string (congrArg bs (turn_eq hb1 hb2)))) trivial (by exact picks_nil)
end Go.Proofs.Ytakkjljhjfkkbaa

/- Rows' arguments opened: bytes, structs of three and of five fields. -/
namespace Go.Gw
open Go
set_option linter.unusedVariables false
set_option linter.unusedSimpArgs false
theorem opn_bs {P : Program} {t : TypeId} (ht : P.underlying t = some .string) : Opn P t kS (fun _ => True) := fun Hh enc w fuel cs x h => by
  obtain ⟨n, rfl, _, _⟩ := DataW.trod_string ht h
  refine ⟨n.data.toList, ?_, trivial⟩
  show _ = [Value.string (bs n.data.toList)]
  rw [bs_of]
theorem opn_struct3 {P : Program} {α β γ : Type} {a : Kd α} {b : Kd β} {c : Kd γ} {g0 : α → Prop} {g1 : β → Prop} {g2 : γ → Prop} {t : TypeId} {f0 f1 f2 : Field} (ht : P.underlying t = some (.struct #[f0, f1, f2])) (h0 : Opn P f0.type a g0) (h1 : Opn P f1.type b g1) (h2 : Opn P f2.type c g2)
    (o0 : f0.offset = 0) (o1 : f1.offset = a.sz) (o2 : f2.offset = a.sz + b.sz) (s0 : P.cellsOf f0.type = a.sz) (s1 : P.cellsOf f1.type = b.sz) (s2 : P.cellsOf f2.type = c.sz) (s : P.cellsOf t = a.sz + b.sz + c.sz) : Opn P t (kpair a (kpair b c)) (fun _ => True) := fun Hh enc w fuel cs x h => by
  obtain ⟨xs, n, _, rfl, hl, hlen, hf⟩ := DataW.trod_struct ht h
  match xs, hlen with
  | [y0, y1, y2], _ =>
    have e0 := hf 0 f0 rfl
    have e1 := hf 1 f1 rfl
    have e2 := hf 2 f2 rfl
    simp only [List.getElem?_cons_zero, List.getElem?_cons_succ] at e0 e1 e2
    rw [o0, s0, List.drop_zero] at e0
    rw [o1, s1] at e1
    rw [o2, s2] at e2
    obtain ⟨u, hu, gu⟩ := h0 Hh enc w n _ _ e0
    obtain ⟨v, hv, gv⟩ := h1 Hh enc w n _ _ e1
    obtain ⟨z, hz, gz⟩ := h2 Hh enc w n _ _ e2
    refine ⟨(u, v, z), ⟨_, _, hu, ⟨_, _, hv, hz, rfl⟩, ?_⟩, trivial⟩
    rw [List.take_of_length_le (l := cs.drop (a.sz + b.sz)) (by rw [List.length_drop]; omega)]
    rw [← List.drop_drop, List.take_append_drop, List.take_append_drop]
theorem opn_struct5 {P : Program} {α β γ δ ε : Type} {a : Kd α} {b : Kd β} {c : Kd γ} {d : Kd δ} {e : Kd ε} {g0 : α → Prop} {g1 : β → Prop} {g2 : γ → Prop} {g3 : δ → Prop} {g4 : ε → Prop} {t : TypeId} {f0 f1 f2 f3 f4 : Field} (ht : P.underlying t = some (.struct #[f0, f1, f2, f3, f4])) (h0 : Opn P f0.type a g0) (h1 : Opn P f1.type b g1) (h2 : Opn P f2.type c g2) (h3 : Opn P f3.type d g3) (h4 : Opn P f4.type e g4)
    (o0 : f0.offset = 0) (o1 : f1.offset = a.sz) (o2 : f2.offset = a.sz + b.sz) (o3 : f3.offset = a.sz + b.sz + c.sz) (o4 : f4.offset = a.sz + b.sz + c.sz + d.sz) (s0 : P.cellsOf f0.type = a.sz) (s1 : P.cellsOf f1.type = b.sz) (s2 : P.cellsOf f2.type = c.sz) (s3 : P.cellsOf f3.type = d.sz) (s4 : P.cellsOf f4.type = e.sz) (s : P.cellsOf t = a.sz + b.sz + c.sz + d.sz + e.sz) : Opn P t (kpair a (kpair b (kpair c (kpair d e)))) (fun _ => True) := fun Hh enc w fuel cs x h => by
  obtain ⟨xs, n, _, rfl, hl, hlen, hf⟩ := DataW.trod_struct ht h
  match xs, hlen with
  | [y0, y1, y2, y3, y4], _ =>
    have e0 := hf 0 f0 rfl
    have e1 := hf 1 f1 rfl
    have e2 := hf 2 f2 rfl
    have e3 := hf 3 f3 rfl
    have e4 := hf 4 f4 rfl
    simp only [List.getElem?_cons_zero, List.getElem?_cons_succ] at e0 e1 e2 e3 e4
    rw [o0, s0, List.drop_zero] at e0
    rw [o1, s1] at e1
    rw [o2, s2] at e2
    rw [o3, s3] at e3
    rw [o4, s4] at e4
    obtain ⟨u, hu, _⟩ := h0 Hh enc w n _ _ e0
    obtain ⟨v, hv, _⟩ := h1 Hh enc w n _ _ e1
    obtain ⟨z, hz, _⟩ := h2 Hh enc w n _ _ e2
    obtain ⟨y, hy, _⟩ := h3 Hh enc w n _ _ e3
    obtain ⟨r, hr, _⟩ := h4 Hh enc w n _ _ e4
    refine ⟨(u, v, z, y, r), ⟨_, _, hu, ⟨_, _, hv, ⟨_, _, hz, ⟨_, _, hy, hr, rfl⟩, rfl⟩, rfl⟩, ?_⟩, trivial⟩
    have dd : ∀ i j, cs.drop (i + j) = (cs.drop i).drop j := fun i j => by rw [List.drop_drop]
    rw [List.take_of_length_le (l := cs.drop (a.sz + b.sz + c.sz + d.sz)) (by rw [List.length_drop]; omega)]
    rw [dd (a.sz + b.sz + c.sz) d.sz, List.take_append_drop, dd (a.sz + b.sz) c.sz, List.take_append_drop, dd a.sz b.sz, List.take_append_drop, List.take_append_drop]
end Go.Gw
namespace Go.Proofs.Ytakkjljhjfkkbaa
open Go Go.Gw Go.So Go.Tu Go.Jn
theorem few_args {v : Vw} {l : List Ed} (h : fitsB v l = true) : l.length ≤ 25 ∧ v.2.2.2.1.length ≤ 12 ∧ v.2.2.1.length ≤ 12 := fits_iff.1 h
end Go.Proofs.Ytakkjljhjfkkbaa
/- A row of atoms turned about; edges that come again. Plain Lean. -/
namespace Go.Jn
open Go Go.Gw Go.Tu
set_option linter.unusedVariables false
set_option linter.unusedSimpArgs false
def rotA (A : List Atm) (c : Int) (i : Nat) : Atm := at' A (((i : Int) + c) % (A.length : Int))
def rot (A : List Atm) (c : Int) (k : Nat) : List Atm := (List.range k).map (rotA A c) ++ A.drop k
theorem rot_zero {A : List Atm} {c : Int} : rot A c 0 = A := rfl
theorem rot_len {A : List Atm} {c : Int} {k : Nat} (h : k ≤ A.length) : (rot A c k).length = A.length := by
  unfold rot; rw [List.length_append, List.length_map, List.length_range, List.length_drop]; omega
theorem rot_step {A : List Atm} {c : Int} {k : Nat} (h : k < A.length) : (rot A c k).set k (rotA A c k) = rot A c (k + 1) := by
  unfold rot
  rw [List.set_append, if_neg (by simp), List.length_map, List.length_range, Nat.sub_self, List.drop_eq_getElem_cons h, List.set_cons_zero, List.range_succ, List.map_append, List.append_assoc]
  rfl
theorem rot_mem {A : List Atm} {c : Int} (h0 : 0 < A.length) (a : Atm) : a ∈ rot A c A.length ↔ a ∈ A := by
  unfold rot
  rw [List.drop_length, List.append_nil, List.mem_map]
  constructor
  · rintro ⟨i, _, rfl⟩
    have h1 := Int.emod_nonneg ((i : Int) + c) (b := (A.length : Int)) (by omega)
    have h2 := Int.emod_lt_of_pos ((i : Int) + c) (b := (A.length : Int)) (by omega)
    unfold rotA
    obtain ⟨n, hn⟩ : ∃ n : Nat, ((i : Int) + c) % (A.length : Int) = n := ⟨_, (Int.toNat_of_nonneg h1).symm⟩
    rw [hn] at h2 ⊢
    exact at_mem (by omega)
  · intro ha
    obtain ⟨j, hj, rfl⟩ := List.getElem_of_mem ha
    have h1 := Int.emod_nonneg ((j : Int) - c) (b := (A.length : Int)) (by omega)
    have h2 := Int.emod_lt_of_pos ((j : Int) - c) (b := (A.length : Int)) (by omega)
    obtain ⟨n, hn⟩ : ∃ n : Nat, ((j : Int) - c) % (A.length : Int) = n := ⟨_, (Int.toNat_of_nonneg h1).symm⟩
    refine ⟨n, List.mem_range.2 (by omega), ?_⟩
    unfold rotA
    rw [← hn, Int.emod_add_emod, Int.sub_add_cancel, Int.emod_eq_of_lt (by omega) (by omega), at'_nat hj]
theorem res_small {v : Vw} {l : List Ed} {r : List Tp × List Int × Int} (h : ResSay v l r) : Small r.1 ∧ r.2.1.length ≤ 1000000 := by
  rcases h with ⟨_, rfl⟩ | ⟨_, _, rfl⟩ | ⟨hok, hn, rfl⟩
  · exact ⟨⟨by simp, by simp⟩, by simp⟩
  · exact ⟨⟨by simp, by simp⟩, by simp⟩
  · obtain ⟨h1, h2, h3, _⟩ := rows_facts hok hn rfl
    have hs : Small (allOf v l) := ⟨by unfold allOf; rw [List.length_map]; omega, fun x hx => by unfold allOf at hx; obtain ⟨r, _, rfl⟩ := List.mem_map.1 hx; unfold proj; rw [List.length_map]; omega⟩
    refine ⟨hs.setR, ?_⟩
    unfold countsOf; rw [List.length_map]; exact hs.setR.1
/-- One step of the edges from behind. -/
theorem rev_step {l es : List Ed} {k : Nat} (h : k < l.length) (hs : ∀ e ∈ es, e ∈ l) (hd : ∀ e ∈ l.drop (l.length - k), e ∈ es) {i : Int} (hi : i = ((l.length - 1 - k : Nat) : Int)) :
    (∀ e ∈ es ++ [at' l i, at' l 0], e ∈ l) ∧ ∀ e ∈ l.drop (l.length - (k + 1)), e ∈ es ++ [at' l i, at' l 0] := by
  subst hi
  refine ⟨fun e he => ?_, fun e he => ?_⟩
  · rcases List.mem_append.1 he with h1 | h1
    · exact hs e h1
    · simp only [List.mem_cons, List.not_mem_nil, or_false] at h1
      rcases h1 with rfl | rfl
      · exact at_mem (by omega)
      · exact at_mem (k := 0) (by omega)
  · rw [show l.length - (k + 1) = l.length - 1 - k from by omega, List.drop_eq_getElem_cons (by omega : l.length - 1 - k < l.length)] at he
    rcases List.mem_cons.1 he with rfl | h1
    · rw [at'_nat (by omega)]; simp
    · rw [show l.length - 1 - k + 1 = l.length - k from by omega] at h1
      exact List.mem_append_left _ (hd e h1)
end Go.Jn
/- Walks through the Go functions rhizomelaw11.JoinTurned, as typed contracts. -/
namespace Go.Proofs.Ytakkjljhjfkkbaa
open Go Go.Gw Go.So Go.Tu Go.Jn
set_option linter.unusedVariables false
set_option linter.unusedSimpArgs false

set_option maxRecDepth 20000 in
/-- rhizome/rhizomelaw11.JoinTurned -/
theorem JoinTurned_fn (v : Vw) (l : List Ed) (by_ : Int) : Ct Try.prog 3 [kV.T v, SlT kE l, I64 by_] ([]) Unit (fun _ => BoolT true) (fun _ => []) (fun _ => True) := by
  refine fn_intro Try.func3 rfl rfl ?_
  intro H w
  refine tr_seq ?_
  -- region 0
  refine tr_env (es_cons (t := 0) (OT.tmp rfl) (es_cons (t := 1) (OT.tmp rfl) (es_cons (t := 2) (OT.tmp rfl) es_nil))) ?_
  refine tr_region ?_
  refine op_acts (acts_box (OT.tmp rfl)) (List.Perm.refl _) rfl rfl (fun g0_0 _ => ?_)
  refine op_pure (pu_assign OT.const) rfl rfl ?_
  refine tr_nil ?_
  refine then_normal ?_
  refine tr_seq ?_
  refine tr_seq ?_
  -- region 1
  refine tr_env (es_cons (t := 1) (OT.tmp rfl) (es_cons (t := 2) (OT.tmp rfl) (es_cons (t := 3) (OT.tmp rfl) es_nil))) ?_
  refine tr_region ?_
  refine op_acts (acts_call awake_fn (show enters Try.prog 7 = true from by decide +kernel) OTs.nil (List.Perm.refl _)) (List.Perm.refl _) rfl rfl (fun _ _ => ?_)
  refine op_pure (pu_not (OT.tmp rfl)) rfl rfl ?_
  refine op_pure (pu_move (OT.tmp rfl)) rfl rfl ?_
  refine op_gu rfl rfl rfl (OT.gu_mk (OT.tmp rfl)) (fun hg => by (have hg1 := hg.2; (try simp only [decide_eq_true_eq, decide_eq_false_iff_not] at hg1); exact pu_load_var (by exact OT.tmp rfl) (by exact mem_at 0 rfl) (show tyOk Try.prog 25 true 5 = true from by decide +kernel))) rfl ?_
  refine op_gu rfl rfl rfl (OT.gu_mk (OT.tmp rfl)) (fun hg => by (have hg1 := hg.2; (try simp only [decide_eq_true_eq, decide_eq_false_iff_not] at hg1); exact pu_move (by exact OT.tmp rfl))) rfl ?_
  refine op_gu_acts () rfl rfl rfl (OT.gu_mk (OT.tmp rfl)) (fun hg => by (have hg1 := hg.2; (try simp only [decide_eq_true_eq, decide_eq_false_iff_not] at hg1); exact acts_call (Fits_fn v l) (show enters Try.prog 8 = true from by decide +kernel) (OTs.cons (by exact OT.gu (OT.tmp rfl) hg) (OTs.cons (by exact OT.gu (OT.tmp rfl) hg) OTs.nil)) (List.Perm.refl _))) rfl (fun _ _ => ?_)
  refine op_gu rfl rfl rfl (OT.gu_mk (OT.tmp rfl)) (fun hg => by (have hg1 := hg.2; (try simp only [decide_eq_true_eq, decide_eq_false_iff_not] at hg1); exact pu_not (by exact OT.gu (OT.tmp rfl) hg))) rfl ?_
  refine op_pure (pu_pick_or (OT.tmp rfl) (by exact OT.tmp rfl)) rfl rfl ?_
  refine op_pure (pu_move (OT.tmp rfl)) rfl rfl ?_
  refine op_gu rfl rfl rfl (OT.gu_mk (OT.tmp rfl)) (fun hg => by (have hg1 := hg.2; (try simp only [decide_eq_true_eq, decide_eq_false_iff_not] at hg1); exact pu_faddr (by exact OT.tmp rfl) (show fieldOk Try.prog 25 3 3 false 1 = true from by decide +kernel))) rfl ?_
  refine op_gu rfl rfl rfl (OT.gu_mk (OT.tmp rfl)) (fun hg => by (have hg1 := hg.2; (try simp only [decide_eq_true_eq, decide_eq_false_iff_not] at hg1); exact pu_load_blk (by exact OT.gu (OT.tmp rfl) hg) (by exact mem_at 0 rfl) lv3 (show tyOk Try.prog 23 false 1 = true from by decide +kernel))) rfl ?_
  refine op_gu rfl rfl rfl (OT.gu_mk (OT.tmp rfl)) (fun hg => by (have hg1 := hg.2; (try simp only [decide_eq_true_eq, decide_eq_false_iff_not] at hg1); exact pu_len_sl (by exact OT.gu (OT.tmp rfl) hg) Try.underlying23)) rfl ?_
  refine op_gu rfl rfl rfl (OT.gu_mk (OT.tmp rfl)) (fun hg => by (have hg1 := hg.2; (try simp only [decide_eq_true_eq, decide_eq_false_iff_not] at hg1); exact pu_eql (by exact OT.gu (OT.tmp rfl) hg) OT.const)) rfl ?_
  refine op_pure (pu_pick_or (OT.tmp rfl) (by exact OT.tmp rfl)) rfl rfl ?_
  refine tr_nil ?_
  refine then_normal ?_
  refine tr_cond (OT.tmp rfl) (fun c30 => ?_) (fun c30 => ?_)
  · skip
    refine tr_seq ?_
    -- region 2
    refine tr_env es_nil ?_
    refine tr_region ?_
    refine op_acts (acts_call awake_fn (show enters Try.prog 7 = true from by decide +kernel) OTs.nil (List.Perm.refl _)) (List.Perm.refl _) rfl rfl (fun _ _ => ?_)
    refine op_pure (pu_assign (OT.tmp rfl)) rfl rfl ?_
    refine tr_nil ?_
    refine then_normal ?_
    refine tr_ret ?_
    refine then_ret ?_
    exact ret_one .ret (.inl rfl) rfl () (OT.val (OT.tmp rfl) (congrArg Value.bool (rfl))) trivial (by exact picks_nil)
  · skip
    have hf : fitsB v l = true := by simp only [Bool.or_eq_false_iff, Bool.not_eq_false'] at c30; exact c30.1.2
    obtain ⟨hl, ha, ho⟩ := few_args hf
    have ha0 : 0 < v.2.2.2.1.length := by simp only [Bool.or_eq_false_iff, decide_eq_false_iff_not] at c30; omega
    obtain ⟨hu0, hu1, hu2⟩ := u64_mod by_ 8 (by omega) (by omega)
    refine tr_skip ?_
    refine then_normal ?_
    refine tr_seq ?_
    -- region 3
    refine tr_env (es_cons (t := 1) (OT.tmp rfl) (es_cons (t := 2) (OT.tmp rfl) (es_cons (t := 3) (OT.tmp rfl) es_nil))) ?_
    refine tr_region ?_
    refine op_pure (pu_load_var (OT.tmp rfl) (by exact mem_at 0 rfl) (show tyOk Try.prog 25 true 5 = true from by decide +kernel)) rfl rfl ?_
    refine op_acts (acts_call (OwnO_fn _ (by omega) (by omega)) (show enters Try.prog 9 = true from by decide +kernel) (OTs.cons (OT.tmp rfl) OTs.nil) (List.Perm.refl _)) (List.Perm.refl _) rfl rfl (fun v3_1 _ => ?_)
    refine op_acts (acts_alloc (zW)) (List.Perm.refl _) rfl rfl (fun g3_2 _ => ?_)
    refine op_acts (acts_store_var (OT.tmp rfl) (OT.tmp rfl) (by exact perm_at 0 rfl) (show tyOk Try.prog 25 true 5 = true from by decide +kernel)) (by exact perm_at 0 rfl) rfl rfl (fun _ _ => ?_)
    refine tr_nil ?_
    refine then_normal ?_
    refine tr_seq ?_
    refine tr_seq ?_
    -- region 4
    refine tr_env (es_cons (t := 1) (OT.tmp rfl) (es_cons (t := 2) (OT.tmp rfl) (es_cons (t := 3) (OT.tmp rfl) (es_cons (t := 7) (OT.tmp rfl) es_nil)))) ?_
    refine tr_region ?_
    refine op_pure (pu_faddr (OT.tmp rfl) (show fieldOk Try.prog 25 3 3 false 1 = true from by decide +kernel)) rfl rfl ?_
    refine op_pure (pu_load_rawf (OT.tmp rfl) (by exact mem_at 0 rfl) lw3 (show tyOk Try.prog 23 false 1 = true from by decide +kernel)) rfl rfl ?_
    refine op_pure (pu_len_own (OT.tmp rfl) (by exact mem_at 1 rfl) Try.underlying23) rfl rfl ?_
    refine op_pure (pu_move OT.const) rfl rfl ?_
    refine tr_nil ?_
    refine then_normal ?_
    refine tr_block ?_
    refine tr_loopK (σ := Nat) (es_cons (t := 1) (OT.tmp rfl) (es_cons (t := 2) (OT.tmp rfl) (es_cons (t := 3) (OT.tmp rfl) (es_cons (t := 7) (OT.tmp rfl) (es_cons (t := 36) (OT.tmp rfl) es_nil))))) (fun k => [(37, I64 (k : Int))]) (fun k => [BlkI g3_2 25 kW (v.1, v.2.1, v.2.2.1, v3_1, v.2.2.2.2), OwnI 31 kA v3_1 (rot v.2.2.2.1 (IntKind.u64.wrap by_ % 8) k), BlkI g0_0 25 kV v]) (fun k => k ≤ v.2.2.2.1.length) (fun k => v.2.2.2.1.length - k) 0 (Nat.zero_le _) ?_ (own_picks (by repeat (first | exact picks_nil | refine picks_cons 0 rfl ?_ | refine picks_cons 1 rfl ?_ | refine picks_cons 2 rfl ?_ | refine picks_cons 3 rfl ?_ | refine picks_cons 4 rfl ?_ | refine picks_cons 5 rfl ?_ | refine picks_cons 6 rfl ?_ | refine picks_cons 7 rfl ?_ | refine picks_cons 8 rfl ?_))) ?_
    · exact (es_cons (t := 37) (by exact OT.tmp rfl) es_nil)
    · rintro k hk
      refine tr_seq ?_
      -- region 5
      refine tr_env (es_cons (t := 1) (OT.tmp rfl) (es_cons (t := 2) (OT.tmp rfl) (es_cons (t := 3) (OT.tmp rfl) (es_cons (t := 7) (OT.tmp rfl) (es_cons (t := 36) (OT.tmp rfl) (es_cons (t := 37) (OT.tmp rfl) es_nil)))))) ?_
      refine tr_region ?_
      refine op_pure (pu_lss (OT.tmp rfl) (OT.tmp rfl)) rfl rfl ?_
      refine tr_nil ?_
      refine then_normal ?_
      refine tr_seq ?_
      refine tr_cond (OT.tmp rfl) (fun c38 => ?_) (fun c38 => ?_)
      · skip
        refine tr_skip ?_
        refine then_normal ?_
        refine tr_seq ?_
        refine tr_block ?_
        refine tr_seq ?_
        -- region 6
        refine tr_env (es_cons (t := 1) (OT.tmp rfl) (es_cons (t := 2) (OT.tmp rfl) (es_cons (t := 3) (OT.tmp rfl) (es_cons (t := 7) (OT.tmp rfl) (es_cons (t := 36) (OT.tmp rfl) (es_cons (t := 37) (OT.tmp rfl) es_nil)))))) ?_
        have hka : k < v.2.2.2.1.length := by simp only [decide_eq_true_eq] at c38; omega
        have hst : (rot v.2.2.2.1 (IntKind.u64.wrap by_ % 8) k).set k (at' v.2.2.2.1 (((k : Int) + IntKind.u64.wrap by_ % 8) % (v.2.2.2.1.length : Int))) = rot v.2.2.2.1 (IntKind.u64.wrap by_ % 8) (k + 1) := rot_step hka
        have hrl := rot_len (A := v.2.2.2.1) (c := IntKind.u64.wrap by_ % 8) hk
        have hx0 := Int.emod_nonneg ((k : Int) + IntKind.u64.wrap by_ % 8) (b := (v.2.2.2.1.length : Int)) (by omega)
        have hx1 := Int.emod_lt_of_pos ((k : Int) + IntKind.u64.wrap by_ % 8) (b := (v.2.2.2.1.length : Int)) (by omega)
        refine tr_region ?_
        refine op_pure (pu_move (OT.tmp rfl)) rfl rfl ?_
        refine op_pure (pu_assign (OT.tmp rfl)) rfl rfl ?_
        refine tr_nil ?_
        refine then_normal ?_
        -- region 7
        refine tr_env (es_cons (t := 1) (OT.tmp rfl) (es_cons (t := 2) (OT.tmp rfl) (es_cons (t := 3) (OT.tmp rfl) (es_cons (t := 7) (OT.tmp rfl) (es_cons (t := 8) (OT.tmp rfl) (es_cons (t := 36) (OT.tmp rfl) (es_cons (t := 37) (OT.tmp rfl) es_nil))))))) ?_
        skip
        apply tr_any (m := 17) (ns := [[(7, none)], [(40, some 0)], [(8, none)], [(3, none)], [(43, some 3)], [(8, none)], [(2, none)], [(46, some 6)], [(47, some 7)], [(48, some 8)], [(45, some 5), (49, some 9)], [(3, none)], [(51, some 11)], [(52, some 12)], [(50, some 10), (53, some 13)], [(44, some 4), (54, some 14)], [(55, some 15)]]) (by kernel_rfl) (by kernel_rfl) (Ts := [_, _, _, _, _, _, _, _, _, _, _, _, _, _, _, _, _]) rfl
        case hops =>
          refine ⟨?_, ⟨?_, ⟨?_, ⟨?_, ⟨?_, ⟨?_, ⟨?_, ⟨?_, ⟨?_, ⟨?_, ⟨?_, ⟨?_, ⟨?_, ⟨?_, ⟨?_, ⟨?_, ⟨?_, trivial⟩⟩⟩⟩⟩⟩⟩⟩⟩⟩⟩⟩⟩⟩⟩⟩⟩
          · exact rop_pure rfl (pu_faddr (OT.tmp rfl) (show fieldOk Try.prog 25 3 3 false 1 = true from by decide +kernel))
          · exact rop_pure rfl (pu_load_rawf (OT.tmp rfl) (by exact mem_at 0 rfl) lw3 (show tyOk Try.prog 23 false 1 = true from by decide +kernel))
          · exact rop_pure rfl (pu_move (OT.tmp rfl))
          · exact rop_pure rfl (pu_faddr (OT.tmp rfl) (show fieldOk Try.prog 25 3 3 false 1 = true from by decide +kernel))
          · exact rop_pure rfl (pu_load_blk (OT.tmp rfl) (by exact mem_at 2 rfl) lv3 (show tyOk Try.prog 23 false 1 = true from by decide +kernel))
          · exact rop_pure rfl (pu_move (OT.tmp rfl))
          · exact rop_pure rfl (pu_move (OT.tmp rfl))
          · exact rop_pure rfl (pu_convert (OT.tmp rfl) Try.underlying3 Try.underlying32)
          · exact rop_pure rfl (pu_rem' (OT.tmp rfl) OT.const (by omega) (by omega))
          · exact rop_pure rfl (pu_convert' (OT.tmp rfl) Try.underlying32 Try.underlying3 (by omega) (by omega) rfl)
          · exact rop_pure rfl (pu_add' (OT.tmp rfl) (OT.tmp rfl) (by omega))
          · exact rop_pure rfl (pu_faddr (OT.tmp rfl) (show fieldOk Try.prog 25 3 3 false 1 = true from by decide +kernel))
          · exact rop_pure rfl (pu_load_blk (OT.tmp rfl) (by exact mem_at 2 rfl) lv3 (show tyOk Try.prog 23 false 1 = true from by decide +kernel))
          · exact rop_pure rfl (pu_len_sl (OT.tmp rfl) Try.underlying23)
          · exact rop_pure rfl (pu_rem' (OT.tmp rfl) (OT.tmp rfl) (by omega) (by omega))
          · exact rop_pure rfl (pu_index (OT.tmp rfl) (OT.tmp rfl) Try.underlying23 (show tyOk Try.prog 31 true 3 = true from by decide +kernel) (by omega) (by omega))
          · exact rop_pure rfl (pu_load (OT.tmp rfl) (show tyOk Try.prog 31 true 3 = true from by decide +kernel))
        case h =>
          refine op_pure (pu_index_own (OT.tmp rfl) (by exact mem_at 1 rfl) (OT.tmp rfl) Try.underlying23 (show tyOk Try.prog 31 true 3 = true from by decide +kernel) (by omega) (by omega)) rfl rfl ?_
          refine op_acts (acts_store_own0 (OT.tmp rfl) (OT.tmp rfl) (by exact perm_at 1 rfl) (by omega) (by omega) (show tyOk Try.prog 31 true 3 = true from by decide +kernel)) (by exact perm_at 1 rfl) rfl rfl (fun _ _ => ?_)
          refine tr_nil ?_
          refine block_normal ?_
          refine then_normal ?_
          -- region 8
          refine tr_env (es_cons (t := 1) (OT.tmp rfl) (es_cons (t := 2) (OT.tmp rfl) (es_cons (t := 3) (OT.tmp rfl) (es_cons (t := 7) (OT.tmp rfl) (es_cons (t := 36) (OT.tmp rfl) (es_cons (t := 37) (OT.tmp rfl) es_nil)))))) ?_
          refine tr_region ?_
          refine op_pure (pu_add' (OT.tmp rfl) OT.const (by omega)) rfl rfl ?_
          refine op_pure (pu_move (OT.tmp rfl)) rfl rfl ?_
          refine tr_nil ?_
          refine then_normal ?_
          exact tr_again (k + 1) (by omega) (by omega) (es_append (es_cons (t := 37) (by exact OT.tmp rfl) es_nil) (es_cons (t := 1) (OT.tmp rfl) (es_cons (t := 2) (OT.tmp rfl) (es_cons (t := 3) (OT.tmp rfl) (es_cons (t := 7) (OT.tmp rfl) (es_cons (t := 36) (OT.tmp rfl) es_nil)))))) (own_picks (by rw [← hst]; exact (by repeat (first | exact picks_nil | refine picks_cons 0 rfl ?_ | refine picks_cons 1 rfl ?_ | refine picks_cons 2 rfl ?_ | refine picks_cons 3 rfl ?_ | refine picks_cons 4 rfl ?_ | refine picks_cons 5 rfl ?_ | refine picks_cons 6 rfl ?_ | refine picks_cons 7 rfl ?_ | refine picks_cons 8 rfl ?_))))
      · skip
        refine tr_exit ?_
        refine then_exit ?_
        refine then_exit ?_
        refine block_hit ?_
        refine then_normal ?_
        refine tr_joinK (σ := Value × List Atm) (es_cons (t := 1) (OT.tmp rfl) (es_cons (t := 3) (OT.tmp rfl) (es_cons (t := 7) (OT.tmp rfl) es_nil))) (fun s => []) (fun s => [BlkI g3_2 25 kW (v.1, v.2.1, v.2.2.1, s.1, v.2.2.2.2), OwnI 31 kA s.1 s.2, BlkI g0_0 25 kV v]) (fun s => (∀ a, a ∈ s.2 ↔ a ∈ v.2.2.2.1) ∧ s.2.length ≤ 13 ∧ ((1 ≤ s.2.length ∧ s.2.length ≤ 8) ↔ (1 ≤ v.2.2.2.1.length ∧ v.2.2.2.1.length ≤ 8))) ?_ ?_
        · skip
          refine tr_seq ?_
          -- region 9
          refine tr_env (es_cons (t := 1) (OT.tmp rfl) (es_cons (t := 3) (OT.tmp rfl) (es_cons (t := 7) (OT.tmp rfl) es_nil))) ?_
          obtain rfl : k = v.2.2.2.1.length := by simp only [decide_eq_false_iff_not] at c38; omega
          have hrl := rot_len (A := v.2.2.2.1) (c := IntKind.u64.wrap by_ % 8) hk
          have hrm := rot_mem (A := v.2.2.2.1) (c := IntKind.u64.wrap by_ % 8) ha0
          refine tr_region ?_
          refine op_pure (pu_faddr (OT.tmp rfl) (show fieldOk Try.prog 25 3 3 false 1 = true from by decide +kernel)) rfl rfl ?_
          refine op_pure (pu_load_rawf (OT.tmp rfl) (by exact mem_at 0 rfl) lw3 (show tyOk Try.prog 23 false 1 = true from by decide +kernel)) rfl rfl ?_
          refine op_pure (pu_len_own (OT.tmp rfl) (by exact mem_at 1 rfl) Try.underlying23) rfl rfl ?_
          refine op_pure (pu_lss (OT.tmp rfl) OT.const) rfl rfl ?_
          refine tr_nil ?_
          refine then_normal ?_
          refine tr_cond (OT.tmp rfl) (fun c62 => ?_) (fun c62 => ?_)
          · skip
            -- region 10
            refine tr_env (es_cons (t := 1) (OT.tmp rfl) (es_cons (t := 3) (OT.tmp rfl) (es_cons (t := 7) (OT.tmp rfl) es_nil))) ?_
            apply tr_any (m := 7) (ns := [[(7, none)], [(63, some 0)], [(7, none)], [(65, some 2)], [(66, some 3)], [(67, some 4)], [(68, some 5)]]) (by kernel_rfl) (by kernel_rfl) (Ts := [_, _, _, _, _, _, _]) rfl
            case hops =>
              refine ⟨?_, ⟨?_, ⟨?_, ⟨?_, ⟨?_, ⟨?_, ⟨?_, trivial⟩⟩⟩⟩⟩⟩⟩
              · exact rop_pure rfl (pu_faddr (OT.tmp rfl) (show fieldOk Try.prog 25 3 3 false 1 = true from by decide +kernel))
              · exact rop_pure rfl (pu_load_rawf (OT.tmp rfl) (by exact mem_at 0 rfl) lw3 (show tyOk Try.prog 23 false 1 = true from by decide +kernel))
              · exact rop_pure rfl (pu_faddr (OT.tmp rfl) (show fieldOk Try.prog 25 3 3 false 1 = true from by decide +kernel))
              · exact rop_pure rfl (pu_load_rawf (OT.tmp rfl) (by exact mem_at 0 rfl) lw3 (show tyOk Try.prog 23 false 1 = true from by decide +kernel))
              · exact rop_pure rfl (pu_index_own (OT.tmp rfl) (by exact mem_at 1 rfl) OT.const Try.underlying23 (show tyOk Try.prog 31 true 3 = true from by decide +kernel) (by omega) (by omega))
              · exact rop_pure rfl (pu_load_own0 (OT.tmp rfl) (by exact mem_at 1 rfl) (by omega) (by omega) (show tyOk Try.prog 31 true 3 = true from by decide +kernel))
              · exact rop_acts rfl (acts_lit (d := kA) (v0 := ([], [], [])) (show slTy Try.prog 23 31 3 48 = true from by decide +kernel) (show tyOk Try.prog 31 true 3 = true from by decide +kernel) zA (show 1 * 3 ≤ 16777216 from by decide) (by decide) (fills_arr rfl rfl (by decide) (OT.tmp rfl) fills_nil)) (fun _ _ _ _ h => h)
            case h =>
              refine op_acts (acts_append (OT.tmp rfl) (by exact perm_at 1 rfl) (OT.tmp rfl) (show slTy Try.prog 23 31 3 48 = true from by decide +kernel) (by (simp; omega)) (by (simp [maxLen]; omega))) (by exact perm_at 1 rfl) rfl rfl (fun v10_7 _ => ?_)
              refine op_pure (pu_faddr (OT.tmp rfl) (show fieldOk Try.prog 25 3 3 false 1 = true from by decide +kernel)) rfl rfl ?_
              refine tr_fact (mem_at 0 rfl) own_cell fun hone => ?_
              refine op_acts (acts_store_rawf (OT.tmp rfl) (OT.tmp rfl) (by assumption) (by exact perm_at 1 rfl) lw3 (show tyOk Try.prog 23 false 1 = true from by decide +kernel)) (by exact perm_at 1 rfl) rfl rfl (fun _ _ => ?_)
              refine tr_nil ?_
              refine then_normal ?_
              exact tr_joined (v10_7, rot v.2.2.2.1 (IntKind.u64.wrap by_ % 8) v.2.2.2.1.length ++ [at' (rot v.2.2.2.1 (IntKind.u64.wrap by_ % 8) v.2.2.2.1.length) 0]) ⟨fun a => by rw [List.mem_append, hrm, List.mem_singleton]; exact ⟨fun h => h.elim id fun e => e ▸ (hrm _).1 (at_mem (k := 0) (by omega)), .inl⟩, by simp; omega, by simp only [decide_eq_true_eq] at c62; simp; omega⟩ (es_append es_nil (es_cons (t := 1) (OT.tmp rfl) (es_cons (t := 3) (OT.tmp rfl) (es_cons (t := 7) (OT.tmp rfl) es_nil)))) (own_picks (by repeat (first | exact picks_nil | refine picks_cons 0 rfl ?_ | refine picks_cons 1 rfl ?_ | refine picks_cons 2 rfl ?_ | refine picks_cons 3 rfl ?_ | refine picks_cons 4 rfl ?_ | refine picks_cons 5 rfl ?_ | refine picks_cons 6 rfl ?_ | refine picks_cons 7 rfl ?_ | refine picks_cons 8 rfl ?_)))
          · skip
            refine tr_skip ?_
            refine then_normal ?_
            exact tr_joined (v3_1, rot v.2.2.2.1 (IntKind.u64.wrap by_ % 8) v.2.2.2.1.length) ⟨hrm, by show (rot _ _ _).length ≤ 13; omega, by show (1 ≤ (rot _ _ _).length ∧ (rot _ _ _).length ≤ 8) ↔ _; rw [hrl]⟩ (es_append es_nil (es_cons (t := 1) (OT.tmp rfl) (es_cons (t := 3) (OT.tmp rfl) (es_cons (t := 7) (OT.tmp rfl) es_nil)))) (own_picks (by repeat (first | exact picks_nil | refine picks_cons 0 rfl ?_ | refine picks_cons 1 rfl ?_ | refine picks_cons 2 rfl ?_ | refine picks_cons 3 rfl ?_ | refine picks_cons 4 rfl ?_ | refine picks_cons 5 rfl ?_ | refine picks_cons 6 rfl ?_ | refine picks_cons 7 rfl ?_ | refine picks_cons 8 rfl ?_)))
        · rintro ⟨va, ws⟩ ⟨hws, hw13, hwl⟩
          refine tr_seq ?_
          -- region 11
          refine tr_env (es_cons (t := 1) (OT.tmp rfl) (es_cons (t := 3) (OT.tmp rfl) (es_cons (t := 7) (OT.tmp rfl) es_nil))) ?_
          replace hws : ∀ a, a ∈ ws ↔ a ∈ v.2.2.2.1 := hws
          replace hw13 : ws.length ≤ 13 := hw13
          replace hwl : (1 ≤ ws.length ∧ ws.length ≤ 8) ↔ (1 ≤ v.2.2.2.1.length ∧ v.2.2.2.1.length ≤ 8) := hwl
          refine tr_region ?_
          refine op_pure (pu_assign OT.const) rfl rfl ?_
          refine tr_nil ?_
          refine then_normal ?_
          refine tr_seq ?_
          refine tr_seq ?_
          -- region 12
          refine tr_env (es_cons (t := 1) (OT.tmp rfl) (es_cons (t := 3) (OT.tmp rfl) (es_cons (t := 7) (OT.tmp rfl) (es_cons (t := 9) (OT.tmp rfl) es_nil)))) ?_
          refine tr_nilItem 34 kE ?_
          refine tr_region ?_
          refine op_pure (pu_move (OT.tmp rfl)) rfl rfl ?_
          refine op_pure (pu_len_sl (OT.tmp rfl) Try.underlying26) rfl rfl ?_
          refine op_pure (pu_sub' (OT.tmp rfl) OT.const (by omega)) rfl rfl ?_
          refine op_pure (pu_assign (OT.tmp rfl)) rfl rfl ?_
          refine tr_nil ?_
          refine then_normal ?_
          refine tr_block ?_
          refine tr_loopK (σ := Nat × Value × List Ed) (es_cons (t := 1) (OT.tmp rfl) (es_cons (t := 3) (OT.tmp rfl) (es_cons (t := 7) (OT.tmp rfl) es_nil))) (fun s => [(10, I64 ((l.length : Int) - 1 - (s.1 : Int))), (9, IsV s.2.1)]) (fun s => [OwnI 34 kE s.2.1 s.2.2, BlkI g3_2 25 kW (v.1, v.2.1, v.2.2.1, va, v.2.2.2.2), OwnI 31 kA va ws, BlkI g0_0 25 kV v]) (fun s => s.1 ≤ l.length ∧ s.2.2.length = 2 * s.1 ∧ (∀ e ∈ s.2.2, e ∈ l) ∧ ∀ e ∈ l.drop (l.length - s.1), e ∈ s.2.2) (fun s => l.length - s.1) (0, nilS, []) ⟨Nat.zero_le _, rfl, (fun e h => by cases h), (fun e h => by rw [show l.length - (0, nilS, ([] : List Ed)).1 = l.length from rfl, List.drop_length] at h; cases h)⟩ ?_ (own_picks (by repeat (first | exact picks_nil | refine picks_cons 0 rfl ?_ | refine picks_cons 1 rfl ?_ | refine picks_cons 2 rfl ?_ | refine picks_cons 3 rfl ?_ | refine picks_cons 4 rfl ?_ | refine picks_cons 5 rfl ?_ | refine picks_cons 6 rfl ?_ | refine picks_cons 7 rfl ?_ | refine picks_cons 8 rfl ?_))) ?_
          · exact (es_cons (t := 10) (by exact OT.val (OT.tmp rfl) (congrArg (Value.int _) (by omega))) (es_cons (t := 9) (by exact OT.tmp rfl) es_nil))
          · rintro ⟨k, vb, es⟩ ⟨hk, hel, he1, he2⟩
            dsimp only at hk hel he1 he2 ⊢
            refine tr_seq ?_
            refine tr_seq ?_
            -- region 13
            refine tr_env (es_cons (t := 1) (OT.tmp rfl) (es_cons (t := 3) (OT.tmp rfl) (es_cons (t := 7) (OT.tmp rfl) (es_cons (t := 9) (OT.tmp rfl) (es_cons (t := 10) (OT.tmp rfl) es_nil))))) ?_
            refine tr_region ?_
            refine op_pure (pu_move (OT.tmp rfl)) rfl rfl ?_
            refine op_pure (pu_geq (OT.tmp rfl) OT.const) rfl rfl ?_
            refine tr_nil ?_
            refine then_normal ?_
            refine tr_cond (OT.tmp rfl) (fun c76 => ?_) (fun c76 => ?_)
            · skip
              refine tr_skip ?_
              refine then_normal ?_
              refine tr_seq ?_
              refine tr_block ?_
              -- region 15
              refine tr_env (es_cons (t := 1) (OT.tmp rfl) (es_cons (t := 3) (OT.tmp rfl) (es_cons (t := 7) (OT.tmp rfl) (es_cons (t := 9) (OT.tmp rfl) (es_cons (t := 10) (OT.tmp rfl) es_nil))))) ?_
              have hkl : k < l.length := by simp only [decide_eq_true_eq] at c76; omega
              have hst := rev_step hkl he1 he2 (i := (l.length : Int) - 1 - k) (by omega)
              apply tr_any (m := 9) (ns := [[(9, none)], [(1, none)], [(10, none)], [(80, some 1), (81, some 2)], [(82, some 3)], [(1, none)], [(84, some 5)], [(85, some 6)], [(83, some 4), (86, some 7)]]) (by kernel_rfl) (by kernel_rfl) (Ts := [_, _, _, _, _, _, _, _, _]) rfl
              case hops =>
                refine ⟨?_, ⟨?_, ⟨?_, ⟨?_, ⟨?_, ⟨?_, ⟨?_, ⟨?_, ⟨?_, trivial⟩⟩⟩⟩⟩⟩⟩⟩⟩
                · exact rop_pure rfl (pu_move (OT.tmp rfl))
                · exact rop_pure rfl (pu_move (OT.tmp rfl))
                · exact rop_pure rfl (pu_move (OT.tmp rfl))
                · exact rop_pure rfl (pu_index (OT.tmp rfl) (OT.tmp rfl) Try.underlying26 (show tyOk Try.prog 34 true 3 = true from by decide +kernel) (by omega) (by omega))
                · exact rop_pure rfl (pu_load (OT.tmp rfl) (show tyOk Try.prog 34 true 3 = true from by decide +kernel))
                · exact rop_pure rfl (pu_move (OT.tmp rfl))
                · exact rop_pure rfl (pu_index (OT.tmp rfl) OT.const Try.underlying26 (show tyOk Try.prog 34 true 3 = true from by decide +kernel) (by omega) (by omega))
                · exact rop_pure rfl (pu_load (OT.tmp rfl) (show tyOk Try.prog 34 true 3 = true from by decide +kernel))
                · exact rop_acts rfl (acts_lit (d := kE) (v0 := (0, [], 0)) (show slTy Try.prog 26 34 3 32 = true from by decide +kernel) (show tyOk Try.prog 34 true 3 = true from by decide +kernel) zE (show 2 * 3 ≤ 16777216 from by decide) (by decide) (fills_arr rfl rfl (by decide) (OT.tmp rfl) (fills_arr rfl rfl (by decide) (OT.tmp rfl) fills_nil))) (fun _ _ _ _ h => h)
              case h =>
                refine op_acts (acts_append (OT.tmp rfl) (by exact perm_at 0 rfl) (OT.tmp rfl) (show slTy Try.prog 26 34 3 32 = true from by decide +kernel) (by (simp; omega)) (by (simp [maxLen]; omega))) (by exact perm_at 0 rfl) rfl rfl (fun v15_9 _ => ?_)
                refine op_pure (pu_assign (OT.tmp rfl)) rfl rfl ?_
                refine tr_nil ?_
                refine block_normal ?_
                refine then_normal ?_
                -- region 14
                refine tr_env (es_cons (t := 1) (OT.tmp rfl) (es_cons (t := 3) (OT.tmp rfl) (es_cons (t := 7) (OT.tmp rfl) (es_cons (t := 9) (OT.tmp rfl) (es_cons (t := 10) (OT.tmp rfl) es_nil))))) ?_
                refine tr_region ?_
                refine op_pure (pu_move (OT.tmp rfl)) rfl rfl ?_
                refine op_pure (pu_sub' (OT.tmp rfl) OT.const (by omega)) rfl rfl ?_
                refine op_pure (pu_assign (OT.tmp rfl)) rfl rfl ?_
                refine tr_nil ?_
                refine then_normal ?_
                exact tr_again (k + 1, v15_9, es ++ [at' l ((l.length : Int) - 1 - k), at' l 0]) ⟨(by show k + 1 ≤ l.length; omega), by show (es ++ _).length = 2 * (k + 1); rw [List.length_append, hel]; rfl, hst.1, hst.2⟩ (by show l.length - (k + 1) < l.length - k; omega) (es_append (es_cons (t := 10) (by exact OT.val (OT.tmp rfl) (congrArg (Value.int _) (by omega))) (es_cons (t := 9) (by exact OT.tmp rfl) es_nil)) (es_cons (t := 1) (OT.tmp rfl) (es_cons (t := 3) (OT.tmp rfl) (es_cons (t := 7) (OT.tmp rfl) es_nil)))) (own_picks (by repeat (first | exact picks_nil | refine picks_cons 0 rfl ?_ | refine picks_cons 1 rfl ?_ | refine picks_cons 2 rfl ?_ | refine picks_cons 3 rfl ?_ | refine picks_cons 4 rfl ?_ | refine picks_cons 5 rfl ?_ | refine picks_cons 6 rfl ?_ | refine picks_cons 7 rfl ?_ | refine picks_cons 8 rfl ?_)))
            · skip
              refine tr_exit ?_
              refine then_exit ?_
              refine then_exit ?_
              refine block_hit ?_
              refine then_normal ?_
              refine tr_seq ?_
              -- region 16
              refine tr_env (es_cons (t := 1) (OT.tmp rfl) (es_cons (t := 3) (OT.tmp rfl) (es_cons (t := 7) (OT.tmp rfl) (es_cons (t := 9) (OT.tmp rfl) es_nil)))) ?_
              obtain rfl : k = l.length := by simp only [decide_eq_false_iff_not] at c76; omega
              rw [Nat.sub_self, List.drop_zero] at he2
              refine tr_freeze (by exact perm_at 0 rfl) 9 (OT.tmp rfl) ?_
              refine tr_frzblk (y := (v.1, v.2.1, v.2.2.1, ws, v.2.2.2.2)) (e := kV) Frz.own (perm2_at 1 0 rfl rfl) (fun H cs q h => raw_v q h) ?_
              refine tr_region ?_
              refine op_pure (pu_load_var (OT.tmp rfl) (by exact mem_at 1 rfl) (show tyOk Try.prog 25 true 5 = true from by decide +kernel)) rfl rfl ?_
              refine op_pure (pu_move (OT.tmp rfl)) rfl rfl ?_
              refine op_acts (acts_call (Result_fn v l (by unfold maxLen; omega) (by unfold maxLen; omega) (by omega)) (show enters Try.prog 10 = true from by decide +kernel) (OTs.cons (OT.tmp rfl) (OTs.cons (OT.tmp rfl) OTs.nil)) (List.Perm.refl _)) (List.Perm.refl _) rfl rfl (fun r16_2 hr16_2 => ?_)
              refine op_pure (pu_move (OT.tmp rfl)) rfl rfl ?_
              refine op_pure (pu_extract (OT.tmp rfl) rfl) rfl rfl ?_
              refine op_pure (pu_extract (OT.tmp rfl) rfl) rfl rfl ?_
              refine op_pure (pu_extract (OT.tmp rfl) rfl) rfl rfl ?_
              refine op_pure (pu_assign (OT.tmp rfl)) rfl rfl ?_
              refine op_pure (pu_assign (OT.tmp rfl)) rfl rfl ?_
              refine op_pure (pu_assign (OT.tmp rfl)) rfl rfl ?_
              refine tr_nil ?_
              refine then_normal ?_
              refine tr_seq ?_
              -- region 17
              refine tr_env (es_cons (t := 7) (OT.tmp rfl) (es_cons (t := 9) (OT.tmp rfl) (es_cons (t := 11) (OT.tmp rfl) (es_cons (t := 12) (OT.tmp rfl) (es_cons (t := 13) (OT.tmp rfl) es_nil))))) ?_
              refine tr_region ?_
              refine op_pure (pu_load_var (OT.tmp rfl) (by exact mem_at 0 rfl) (show tyOk Try.prog 25 true 5 = true from by decide +kernel)) rfl rfl ?_
              refine op_pure (pu_move (OT.tmp rfl)) rfl rfl ?_
              refine op_acts (acts_call (Result_fn (v.1, v.2.1, v.2.2.1, ws, v.2.2.2.2) _ (by unfold maxLen; dsimp only; omega) (by unfold maxLen; dsimp only; omega) (by omega)) (show enters Try.prog 10 = true from by decide +kernel) (OTs.cons (OT.tmp rfl) (OTs.cons (OT.tmp rfl) OTs.nil)) (List.Perm.refl _)) (List.Perm.refl _) rfl rfl (fun r17_2 hr17_2 => ?_)
              refine op_pure (pu_move (OT.tmp rfl)) rfl rfl ?_
              refine op_pure (pu_extract (OT.tmp rfl) rfl) rfl rfl ?_
              refine op_pure (pu_extract (OT.tmp rfl) rfl) rfl rfl ?_
              refine op_pure (pu_extract (OT.tmp rfl) rfl) rfl rfl ?_
              refine op_pure (pu_assign (OT.tmp rfl)) rfl rfl ?_
              refine op_pure (pu_assign (OT.tmp rfl)) rfl rfl ?_
              refine op_pure (pu_assign (OT.tmp rfl)) rfl rfl ?_
              refine tr_nil ?_
              refine then_normal ?_
              refine tr_seq ?_
              refine tr_seq ?_
              -- region 18
              refine tr_env (es_cons (t := 11) (OT.tmp rfl) (es_cons (t := 12) (OT.tmp rfl) (es_cons (t := 13) (OT.tmp rfl) (es_cons (t := 14) (OT.tmp rfl) (es_cons (t := 15) (OT.tmp rfl) (es_cons (t := 16) (OT.tmp rfl) es_nil)))))) ?_
              refine tr_region ?_
              refine op_pure (pu_move (OT.tmp rfl)) rfl rfl ?_
              refine op_pure (pu_eql (OT.tmp rfl) OT.const) rfl rfl ?_
              refine op_pure (pu_move (OT.tmp rfl)) rfl rfl ?_
              refine op_gu rfl rfl rfl (OT.gu_mk (OT.tmp rfl)) (fun hg => by (have hg1 := hg.2; (try simp only [decide_eq_true_eq, decide_eq_false_iff_not] at hg1); exact pu_move (by exact OT.tmp rfl))) rfl ?_
              refine op_gu rfl rfl rfl (OT.gu_mk (OT.tmp rfl)) (fun hg => by (have hg1 := hg.2; (try simp only [decide_eq_true_eq, decide_eq_false_iff_not] at hg1); exact pu_eql (by exact OT.gu (OT.tmp rfl) hg) OT.const)) rfl ?_
              refine op_pure (pu_pick_or (OT.tmp rfl) (by exact OT.tmp rfl)) rfl rfl ?_
              refine tr_nil ?_
              refine then_normal ?_
              refine tr_cond (OT.tmp rfl) (fun c108 => ?_) (fun c108 => ?_)
              · skip
                refine tr_seq ?_
                -- region 19
                refine tr_env es_nil ?_
                refine tr_region ?_
                refine op_pure (pu_assign OT.const) rfl rfl ?_
                refine tr_nil ?_
                refine then_normal ?_
                refine tr_ret ?_
                refine then_ret ?_
                exact ret_one .ret (.inl rfl) rfl () (OT.val (OT.tmp rfl) (congrArg Value.bool (rfl))) trivial (by exact picks_nil)
              · skip
                refine tr_skip ?_
                refine then_normal ?_
                refine tr_seq ?_
                -- region 20
                refine tr_env (es_cons (t := 11) (OT.tmp rfl) (es_cons (t := 12) (OT.tmp rfl) (es_cons (t := 13) (OT.tmp rfl) (es_cons (t := 14) (OT.tmp rfl) (es_cons (t := 15) (OT.tmp rfl) (es_cons (t := 16) (OT.tmp rfl) es_nil)))))) ?_
                obtain rfl := turned_law hr16_2 hr17_2 rfl rfl rfl rfl hws hwl (fun e => ⟨he1 e, he2 e⟩) (by simp_all) (by simp_all)
                obtain ⟨hsm, hil⟩ := res_small hr16_2
                refine tr_region ?_
                refine op_pure (pu_move (OT.tmp rfl)) rfl rfl ?_
                refine op_pure (pu_move (OT.tmp rfl)) rfl rfl ?_
                refine op_pure (pu_eql (OT.tmp rfl) (OT.tmp rfl)) rfl rfl ?_
                refine op_pure (pu_move (OT.tmp rfl)) rfl rfl ?_
                refine op_gu rfl rfl rfl (OT.gu_mk (OT.tmp rfl)) (fun hg => by (have hg1 := hg.2; (try simp only [decide_eq_true_eq, decide_eq_false_iff_not] at hg1); exact pu_move (by exact OT.tmp rfl))) rfl ?_
                refine op_gu rfl rfl rfl (OT.gu_mk (OT.tmp rfl)) (fun hg => by (have hg1 := hg.2; (try simp only [decide_eq_true_eq, decide_eq_false_iff_not] at hg1); exact pu_move (by exact OT.tmp rfl))) rfl ?_
                refine op_gu_acts () rfl rfl rfl (OT.gu_mk (OT.tmp rfl)) (fun hg => by (have hg1 := hg.2; (try simp only [decide_eq_true_eq, decide_eq_false_iff_not] at hg1); exact acts_call (Same_fn r16_2.1 r16_2.1 hsm hsm) (show enters Try.prog 11 = true from by decide +kernel) (OTs.cons (by exact OT.gu (OT.tmp rfl) hg) (OTs.cons (by exact OT.gu (OT.tmp rfl) hg) OTs.nil)) (List.Perm.refl _))) rfl (fun _ _ => ?_)
                refine op_pure (pu_pick_and (OT.tmp rfl) (by exact OT.tmp rfl)) rfl rfl ?_
                refine op_pure (pu_move (OT.tmp rfl)) rfl rfl ?_
                refine op_gu rfl rfl rfl (OT.gu_mk (OT.tmp rfl)) (fun hg => by (have hg1 := hg.2; (try simp only [decide_eq_true_eq, decide_eq_false_iff_not] at hg1); exact pu_move (by exact OT.tmp rfl))) rfl ?_
                refine op_gu rfl rfl rfl (OT.gu_mk (OT.tmp rfl)) (fun hg => by (have hg1 := hg.2; (try simp only [decide_eq_true_eq, decide_eq_false_iff_not] at hg1); exact pu_move (by exact OT.tmp rfl))) rfl ?_
                refine op_gu_acts () rfl rfl rfl (OT.gu_mk (OT.tmp rfl)) (fun hg => by (have hg1 := hg.2; (try simp only [decide_eq_true_eq, decide_eq_false_iff_not] at hg1); exact acts_call (Ints_fn r16_2.2.1 r16_2.2.1 (by unfold maxLen; omega)) (show enters Try.prog 12 = true from by decide +kernel) (OTs.cons (by exact OT.gu (OT.tmp rfl) hg) (OTs.cons (by exact OT.gu (OT.tmp rfl) hg) OTs.nil)) (List.Perm.refl _))) rfl (fun _ _ => ?_)
                refine op_pure (pu_pick_and (OT.tmp rfl) (by exact OT.tmp rfl)) rfl rfl ?_
                refine op_pure (pu_assign (OT.tmp rfl)) rfl rfl ?_
                refine tr_nil ?_
                refine then_normal ?_
                refine tr_ret ?_
                exact ret_one .ret (.inl rfl) rfl () (OT.val (OT.tmp rfl) (congrArg Value.bool (by simp))) trivial (by exact picks_nil)
end Go.Proofs.Ytakkjljhjfkkbaa
