/- The texts JnP, NtV, NtW of this claim, put together in their order. No condition of their own. -/
import Derived.Test.YtklhdalppmjnaaaGreatDoorQ7
import Derived.Test.YtklhdalppmjnaaaGreatDoorQ1
import Derived.Test.YtklhdalppmjnaaaGreatDoorProg
import Derived.Test.YtklhdalppmjnaaaGreatDoorRows
import Derived.Lay
import Derived.MakeChecks
import Derived.RowKitTokens
set_option linter.unusedVariables false
set_option linter.unusedSimpArgs false
set_option linter.unusedSectionVars false
set_option maxHeartbeats 1000000
set_option maxRecDepth 20000
namespace Go.Gw
open Go
theorem Q51 {P : Program} {t : TypeId} (ht : P.underlying t = some .string) : Opn P t kS (fun _ => True) := fun Hh enc w fuel cs x h => by
 obtain ⟨n, rfl, _, _⟩ := DataW.trod_string ht h
 refine ⟨n.data.toList, ?_, trivial⟩
 show _ = [Value.string (bs n.data.toList)]
 rw [Q2d]
theorem Q2o {P : Program} {α β γ : Type} {a : Kd α} {b : Kd β} {c : Kd γ} {g0 : α → Prop} {g1 : β → Prop} {g2 : γ → Prop} {t : TypeId} {f0 f1 f2 : Field} (ht : P.underlying t = some (.struct #[f0, f1, f2])) (h0 : Opn P f0.type a g0) (h1 : Opn P f1.type b g1) (h2 : Opn P f2.type c g2)
 (o0 : f0.offset = 0) (o1 : f1.offset = a.sz) (o2 : f2.offset = a.sz + b.sz) (s0 : P.cellsOf f0.type = a.sz) (s1 : P.cellsOf f1.type = b.sz) (s2 : P.cellsOf f2.type = c.sz) (s : P.cellsOf t = a.sz + b.sz + c.sz) : Opn P t (Xo a (Xo b c)) (fun _ => True) := fun Hh enc w fuel cs x h => by
 obtain ⟨xs, n, _, rfl, hl, hlen, hf⟩ := DataW.trod_struct ht h
 match xs, hlen with
 | [y0, y1, y2], _ =>
  have e0 := hf 0 f0 rfl
  have e1 := hf 1 f1 rfl
  have e2 := hf 2 f2 rfl
  simp only [List.getElem?_cons_zero, List.getElem?_cons_succ] at e0 e1 e2
  rw [o0, s0, List.drop_zero] at e0
  rw [o1, s1] at e1
  rw [o2, s2] at e2
  obtain ⟨u, hu, gu⟩ := h0 Hh enc w n _ _ e0
  obtain ⟨v, hv, gv⟩ := h1 Hh enc w n _ _ e1
  obtain ⟨z, hz, gz⟩ := h2 Hh enc w n _ _ e2
  refine ⟨(u, v, z), ⟨_, _, hu, ⟨_, _, hv, hz, rfl⟩, ?_⟩, trivial⟩
  rw [List.take_of_length_le (l := cs.drop (a.sz + b.sz)) (by rw [List.length_drop]; omega)]
  rw [← List.drop_drop, List.take_append_drop, List.take_append_drop]
end Go.Gw
namespace Go.Proofs.YtklhdalppmjnaaaGreatDoor
open Go Go.Gw Go.Tu Go.Jn
end Go.Proofs.YtklhdalppmjnaaaGreatDoor
namespace Go.Proofs.YtklhdalppmjnaaaGreatDoor
open Go Go.Gw Go.RowKit
theorem Q1a {P : Program} {α β γ : Type} {a : Kd α} {b : Kd β} {c : Kd γ} {g0 : α → Prop} {g1 : β → Prop} {g2 : γ → Prop} {t : TypeId} {f0 f1 f2 : Field} (ht : P.underlying t = some (.struct #[f0, f1, f2])) (h0 : Opn P f0.type a g0) (h1 : Opn P f1.type b g1) (h2 : Opn P f2.type c g2)
 (o0 : f0.offset = 0) (o1 : f1.offset = a.sz) (o2 : f2.offset = a.sz + b.sz) (s0 : P.cellsOf f0.type = a.sz) (s1 : P.cellsOf f1.type = b.sz) (s2 : P.cellsOf f2.type = c.sz) (s : P.cellsOf t = a.sz + b.sz + c.sz) : Opn P t (Xo a (Xo b c)) (fun x => g0 x.1 ∧ g1 x.2.1 ∧ g2 x.2.2) := fun Hh enc w fuel cs x h => by
 obtain ⟨xs, n, _, rfl, hl, hlen, hf⟩ := DataW.trod_struct ht h
 match xs, hlen with
 | [y0, y1, y2], _ =>
  have e0 := hf 0 f0 rfl
  have e1 := hf 1 f1 rfl
  have e2 := hf 2 f2 rfl
  simp only [List.getElem?_cons_zero, List.getElem?_cons_succ] at e0 e1 e2
  rw [o0, s0, List.drop_zero] at e0
  rw [o1, s1] at e1
  rw [o2, s2] at e2
  obtain ⟨u, hu, gu⟩ := h0 Hh enc w n _ _ e0
  obtain ⟨v, hv, gv⟩ := h1 Hh enc w n _ _ e1
  obtain ⟨z, hz, gz⟩ := h2 Hh enc w n _ _ e2
  refine ⟨(u, v, z), ⟨_, _, hu, ⟨_, _, hv, hz, rfl⟩, ?_⟩, gu, gv, gz⟩
  rw [List.take_of_length_le (l := cs.drop (a.sz + b.sz)) (by rw [List.length_drop]; omega)]
  rw [← List.drop_drop, List.take_append_drop, List.take_append_drop]
abbrev Qj4 : List (String × DataW Unit) := Rows.viewPartsRow.laid
theorem Q5o {W : World} (hS : W.ShapedOpen Tryz.prog) (hL : laidMet Tryz.prog Qj4 W) : True := trivial
theorem Q4l (w : World) : laidMetH Tryz.prog Qj4 w = laidMet Tryz.prog Qj4 w := MakeChecks.laidMetH_plain _ _ _ (by kernel_rfl)
theorem shp (os : Os) : (World.laidAll Tryz.prog os Qj4).Shaped Tryz.prog := World.shaped_of_ZipB (by kernel_rfl) (by kernel_rfl)
theorem met (os : Os) (args : Array Value) : laidMet Tryz.prog Qj4 ((World.laidAll Tryz.prog os Qj4).forCall (fun _ _ => 0) ⟨#[], args, []⟩).memory := laidMet_laidAll _ (by kernel_rfl) (by kernel_rfl)
end Go.Proofs.YtklhdalppmjnaaaGreatDoor
namespace Go.Gw
open Go Go.ChangeShapes Go.WideShapes Go.RowKit
theorem Q3y {P : Program} {α : Type} {d : Kd α} {good : α → Prop} {t el : TypeId} (B : Nat) (hd : Qfp P el d good) (ht : P.underlying t = some (.slice el)) (hB : P.bytesOf el = B) (hs : P.cellsOf el = d.sz) (h0 : 0 < d.sz) : Qfp P t (ksl d) (fun xs => (∀ x ∈ xs, good x) ∧ xs.length * B ≤ reachBytes) := fun Hh enc w fuel cs x h hw => by
 rcases DataW.trod_slice ht h with ⟨rfl, _⟩ | ⟨a, len, cap, elems, rest, m, _, rfl, hx0, _, hlc, hcm, hel, hi, _, _⟩
 · exact ⟨[], ⟨_, rfl, none, 0, rfl, by simp, by simp, fun h => by simp at h⟩, by simp, by simp⟩
 have hall : ∀ (l : List (DataW Hh × List MemPlace)) (i : Nat) (hi : i < l.length) (n : Nat), n ∈ (l[i]).1.weights P el → n ∈ DataW.weightsAll P el (l.map (·.1)) := by
  intro l
  induction l with
  | nil => intro i hi; simp at hi
  | cons y l ih =>
   intro i hi n hn
   rw [List.map_cons, DataW.weightsAll]
   cases i with
   | zero => exact List.mem_append_left _ hn
   | succ i => exact List.mem_append_right _ (ih i (by simpa using hi) n hn)
 have hx1 : x.1 = .slice (elems.map (·.1)) (rest.map (·.1)) := by rw [hx0]
 rw [hx1] at hw
 have hwe : ∀ i (hi : i < elems.length), ∀ n ∈ (elems[i]).1.weights P el, n ≤ reachBytes := fun i hi n hn => hw n (by
  simp only [DataW.weights, ht]
  exact List.mem_cons_of_mem _ (List.mem_append_left _ (hall elems i hi n hn)))
 have hlen : len * B ≤ reachBytes := by
  have h1 := hw ((elems.length + rest.length) * B) (by
   simp only [DataW.weights, ht, hB, List.length_map]
   exact List.mem_cons_self)
  rw [hel] at h1
  exact Nat.le_trans (Nat.mul_le_mul_right _ (by omega)) h1
 obtain ⟨xs, h1, h2⟩ := Qgp (p := fun i v => ∃ cs', d.K (U2 w) v cs' ∧ cs'.length = d.sz ∧ (∀ j, j < d.sz → w.cell? ((a.add (i * d.sz)).add j) = cs'[j]?) ∧ good v) len fun i hin => by
  have h3 := hi i hin
  rw [hs, List.getElem?_eq_getElem (by omega), Option.bind_eq_some_iff] at h3
  obtain ⟨cs', hc, ht'⟩ := h3
  obtain ⟨v, hv, hg⟩ := hd Hh enc w m _ _ ht' (hwe i (by omega))
  obtain ⟨_, hl, hat⟩ := World.cells?_some hc
  exact ⟨v, cs', hv, hl, hat, hg⟩
 refine ⟨xs, ⟨_, rfl, some a, cap, by rw [h1], by rw [h1]; exact hlc, by rw [h1]; exact Nat.le_trans hlc hcm, fun hpos => ?_⟩, fun x hx => ?_, by rw [h1]; exact hlen⟩
 · obtain ⟨cs0, _, hl0, hat0, _⟩ := h2 0 _ (List.getElem?_eq_getElem (by omega : 0 < xs.length))
   have hc0 : w.cell? ((a.add (0 * d.sz)).add 0) = some cs0[0] := by rw [hat0 0 h0, List.getElem?_eq_getElem (by omega)]
   obtain ⟨b, off, spot⟩ := a
   have hspot : spot = none := by
    cases spot with
    | none => rfl
    | some q => simpa [Addr.add] using World.cell?_spot hc0
   subst hspot
   have hblk : ∃ cells e fr, w.heap[b]? = some (.cells cells e fr) := by
    unfold World.cell? at hc0
    simp only [add_plain] at hc0
    split at hc0
    · rename_i c e fr hb; exact ⟨c, e, fr, hb⟩
    cases hc0
   obtain ⟨cells, e, fr, hb⟩ := hblk
   have hcell : ∀ k, w.cell? ⟨b, k, none⟩ = cells[k]? := fun k => by unfold World.cell?; rw [hb]; simp
   have hat : ∀ i x, xs[i]? = some x → ∃ cs', d.K (U2 w) x cs' ∧ cs'.length = d.sz ∧ ∀ j, j < d.sz → cells[off + i * d.sz + j]? = cs'[j]? := fun i x e' => by
    obtain ⟨cs', k1, k2, k3, _⟩ := h2 i x e'
    exact ⟨cs', k1, k2, fun j hj => by rw [← hcell, ← k3 j hj, add_plain, add_plain]⟩
   have hfit : off + xs.length * d.sz ≤ cells.size := by
    have hlt : xs.length - 1 < xs.length := by omega
    obtain ⟨cs', k1, k2, k3⟩ := hat (xs.length - 1) _ (List.getElem?_eq_getElem hlt)
    have h5 := k3 (d.sz - 1) (by omega)
    rw [List.getElem?_eq_getElem (by omega)] at h5
    have h6 := (Array.getElem?_eq_some_iff.1 h5).1
    have h7 : (xs.length - 1) * d.sz + d.sz = xs.length * d.sz := by rw [← Nat.succ_mul]; congr 1; omega
    omega
   refine ⟨⟨b, off, none⟩, cells, e, fr, (cells.toList.drop off).take (xs.length * d.sz), rfl, rfl, hb, ⟨?_, fun j x e' => ?_⟩, fun i u e' => ?_⟩
   · have e9 : cells.toList.length = cells.size := Array.length_toList
     rw [List.length_take, List.length_drop, e9]; omega
   · obtain ⟨cs', k1, k2, k3⟩ := hat j x e'
     have hj := (List.getElem?_eq_some_iff.1 e').1
     have hle : j * d.sz + d.sz ≤ xs.length * d.sz := by rw [← Nat.succ_mul]; exact Nat.mul_le_mul_right _ hj
     have : (((cells.toList.drop off).take (xs.length * d.sz)).drop (j * d.sz)).take d.sz = cs' := by
      apply List.ext_getElem?
      intro i
      rw [List.getElem?_take]
      by_cases hi' : i < d.sz
      · rw [if_pos hi', List.getElem?_drop, List.getElem?_take, if_pos (by omega), List.getElem?_drop, ← Nat.add_assoc, Array.getElem?_toList, k3 i hi']
      rw [if_neg hi', List.getElem?_eq_none (by omega)]
     rw [this]; exact k1
   rw [List.getElem?_take] at e'
   split at e'
   · rw [List.getElem?_drop, Array.getElem?_toList] at e'; exact e'
   cases e'
 obtain ⟨i, hi⟩ := List.getElem?_of_mem hx
 obtain ⟨_, _, _, _, hg⟩ := h2 i x hi
 exact hg
theorem Q1b {P : Program} {α β : Type} {a : Kd α} {b : Kd β} {g0 : α → Prop} {g1 : β → Prop} {t : TypeId} {f0 f1 : Field} (ht : P.underlying t = some (.struct #[f0, f1])) (h0 : Qfp P f0.type a g0) (h1 : Qfp P f1.type b g1)
 (o0 : f0.offset = 0) (o1 : f1.offset = a.sz) (s0 : P.cellsOf f0.type = a.sz) (s1 : P.cellsOf f1.type = b.sz) (s : P.cellsOf t = a.sz + b.sz) : Qfp P t (Xo a b) (fun x => g0 x.1 ∧ g1 x.2) := fun Hh enc w fuel cs x h hw => by
 obtain ⟨xs, n, _, rfl, hl, hlen, hf⟩ := DataW.trod_struct ht h
 match xs, hlen with
 | [y0, y1], _ =>
  have e0 := hf 0 f0 rfl
  have e1 := hf 1 f1 rfl
  simp only [List.getElem?_cons_zero, List.getElem?_cons_succ] at e0 e1
  have hwt : ∀ n, (n ∈ y0.1.weights P f0.type ∨ n ∈ y1.1.weights P f1.type) → n ≤ reachBytes := fun n hn => hw n (by
   simp only [DataW.weights, ht, List.map_cons, List.map_nil, DataW.weightsEach, List.mem_append, List.append_nil]
   exact hn)
  rw [o0, s0, List.drop_zero] at e0
  rw [o1, s1] at e1
  obtain ⟨u, hu, gu⟩ := h0 Hh enc w n _ _ e0 (fun n hn => hwt n (.inl hn))
  obtain ⟨v, hv, gv⟩ := h1 Hh enc w n _ _ e1 (fun n hn => hwt n (.inr hn))
  refine ⟨(u, v), ⟨_, _, hu, hv, ?_⟩, gu, gv⟩
  rw [List.take_of_length_le (l := cs.drop a.sz) (by rw [List.length_drop]; omega), List.take_append_drop]
theorem Q1c {P : Program} {α β γ δ ε : Type} {a : Kd α} {b : Kd β} {c : Kd γ} {d : Kd δ} {e : Kd ε} {g0 : α → Prop} {g1 : β → Prop} {g2 : γ → Prop} {g3 : δ → Prop} {g4 : ε → Prop} {t : TypeId} {f0 f1 f2 f3 f4 : Field} (ht : P.underlying t = some (.struct #[f0, f1, f2, f3, f4])) (h0 : Qfp P f0.type a g0) (h1 : Qfp P f1.type b g1) (h2 : Qfp P f2.type c g2) (h3 : Qfp P f3.type d g3) (h4 : Qfp P f4.type e g4)
 (o0 : f0.offset = 0) (o1 : f1.offset = a.sz) (o2 : f2.offset = a.sz + b.sz) (o3 : f3.offset = a.sz + b.sz + c.sz) (o4 : f4.offset = a.sz + b.sz + c.sz + d.sz) (s0 : P.cellsOf f0.type = a.sz) (s1 : P.cellsOf f1.type = b.sz) (s2 : P.cellsOf f2.type = c.sz) (s3 : P.cellsOf f3.type = d.sz) (s4 : P.cellsOf f4.type = e.sz) (s : P.cellsOf t = a.sz + b.sz + c.sz + d.sz + e.sz) : Qfp P t (Xo a (Xo b (Xo c (Xo d e)))) (fun x => g0 x.1 ∧ g1 x.2.1 ∧ g2 x.2.2.1 ∧ g3 x.2.2.2.1 ∧ g4 x.2.2.2.2) := fun Hh enc w fuel cs x h hw => by
 obtain ⟨xs, n, _, rfl, hl, hlen, hf⟩ := DataW.trod_struct ht h
 match xs, hlen with
 | [y0, y1, y2, y3, y4], _ =>
  have e0 := hf 0 f0 rfl
  have e1 := hf 1 f1 rfl
  have e2 := hf 2 f2 rfl
  have e3 := hf 3 f3 rfl
  have e4 := hf 4 f4 rfl
  simp only [List.getElem?_cons_zero, List.getElem?_cons_succ] at e0 e1 e2 e3 e4
  have hwt : ∀ n, (n ∈ y0.1.weights P f0.type ∨ n ∈ y1.1.weights P f1.type ∨ n ∈ y2.1.weights P f2.type ∨ n ∈ y3.1.weights P f3.type ∨ n ∈ y4.1.weights P f4.type) → n ≤ reachBytes := fun n hn => hw n (by
   simp only [DataW.weights, ht, List.map_cons, List.map_nil, DataW.weightsEach, List.mem_append, List.append_nil]
   exact hn)
  rw [o0, s0, List.drop_zero] at e0
  rw [o1, s1] at e1
  rw [o2, s2] at e2
  rw [o3, s3] at e3
  rw [o4, s4] at e4
  obtain ⟨u, hu, k0⟩ := h0 Hh enc w n _ _ e0 (fun n hn => hwt n (.inl hn))
  obtain ⟨v, hv, k1⟩ := h1 Hh enc w n _ _ e1 (fun n hn => hwt n (.inr (.inl hn)))
  obtain ⟨z, hz, k2⟩ := h2 Hh enc w n _ _ e2 (fun n hn => hwt n (.inr (.inr (.inl hn))))
  obtain ⟨y, hy, k3⟩ := h3 Hh enc w n _ _ e3 (fun n hn => hwt n (.inr (.inr (.inr (.inl hn)))))
  obtain ⟨r, hr, k4⟩ := h4 Hh enc w n _ _ e4 (fun n hn => hwt n (.inr (.inr (.inr (.inr hn)))))
  refine ⟨(u, v, z, y, r), ⟨_, _, hu, ⟨_, _, hv, ⟨_, _, hz, ⟨_, _, hy, hr, rfl⟩, rfl⟩, rfl⟩, ?_⟩, k0, k1, k2, k3, k4⟩
  have dd : ∀ i j, cs.drop (i + j) = (cs.drop i).drop j := fun i j => by rw [List.drop_drop]
  rw [List.take_of_length_le (l := cs.drop (a.sz + b.sz + c.sz + d.sz)) (by rw [List.length_drop]; omega)]
  rw [dd (a.sz + b.sz + c.sz) d.sz, List.take_append_drop, dd (a.sz + b.sz) c.sz, List.take_append_drop, dd a.sz b.sz, List.take_append_drop, List.take_append_drop]
end Go.Gw
