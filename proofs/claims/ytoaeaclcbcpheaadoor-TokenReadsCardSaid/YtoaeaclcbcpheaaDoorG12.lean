/- Typed walks: the arguments of a row, opened; its end. Over any program. -/
import Derived.Test.YtoaeaclcbcpheaaDoorG11
import Derived.WalkKit
import Derived.ProofKit
import Derived.OpenShut
import Derived.ShutString
import Derived.ChangeOld
import Derived.Below
import Derived.SizedLaws
namespace Go.Gw
open Go Go.ChangeShapes Go.WideShapes Go.RowKit
set_option linter.unusedVariables false
set_option linter.unusedSimpArgs false
abbrev heapOf (w : World) : FH := fun k => w.heap[k]?
theorem on_heapOf (w : World) : On (heapOf w) w := fun k o e => e
/-- What a row reads as data of the type t is data of kind d. -/
def Opn {α : Type} (P : Program) (t : TypeId) (d : Kd α) (good : α → Prop) : Prop :=
  ∀ (Hh : Type) (enc : TypeId × Value → Hh) (w : World) (fuel : Nat) (cs : List Value) (x : DataW Hh × List MemPlace), DataW.trod enc P w 0 (fun _ => true) true fuel t cs = some x → ∃ v, d.K (heapOf w) v cs ∧ good v
section
variable {P : Program} {α β : Type} {d : Kd α} {good : α → Prop}
theorem opn_int {t : TypeId} {k : IntKind} (ht : P.underlying t = some (.int k)) : Opn P t (kint k) (fun n => (Lit.int k n).wf = true) := fun Hh enc w fuel cs x h => by
  obtain ⟨n, rfl, _, hw⟩ := DataW.trod_int ht h
  exact ⟨n, rfl, hw⟩
theorem opn_bool {t : TypeId} (ht : P.underlying t = some .bool) : Opn P t kbool (fun _ => True) := fun Hh enc w fuel cs x h => by
  obtain ⟨n, rfl, _⟩ := DataW.trod_bool ht h
  exact ⟨n, rfl, trivial⟩
theorem opn_str {t : TypeId} (ht : P.underlying t = some .string) : Opn P t kstr (fun s => s.size ≤ maxLen) := fun Hh enc w fuel cs x h => by
  obtain ⟨n, rfl, _, hs⟩ := DataW.trod_string ht h
  exact ⟨n, rfl, hs⟩
theorem list_of {p : Nat → α → Prop} : ∀ (n : Nat), (∀ i, i < n → ∃ v, p i v) → ∃ xs : List α, xs.length = n ∧ ∀ i x, xs[i]? = some x → p i x
  | 0, _ => ⟨[], rfl, fun i x h => by simp at h⟩
  | n + 1, h => by
    obtain ⟨xs, h1, h2⟩ := list_of n fun i hi => h i (by omega)
    obtain ⟨v, hv⟩ := h n (by omega)
    refine ⟨xs ++ [v], by simp [h1], fun i x e => ?_⟩
    rcases Nat.lt_or_ge i n with hi | hi
    · rw [List.getElem?_append_left (by omega)] at e; exact h2 i x e
    · have hl := (List.getElem?_eq_some_iff.1 e).1
      simp at hl
      obtain rfl : i = n := by omega
      rw [List.getElem?_append_right (by omega), h1, Nat.sub_self] at e
      have : v = x := by simpa using e
      exact this ▸ hv
theorem opn_arr {t el : TypeId} {n : Nat} (hd : Opn P el d good) (ht : P.underlying t = some (.array n el)) (hs : P.cellsOf el = d.sz) (hT : P.cellsOf t = n * d.sz) : Opn P t (karr n d) (fun xs => ∀ x ∈ xs, good x) := fun Hh enc w fuel cs x h => by
  obtain ⟨ys, m, _, _, hl, hy, hi⟩ := DataW.trod_array ht h
  obtain ⟨xs, h1, h2⟩ := list_of (p := fun i v => d.K (heapOf w) v ((cs.drop (i * d.sz)).take d.sz) ∧ good v) n fun i hin => by
    have := hi i hin
    rw [hs, List.getElem?_eq_getElem (by omega)] at this
    exact hd Hh enc w m _ _ this
  refine ⟨xs, ⟨h1, ⟨by rw [hl, hT, h1], fun j x e => (h2 j x e).1⟩⟩, fun x hx => ?_⟩
  obtain ⟨i, hi⟩ := List.getElem?_of_mem hx
  exact (h2 i x hi).2
theorem opn_pair {t : TypeId} (h : Opn P t (karr 2 d) (fun xs => ∀ x ∈ xs, good x)) : Opn P t (kP2 d) (fun e => good e.1 ∧ good e.2) := fun Hh enc w fuel cs x hx => by
  obtain ⟨v, hv, hg⟩ := h Hh enc w fuel cs x hx
  match v, hv.1 with
  | [a, b], _ => exact ⟨(a, b), hv, hg a (by simp), hg b (by simp)⟩
theorem opn_slice {t el : TypeId} (hd : Opn P el d good) (ht : P.underlying t = some (.slice el)) (hs : P.cellsOf el = d.sz) (h0 : 0 < d.sz) : Opn P t (ksl d) (fun xs => ∀ x ∈ xs, good x) := fun Hh enc w fuel cs x h => by
  rcases DataW.trod_slice ht h with ⟨rfl, _⟩ | ⟨a, len, cap, elems, rest, m, _, rfl, _, _, hlc, hcm, hel, hi, _, _⟩
  · exact ⟨[], ⟨_, rfl, none, 0, rfl, by simp, by simp, fun h => by simp at h⟩, by simp⟩
  obtain ⟨xs, h1, h2⟩ := list_of (p := fun i v => ∃ cs', d.K (heapOf w) v cs' ∧ cs'.length = d.sz ∧ (∀ j, j < d.sz → w.cell? ((a.add (i * d.sz)).add j) = cs'[j]?) ∧ good v) len fun i hin => by
    have h3 := hi i hin
    rw [hs, List.getElem?_eq_getElem (by omega), Option.bind_eq_some_iff] at h3
    obtain ⟨cs', hc, ht'⟩ := h3
    obtain ⟨v, hv, hg⟩ := hd Hh enc w m _ _ ht'
    obtain ⟨_, hl, hat⟩ := World.cells?_some hc
    exact ⟨v, cs', hv, hl, hat, hg⟩
  refine ⟨xs, ⟨_, rfl, some a, cap, by rw [h1], by rw [h1]; exact hlc, by rw [h1]; exact Nat.le_trans hlc hcm, fun hpos => ?_⟩, fun x hx => ?_⟩
  · obtain ⟨cs0, _, hl0, hat0, _⟩ := h2 0 _ (List.getElem?_eq_getElem (by omega : 0 < xs.length))
    have hc0 : w.cell? ((a.add (0 * d.sz)).add 0) = some cs0[0] := by rw [hat0 0 h0, List.getElem?_eq_getElem (by omega)]
    obtain ⟨b, off, spot⟩ := a
    have hspot : spot = none := by
      cases spot with
      | none => rfl
      | some q => simpa [Addr.add] using World.cell?_spot hc0
    subst hspot
    have hblk : ∃ cells e fr, w.heap[b]? = some (.cells cells e fr) := by
      unfold World.cell? at hc0
      simp only [add_plain] at hc0
      split at hc0
      · rename_i c e fr hb; exact ⟨c, e, fr, hb⟩
      · cases hc0
    obtain ⟨cells, e, fr, hb⟩ := hblk
    have hcell : ∀ k, w.cell? ⟨b, k, none⟩ = cells[k]? := fun k => by unfold World.cell?; rw [hb]; simp
    have hat : ∀ i x, xs[i]? = some x → ∃ cs', d.K (heapOf w) x cs' ∧ cs'.length = d.sz ∧ ∀ j, j < d.sz → cells[off + i * d.sz + j]? = cs'[j]? := fun i x e' => by
      obtain ⟨cs', k1, k2, k3, _⟩ := h2 i x e'
      exact ⟨cs', k1, k2, fun j hj => by rw [← hcell, ← k3 j hj, add_plain, add_plain]⟩
    have hfit : off + xs.length * d.sz ≤ cells.size := by
      have hlt : xs.length - 1 < xs.length := by omega
      obtain ⟨cs', k1, k2, k3⟩ := hat (xs.length - 1) _ (List.getElem?_eq_getElem hlt)
      have h5 := k3 (d.sz - 1) (by omega)
      rw [List.getElem?_eq_getElem (by omega)] at h5
      have h6 := (Array.getElem?_eq_some_iff.1 h5).1
      have h7 : (xs.length - 1) * d.sz + d.sz = xs.length * d.sz := by rw [← Nat.succ_mul]; congr 1; omega
      omega
    refine ⟨⟨b, off, none⟩, cells, e, fr, (cells.toList.drop off).take (xs.length * d.sz), rfl, rfl, hb, ⟨?_, fun j x e' => ?_⟩, fun i u e' => ?_⟩
    · have e9 : cells.toList.length = cells.size := Array.length_toList
      rw [List.length_take, List.length_drop, e9]; omega
    · obtain ⟨cs', k1, k2, k3⟩ := hat j x e'
      have hj := (List.getElem?_eq_some_iff.1 e').1
      have hle : j * d.sz + d.sz ≤ xs.length * d.sz := by rw [← Nat.succ_mul]; exact Nat.mul_le_mul_right _ hj
      have : (((cells.toList.drop off).take (xs.length * d.sz)).drop (j * d.sz)).take d.sz = cs' := by
        apply List.ext_getElem?
        intro i
        rw [List.getElem?_take]
        by_cases hi' : i < d.sz
        · rw [if_pos hi', List.getElem?_drop, List.getElem?_take, if_pos (by omega), List.getElem?_drop, ← Nat.add_assoc, Array.getElem?_toList, k3 i hi']
        · rw [if_neg hi', List.getElem?_eq_none (by omega)]
      rw [this]; exact k1
    · rw [List.getElem?_take] at e'
      split at e'
      · rw [List.getElem?_drop, Array.getElem?_toList] at e'; exact e'
      · cases e'
  · obtain ⟨i, hi⟩ := List.getElem?_of_mem hx
    obtain ⟨_, _, _, _, hg⟩ := h2 i x hi
    exact hg
end
/-- How long a slice is, by a row's weights. -/
theorem sized_len {Hh : Type} {enc : TypeId × Value → Hh} {P : Program} {W : World} {t e : TypeId} {a : Option Addr} {len cap : Nat} {d : DataW Hh} {ps : List MemPlace} {ts : List TypeId} {ds : List (DataW Hh)} {j : Nat}
    (hsz : (DataW.weightsEach P ts ds).all (· ≤ reachBytes) = true) (ht : ts[j]? = some t) (hd : ds[j]? = some d) (hu : P.underlying t = some (.slice e)) {B : Nat} (hB : P.bytesOf e = B)
    (h : DataW.Trod enc P W 0 (fun _ => true) true t (.slice a len cap) d ps) : len * B ≤ 140737488351232 := by
  obtain ⟨fuel, hf⟩ := h
  rcases DataW.trod_slice hu hf with ⟨hcs, _⟩ | ⟨x, l, c, elems, rest, m, _, hcs, hx, _, _, _, hl, _⟩
  · simp [Value.cells] at hcs
    obtain ⟨rfl, rfl, rfl⟩ := hcs
    simp
  · simp [Value.cells] at hcs
    obtain ⟨rfl, rfl, rfl⟩ := hcs
    obtain ⟨hx, _⟩ := Prod.mk.inj hx
    subst hx
    have z := sized_slice hsz ht hd hu
    rw [hB] at z
    simp only [List.length_map] at z
    exact Nat.le_trans (Nat.mul_le_mul_right _ (by omega)) z
/-- A contract, told weaker. -/
theorem Ct.weak {P : Program} {f : FuncId} {As : List Ty} {J : List It} {ρ : Type} {T T' : ρ → Ty} {I : ρ → List It} {φ φ' : ρ → Prop} (h : Ct P f As J ρ T I φ) (hT : ∀ r, φ r → ∀ H v, (T r).p H v → (T' r).p H v) (hφ : ∀ r, φ r → φ' r) : Ct P f As J ρ T' I φ' :=
  fun H w args a b c => (h H w args a b c).mono fun e w' ⟨r, v, H', h1, h2, h3, h4, h5⟩ => ⟨r, v, H', h1, hφ r h2, h3, hT r h2 H' v h4, h5⟩
/-- A function without items to hand in: called in any world whose heap is frozen. -/
theorem ct_row {P : Program} {f : FuncId} {As : List Ty} {b : Bool} (h : Ct P f As [] Unit (fun _ => IsV (.bool b)) (fun _ => []) (fun _ => True)) (W : World) {args : List Value} (ha : AllP (heapOf W) As args) :
    Calls P f args.toArray W fun e W' => e = .returned (.bool b) ∧ Below W.heap.size W W' := by
  refine (h (heapOf W) W args (on_heapOf W) ha ⟨fun _ h => by simp at h, by simp [blks], fun g hg => by simp [blks] at hg⟩).mono fun e W' hp => ?_
  obtain ⟨r, v, H', he, _, s, hv, _⟩ := hp
  have hv' : v = .bool b := hv
  subst hv'
  exact ⟨he, s.os, s.tape, s.output, s.size, fun k hk => s.keep k hk (by simp [blks])⟩
end Go.Gw
