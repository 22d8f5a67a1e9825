/- The texts G19, G27, SoA, So1, So2, SoB, So3, So4, SoC of this claim, put together in their order. No condition of their own. -/
import Derived.Test.YtakkjljhjfkkbaaQ1
import Derived.ChangeSame
import Derived.Lib.ConvBytes
import Derived.Laws.BytesString
import Derived.Laws.BytesArg
import Derived.Below
import Derived.Sort.AssemblyPlain
import Derived.Test.YtakkjljhjfkkbaaProg
/- Typed walks: two results, the first of which lies in a variable. Over any program. -/
namespace Go.Gw
open Go
set_option linter.unusedVariables false
set_option linter.unusedSimpArgs false
section
variable {Γ : Env} {L J : List It} {α : Type} {d : Kd α}
end
end Go.Gw
namespace Go.Gw
open Go
theorem Ct.pre {P : Program} {f : FuncId} {As : List Ty} {J : List It} {ρ : Type} {T : ρ → Ty} {I : ρ → List It} {φ : ρ → Prop} {p : Prop} (hA : ∀ H vs, AllP H As vs → p) (h : p → Ct P f As J ρ T I φ) : Ct P f As J ρ T I φ := fun H w args hon hAl hO => h (hA H args hAl) H w args hon hAl hO
theorem Ct.args {P : Program} {f : FuncId} {As Bs : List Ty} {J : List It} {ρ : Type} {T : ρ → Ty} {I : ρ → List It} {φ : ρ → Prop} (hA : ∀ H vs, AllP H Bs vs → AllP H As vs) (h : Ct P f As J ρ T I φ) : Ct P f Bs J ρ T I φ := fun H w args hon hAl hO => h H w args hon (hA H args hAl) hO
theorem two_len {α β : Type} {d : Kd α} {e : Kd β} {xs : List α} {ys : List β} : ∀ (H : FH) (vs : List Value), AllP H [SlT d xs, SlT e ys] vs → xs.length ≤ maxLen ∧ ys.length ≤ maxLen
  | _, [], h => h.elim
  | _, [_], h => h.2.elim
  | _, [_, _], ⟨⟨_, _, _, _, h1, _⟩, ⟨_, _, _, _, h2, _⟩, _⟩ => ⟨h1, h2⟩
  | _, _ :: _ :: _ :: _, h => h.2.2.elim
theorem two_fresh {α β : Type} {d : Kd α} {e : Kd β} {K0 : FH} {n0 : Nat} {xs : List α} {ys : List β} : ∀ (H : FH) (vs : List Value), AllP H [ClipT K0 n0 d xs, ClipT K0 n0 e ys] vs → AllP H [SlT d xs, SlT e ys] vs
  | _, [], h => h
  | _, [_], h => h.2.elim
  | _, [_, _], ⟨h1, h2, _⟩ => ⟨h1.1.1, h2.1.1, trivial⟩
  | _, _ :: _ :: _ :: _, h => h.2.2.elim
end Go.Gw
namespace Go.Gw
open Go
set_option linter.unusedVariables false
section
variable {C : Cx} {Γ : Env} {L R : List It} {dst : Option Tmp} {ty : TypeId} {pos : String} {after : Array Edge} {guard : Option (Nat × Bool)} {x y z : Operand}
end
end Go.Gw
namespace Go.Gw
open Go
set_option linter.unusedVariables false
theorem caps_nil {N : Nat} {Γ : Env} : capsOf N Γ [] [] := trivial
theorem caps_cons {N : Nat} {Γ : Env} {x : Operand} {v : Value} {xs : List Operand} {vs : List Value} (h : OT N Γ x (IsV v)) (hs : capsOf N Γ xs vs) : capsOf N Γ (x :: xs) (v :: vs) := ⟨h, hs⟩
theorem CtM.freeze {K0 : FH} {n0 : Nat} {P : Program} {f : FuncId} {As : List Ty} {α : Type} {d : Kd α} {t : TypeId} {xs : List α} {φ : Value → Prop} (h : CtM K0 n0 P f As [] Value (fun v => IsV v) (fun v => [OwnI t d v xs]) φ) : CtM K0 n0 P f As [] Unit (fun _ => FreshT K0 n0 d xs) (fun _ => []) (fun _ => True) := by
  intro H w args hK hn hon hA hO
  refine (h H w args hK hn hon hA hO).mono ?_
  rintro e w' ⟨r, v, H', rfl, _, s, hv, ho⟩
  have hv' : v = r := hv
  subst hv'
  have hb : ∀ g, v.ownBlock = some g → g < w'.heap.size ∧ H' g = none ∧ (g ∈ blks [] ∨ w.heap.size ≤ g) := fun g hg => ho.own g (blk_mem (i := OwnI t d v xs) List.mem_cons_self hg)
  have hfr : FreshV K0 n0 v := by
    obtain ⟨inner, ⟨_, h2⟩, _⟩ := ho.all _ List.mem_cons_self
    rcases h2 with ⟨rfl, _⟩ | ⟨g, cap, cur, rfl, _⟩
    · exact trivial
    · obtain ⟨_, h4, h5⟩ := hb g rfl
      refine .inr ⟨?_, Nat.le_trans hn (h5.resolve_left blks_nil)⟩
      show K0 g = none
      cases e : K0 g with
      | none => rfl
      | some o => have := s.sub g o (hK g o e); rw [h4] at this; cases this
  obtain ⟨H'', h1, h2, h3, h4, h6⟩ := own_frozenF (ho.all _ List.mem_cons_self) (fun g hg => (hb g hg).2.1) s.on
  refine ⟨(), v, H'', rfl, trivial, ⟨s.sub.trans h1, h2, s.os, s.tape, s.output, s.size, s.keep, fun k o e => ?_⟩, ⟨h4, hfr, h6⟩, Owns.nil⟩
  rcases h3 k o e with e | e
  · exact s.new k o e
  · rcases (hb k e).2.2 with h5 | h5
    · exact absurd h5 blks_nil
    · exact .inr (.inl h5)
end Go.Gw
namespace Go.Gw
open Go Go.ChangeShapes Go.WideShapes Go.RowKit
set_option linter.unusedVariables false
end Go.Gw
/- Typed walks: texts as lists of bytes: joined, compared, read byte by byte, cut, converted; error values that are nil or not; library contracts that only make memory. Over any program. -/
namespace Go.Gw
open Go
set_option linter.unusedVariables false
set_option linter.unusedSimpArgs false
/-! ### 1. Texts as lists of bytes -/
abbrev bs (l : List UInt8) : ByteArray := ⟨l.toArray⟩
abbrev BsT (l : List UInt8) : Ty := StrT (bs l)
theorem bs_of (s : ByteArray) : bs s.data.toList = s := by cases s; simp [bs]
theorem bs_size (l : List UInt8) : (bs l).size = l.length := by simp [bs, ByteArray.size]
abbrev kS : Kd (List UInt8) := scalar (fun l => Value.string (bs l)) fun _ => rfl
section
variable {C : Cx} {Γ : Env} {L R : List It} {dst : Option Tmp} {ty : TypeId} {pos : String} {after : Array Edge} {guard : Option (Nat × Bool)} {x y z : Operand}
theorem beq_bs (u v : List UInt8) : ((bs u).toList == (bs v).toList) = decide (u = v) := by
  rw [ByteArray.toList_eq, ByteArray.toList_eq]
  simp only [bs]
  by_cases h : u = v <;> simp [h]
theorem pu_bs_eql {t t2 : TypeId} {u v : List UInt8} (hx : OT C.N Γ x (BsT u)) (hy : OT C.N Γ y (BsT v)) : Pure C Γ L ⟨dst, .binOp .eql t x y t2, ty, pos, after, guard⟩ (BoolT (decide (u = v))) :=
  (pu_str_eql hx hy).val (by rw [beq_bs])
theorem pu_len_bs {t : TypeId} {u : List UInt8} (ht : C.P.underlying t = some .string) (hx : OT C.N Γ x (BsT u)) : Pure C Γ L ⟨dst, .call ⟨.builtin .len, #[x], #[t]⟩, ty, pos, after, guard⟩ (I64 u.length) :=
  (pu_len_str ht hx).val (by rw [bs_size])
/-! ### 2. Conversions -/
/-! ### 3. Error values -/
end
/-! ### 4. Contracts that only make memory -/
open Go.RowKit in
/-- A library's contract that leaves all that was there. -/
theorem ct_below {K0 : FH} {n0 : Nat} {P : Program} {f : FuncId} {As : List Ty} {T : Ty}
    (h : ∀ (H : FH) (w : World) (args : List Value), Sub K0 H → On H w → AllP H As args → Calls P f args.toArray w fun e w' => ∃ v, e = .returned v ∧ T.p H v ∧ Below w.heap.size w w') :
    CtM K0 n0 P f As [] Unit (fun _ => T) (fun _ => []) (fun _ => True) := by
  intro H w args hK hn hon hA hO
  refine (h H w args hK hon hA).mono ?_
  rintro e w' ⟨v, rfl, hv, hb⟩
  exact ⟨(), v, H, rfl, trivial, ⟨Sub.refl _, fun k o e => (hb.block k (hon.lt e)).trans (hon k o e), hb.os, hb.tape, hb.output, hb.size, fun k hk _ => hb.block k hk, fun k o e => .inl e⟩, hv, Owns.nil⟩
end Go.Gw
/- Sorts of tuples: arrays of tuples as lists, the comparison. The plain layer of the sort is the kit's. -/
namespace Go.So
open Go Go.Gw
set_option linter.unusedVariables false
set_option linter.unusedSimpArgs false
abbrev kT : Kd (List Int) := ksl (kint .i64)
abbrev DA := Array (List Int)
/-- A type of slices of numbers. -/
structure SlTy where
  T : List Int → Ty
  h : ∀ {x H v}, (T x).p H v → ∃ A n c, v = .slice A n c
abbrev kG (Z : SlTy) : Kd (List Int) := kty Z.T Z.h
abbrev zC (K0 : FH) (n0 : Nat) : SlTy := ⟨fun xs => ClipT K0 n0 (kint .i64) xs, fun {x H v} h => let ⟨A, h1⟩ := h.2; ⟨A, _, _, h1⟩⟩
abbrev zS : SlTy := ⟨fun xs => SlT (kint .i64) xs, fun {x H v} h => let ⟨A, c, h1, _⟩ := h; ⟨A, _, c, h1⟩⟩
abbrev kF (K0 : FH) (n0 : Nat) : Kd (List Int) := kcl K0 n0 (kint .i64)
/-- 'Less', out of cmp. -/
def ltc (c : List Int → List Int → Int) (x y : List Int) : Bool := decide (c x y < 0)
theorem at_arr {d : DA} {i : Int} (h0 : 0 ≤ i) (h1 : i < d.size) : at' d.toList i = d[i.toNat]! := by
  have h : i.toNat < d.size := by omega
  simp [at', List.getD_eq_getElem?_getD, h]
theorem at_nat {d : DA} {i : Nat} (h1 : i < d.size) : at' d.toList (i : Int) = d[i]! := by
  rw [at_arr (by omega) (by omega), Int.toNat_natCast]
theorem swp_list {d : DA} {i j : Nat} (hi : i < d.size) (hj : j < d.size) : ((d.toList.set i (at' d.toList (j : Int))).set j (at' d.toList (i : Int))) = (Sort.swp d i j).toList := by
  rw [at_nat hi, at_nat hj]
  simp [Sort.swp]
theorem swp_size {d : DA} {i j : Nat} : (Sort.swp d i j).size = d.size := by simp [Sort.swp]
theorem swp_items {d : DA} {i j : Int} (hi : 0 ≤ i) (hi1 : i < d.size) (hj : 0 ≤ j) (hj1 : j < d.size) : (d.toList.set i.toNat (at' d.toList j)).set j.toNat (at' d.toList i) = (Sort.swp d i.toNat j.toNat).toList := by
  have h1 := swp_list (d := d) (i := i.toNat) (j := j.toNat) (by omega) (by omega)
  rw [Int.toNat_of_nonneg hi, Int.toNat_of_nonneg hj] at h1
  exact h1
section
variable {c : List Int → List Int → Int} {d : DA} {a b i j : Nat}
theorem ltc_at (hi : i < d.size) (hj : j < d.size) : ltc c d[i]! d[j]! = decide (c (at' d.toList (i : Int)) (at' d.toList (j : Int)) < 0) := by
  rw [ltc, at_nat hi, at_nat hj]
theorem insIn_step (h : a < j) (hl : ltc c d[j]! d[j - 1]! = true) : Sort.insInner (ltc c) a j d = Sort.insInner (ltc c) a (j - 1) (Sort.swp d j (j - 1)) := by
  obtain ⟨k, rfl⟩ : ∃ k, j = k + 1 := ⟨j - 1, by omega⟩
  rw [Nat.add_sub_cancel] at hl ⊢
  rw [Sort.insInner, if_pos (by simp [hl]; omega)]
theorem insIn_stop (h : a < j → ltc c d[j]! d[j - 1]! = false) : Sort.insInner (ltc c) a j d = d := by
  cases j with
  | zero => rfl
  | succ k =>
    rw [Sort.insInner]
    split
    · rename_i hc
      simp only [Bool.and_eq_true, decide_eq_true_eq] at hc
      have := h hc.1
      rw [Nat.add_sub_cancel] at this
      rw [this] at hc; exact absurd hc.2 (by simp)
    · rfl
theorem insOut_step (h : i < b) : Sort.insOuter (ltc c) a b i d = Sort.insOuter (ltc c) a b (i + 1) (Sort.insInner (ltc c) a i d) := by
  rw [Sort.insOuter, if_pos h]
theorem insOut_end (h : ¬ i < b) : Sort.insOuter (ltc c) a b i d = d := by
  rw [Sort.insOuter, if_neg h]
theorem rev_step (h : i < j) : Sort.reverseLoop i j d = Sort.reverseLoop (i + 1) (j - 1) (Sort.swp d i j) := by
  rw [Sort.reverseLoop, if_pos h]
theorem rev_end (h : ¬ i < j) : Sort.reverseLoop i j d = d := by
  rw [Sort.reverseLoop, if_neg h]
variable {hi first root : Nat}
theorem sift_end (h : 2 * root + 1 ≥ hi) : Sort.siftDown (ltc c) hi first root d = d := by
  rw [Sort.siftDown, dif_pos h]
theorem sift_two (h : ¬ 2 * root + 1 ≥ hi) (h2 : 2 * root + 1 + 1 < hi) (h3 : ltc c d[first + (2 * root + 1)]! d[first + (2 * root + 1) + 1]! = true) :
    Sort.siftDown (ltc c) hi first root d = if !ltc c d[first + root]! d[first + (2 * root + 2)]! then d else Sort.siftDown (ltc c) hi first (2 * root + 2) (Sort.swp d (first + root) (first + (2 * root + 2))) := by
  rw [Sort.siftDown, dif_neg h, if_pos (by simp [h2, h3])]
  split <;> first | rfl | rw [dif_pos (by omega)]
theorem sift_one (h : ¬ 2 * root + 1 ≥ hi) (h3 : 2 * root + 1 + 1 < hi → ltc c d[first + (2 * root + 1)]! d[first + (2 * root + 1) + 1]! = false) :
    Sort.siftDown (ltc c) hi first root d = if !ltc c d[first + root]! d[first + (2 * root + 1)]! then d else Sort.siftDown (ltc c) hi first (2 * root + 1) (Sort.swp d (first + root) (first + (2 * root + 1))) := by
  rw [Sort.siftDown, dif_neg h, if_neg (by
    rw [Bool.and_eq_true, decide_eq_true_eq]; rintro ⟨h4, h5⟩; rw [h3 h4] at h5; cases h5)]
theorem sift_size (hi first root : Nat) (d : DA) : (Sort.siftDown (ltc c) hi first root d).size = d.size := by
  fun_induction Sort.siftDown (ltc c) hi first root d <;> simp_all [Sort.swp]
theorem heap_eq (h : a < b) : Sort.heapSort (ltc c) d a b = Sort.heapPop (ltc c) a (b - a) (Sort.heapBuild (ltc c) (b - a) a ((b - a - 1) / 2 + 1) d) := rfl
end
end Go.So
/- Walks through the Go functions api.Tuple], api.Tuple], api.Tuple], api.Tuple], as typed contracts. -/
namespace Go.Proofs.Ytakkjljhjfkkbaa
open Go Go.Gw Go.So
set_option linter.unusedVariables false
set_option linter.unusedSimpArgs false
variable {Z : SlTy}

set_option maxHeartbeats 1000000 in
set_option maxRecDepth 20000 in
/-- slices.insertionSortCmpFunc[rhizome/api.Tuple] -/
theorem ins_fn (v fv : Value) (d : DA) (a b : Nat) (c : List Int → List Int → Int) (hm : d.size < 4611686018427387904) (hab : a ≤ b) (hb : b ≤ d.size) (hfv : ∀ x y, CtV Try.prog fv [(kG Z).T x, (kG Z).T y] [] Unit (fun _ => I64 (c x y)) (fun _ => []) (fun _ => True)) : Ct Try.prog 40 [IsV v, I64 (a : Int), I64 (b : Int), IsV fv] ([OwnI 45 (kG Z) v d.toList]) Unit (fun _ => AnyT) (fun _ => [OwnI 45 (kG Z) v (Sort.insertionSort (ltc c) d a b).toList]) (fun _ => True) := by
  refine fn_intro Try.func40 rfl rfl ?_
  intro H w
  refine tr_seq ?_
  -- region 0
  refine tr_env (es_cons (t := 0) (OT.tmp rfl) (es_cons (t := 1) (OT.tmp rfl) (es_cons (t := 2) (OT.tmp rfl) (es_cons (t := 3) (OT.tmp rfl) es_nil)))) ?_
  refine tr_region ?_
  refine op_pure (pu_move (OT.tmp rfl)) rfl rfl ?_
  refine op_pure (pu_add' (OT.tmp rfl) OT.const (by omega)) rfl rfl ?_
  refine op_pure (pu_assign (OT.tmp rfl)) rfl rfl ?_
  refine tr_nil ?_
  refine then_normal ?_
  refine tr_block ?_
  refine tr_loopK (σ := Nat × DA) (es_cons (t := 0) (OT.tmp rfl) (es_cons (t := 1) (OT.tmp rfl) (es_cons (t := 2) (OT.tmp rfl) (es_cons (t := 3) (OT.tmp rfl) es_nil)))) (fun s => [(8, I64 (s.1 : Int))]) (fun s => [OwnI 45 (kG Z) v s.2.toList]) (fun s => a + 1 ≤ s.1 ∧ s.2.size = d.size ∧ Sort.insOuter (ltc c) a b s.1 s.2 = Sort.insertionSort (ltc c) d a b) (fun s => b - s.1) (a + 1, d) ⟨by simp, rfl, rfl⟩ ?_ (own_picks (by repeat (first | exact picks_nil | refine picks_cons 0 rfl ?_ | refine picks_cons 1 rfl ?_ | refine picks_cons 2 rfl ?_ | refine picks_cons 3 rfl ?_ | refine picks_cons 4 rfl ?_ | refine picks_cons 5 rfl ?_ | refine picks_cons 6 rfl ?_))) ?_
  · exact (es_cons (t := 8) (by exact OT.tmp rfl) es_nil)
  · rintro ⟨i, d1⟩ ⟨hi0, hs1, hi⟩
    dsimp only at hi0 hs1 hi ⊢
    refine tr_seq ?_
    refine tr_seq ?_
    -- region 1
    refine tr_env (es_cons (t := 0) (OT.tmp rfl) (es_cons (t := 1) (OT.tmp rfl) (es_cons (t := 2) (OT.tmp rfl) (es_cons (t := 3) (OT.tmp rfl) (es_cons (t := 8) (OT.tmp rfl) es_nil))))) ?_
    refine tr_region ?_
    refine op_pure (pu_move (OT.tmp rfl)) rfl rfl ?_
    refine op_pure (pu_move (OT.tmp rfl)) rfl rfl ?_
    refine op_pure (pu_lss (OT.tmp rfl) (OT.tmp rfl)) rfl rfl ?_
    refine tr_nil ?_
    refine then_normal ?_
    refine tr_cond (OT.tmp rfl) (fun c14 => ?_) (fun c14 => ?_)
    · try simp only [decide_eq_true_eq, decide_eq_false_iff_not, Bool.or_eq_true, Bool.and_eq_true, Bool.or_eq_false_iff, Bool.and_eq_false_iff, Bool.not_eq_true', Bool.not_eq_false', ne_eq, Classical.not_not] at c14
      refine tr_skip ?_
      refine then_normal ?_
      refine tr_seq ?_
      refine tr_block ?_
      refine tr_seq ?_
      -- region 3
      refine tr_env (es_cons (t := 0) (OT.tmp rfl) (es_cons (t := 1) (OT.tmp rfl) (es_cons (t := 2) (OT.tmp rfl) (es_cons (t := 3) (OT.tmp rfl) (es_cons (t := 8) (OT.tmp rfl) es_nil))))) ?_
      refine tr_region ?_
      refine op_pure (pu_move (OT.tmp rfl)) rfl rfl ?_
      refine op_pure (pu_assign (OT.tmp rfl)) rfl rfl ?_
      refine tr_nil ?_
      refine then_normal ?_
      refine tr_block ?_
      refine tr_loopK (σ := Nat × DA) (es_cons (t := 0) (OT.tmp rfl) (es_cons (t := 1) (OT.tmp rfl) (es_cons (t := 2) (OT.tmp rfl) (es_cons (t := 3) (OT.tmp rfl) (es_cons (t := 8) (OT.tmp rfl) es_nil))))) (fun s => [(9, I64 (s.1 : Int))]) (fun s => [OwnI 45 (kG Z) v s.2.toList]) (fun s => a ≤ s.1 ∧ s.1 ≤ i ∧ s.2.size = d.size ∧ Sort.insInner (ltc c) a s.1 s.2 = Sort.insInner (ltc c) a i d1) (fun s => s.1) (i, d1) ⟨by omega, by simp, hs1, rfl⟩ ?_ (own_picks (by repeat (first | exact picks_nil | refine picks_cons 0 rfl ?_ | refine picks_cons 1 rfl ?_ | refine picks_cons 2 rfl ?_ | refine picks_cons 3 rfl ?_ | refine picks_cons 4 rfl ?_ | refine picks_cons 5 rfl ?_ | refine picks_cons 6 rfl ?_))) ?_
      · exact (es_cons (t := 9) (by exact OT.tmp rfl) es_nil)
      · rintro ⟨j, d2⟩ ⟨hj0, hj1, hs2, hj⟩
        dsimp only at hj0 hj1 hs2 hj ⊢
        have hl2 : d2.toList.length = d2.size := Array.length_toList
        refine tr_seq ?_
        refine tr_seq ?_
        -- region 4
        refine tr_env (es_cons (t := 0) (OT.tmp rfl) (es_cons (t := 1) (OT.tmp rfl) (es_cons (t := 2) (OT.tmp rfl) (es_cons (t := 3) (OT.tmp rfl) (es_cons (t := 8) (OT.tmp rfl) (es_cons (t := 9) (OT.tmp rfl) es_nil)))))) ?_
        have hlt1 : i < d2.size := by omega
        apply tr_any (m := 14) (ns := [[(9, none)], [(1, none)], [(18, some 0), (19, some 1)], [(20, some 2)], [(3, none), (21, some 3)], [(0, none), (21, some 3)], [(9, none), (21, some 3)], [(21, some 3), (23, some 5), (24, some 6)], [(21, some 3), (25, some 7)], [(0, none), (21, some 3)], [(9, none), (21, some 3)], [(21, some 3), (28, some 10)], [(21, some 3), (27, some 9), (29, some 11)], [(21, some 3), (30, some 12)]]) (by kernel_rfl) (by kernel_rfl) (Ts := [_, _, _, _, _, _, _, _, _, _, _, _, _, _]) rfl
        case hops =>
          refine ⟨?_, ⟨?_, ⟨?_, ⟨?_, ⟨?_, ⟨?_, ⟨?_, ⟨?_, ⟨?_, ⟨?_, ⟨?_, ⟨?_, ⟨?_, ⟨?_, trivial⟩⟩⟩⟩⟩⟩⟩⟩⟩⟩⟩⟩⟩⟩
          · exact rop_pure rfl (pu_move (OT.tmp rfl))
          · exact rop_pure rfl (pu_move (OT.tmp rfl))
          · exact rop_pure rfl (pu_gtr (OT.tmp rfl) (OT.tmp rfl))
          · exact rop_pure rfl (pu_move (OT.tmp rfl))
          · exact rop_gu rfl rfl rfl (OT.gu_mk (OT.tmp rfl)) (fun hg => by (have hg1 := hg.2; exact rop_pure rfl (pu_move (by exact OT.tmp rfl))))
          · exact rop_gu rfl rfl rfl (OT.gu_mk (OT.tmp rfl)) (fun hg => by (have hg1 := hg.2; exact rop_pure rfl (pu_move (by exact OT.tmp rfl))))
          · exact rop_gu rfl rfl rfl (OT.gu_mk (OT.tmp rfl)) (fun hg => by (have hg1 := hg.2; exact rop_pure rfl (pu_move (by exact OT.tmp rfl))))
          · exact rop_gu rfl rfl rfl (OT.gu_mk (OT.tmp rfl)) (fun hg => by (have hg1 := hg.2; exact rop_pure rfl (pu_index_own (by exact OT.gu (OT.tmp rfl) hg) (by exact mem_at 0 rfl) (by exact OT.gu (OT.tmp rfl) hg) Try.underlying35 (show tyOk Try.prog 45 false 1 = true from by decide +kernel) (by omega) (by omega))))
          · exact rop_gu rfl rfl rfl (OT.gu_mk (OT.tmp rfl)) (fun hg => by (have hg1 := hg.2; exact rop_pure rfl (pu_load_own0 (by exact OT.gu (OT.tmp rfl) hg) (by exact mem_at 0 rfl) (by omega) (by omega) (show tyOk Try.prog 45 false 1 = true from by decide +kernel))))
          · exact rop_gu rfl rfl rfl (OT.gu_mk (OT.tmp rfl)) (fun hg => by (have hg1 := hg.2; exact rop_pure rfl (pu_move (by exact OT.tmp rfl))))
          · exact rop_gu rfl rfl rfl (OT.gu_mk (OT.tmp rfl)) (fun hg => by (have hg1 := hg.2; exact rop_pure rfl (pu_move (by exact OT.tmp rfl))))
          · exact rop_gu rfl rfl rfl (OT.gu_mk (OT.tmp rfl)) (fun hg => by (have hg1 := hg.2; exact rop_pure rfl (pu_sub' (by exact OT.gu (OT.tmp rfl) hg) OT.const (by omega))))
          · exact rop_gu rfl rfl rfl (OT.gu_mk (OT.tmp rfl)) (fun hg => by (have hg1 := hg.2; exact rop_pure rfl (pu_index_own (by exact OT.gu (OT.tmp rfl) hg) (by exact mem_at 0 rfl) (by exact OT.gu (OT.tmp rfl) hg) Try.underlying35 (show tyOk Try.prog 45 false 1 = true from by decide +kernel) (by (simp [maxLen] at *; omega)) (by omega))))
          · exact rop_gu rfl rfl rfl (OT.gu_mk (OT.tmp rfl)) (fun hg => by (have hg1 := hg.2; exact rop_pure rfl (pu_load_own0 (by exact OT.gu (OT.tmp rfl) hg) (by exact mem_at 0 rfl) (by (simp [maxLen] at *; omega)) (by omega) (show tyOk Try.prog 45 false 1 = true from by decide +kernel))))
        case h =>
          refine op_gu_acts () rfl rfl rfl (OT.gu_mk (OT.tmp rfl)) (fun hg => by (have hg1 := hg.2; (try simp only [decide_eq_true_eq, decide_eq_false_iff_not] at hg1); exact acts_callv (by exact OT.gu (OT.tmp rfl) hg) (hfv _ _) (OTs.cons (by exact OT.gu (OT.tmp rfl) hg) (OTs.cons (by exact OT.gu (OT.tmp rfl) hg) OTs.nil)) (List.Perm.refl _))) rfl (fun _ _ => ?_)
          refine op_gu rfl rfl rfl (OT.gu_mk (OT.tmp rfl)) (fun hg => by (have hg1 := hg.2; (try simp only [decide_eq_true_eq, decide_eq_false_iff_not] at hg1); exact pu_lss (by exact OT.gu (OT.tmp rfl) hg) OT.const)) rfl ?_
          refine op_pure (pu_pick_and (OT.tmp rfl) (by exact OT.tmp rfl)) rfl rfl ?_
          refine tr_nil ?_
          refine then_normal ?_
          refine tr_cond (OT.tmp rfl) (fun c34 => ?_) (fun c34 => ?_)
          · try simp only [decide_eq_true_eq, decide_eq_false_iff_not, Bool.or_eq_true, Bool.and_eq_true, Bool.or_eq_false_iff, Bool.and_eq_false_iff, Bool.not_eq_true', Bool.not_eq_false', ne_eq, Classical.not_not] at c34
            obtain ⟨hc1, hc2⟩ := c34
            have hj1' : ((j : Int) - 1) = ((j - 1 : Nat) : Int) := by omega
            have hgo : Sort.insInner (ltc c) a (j - 1) (Sort.swp d2 j (j - 1)) = Sort.insInner (ltc c) a i d1 := (insIn_step (c := c) (d := d2) (a := a) (j := j) (by omega) (by rw [ltc_at (by omega) (by omega), ← hj1']; simpa using hc2)).symm.trans hj
            have hsw : (Sort.swp d2 j (j - 1)).toList = (d2.toList.set (j : Int).toNat (at' d2.toList ((j : Int) - 1))).set ((j : Int) - 1).toNat (at' d2.toList (j : Int)) := by rw [swp_items (by omega) (by omega) (by omega) (by omega)]; simp [hj1']
            refine tr_skip ?_
            refine then_normal ?_
            refine tr_seq ?_
            refine tr_block ?_
            -- region 6
            refine tr_env (es_cons (t := 0) (OT.tmp rfl) (es_cons (t := 1) (OT.tmp rfl) (es_cons (t := 2) (OT.tmp rfl) (es_cons (t := 3) (OT.tmp rfl) (es_cons (t := 8) (OT.tmp rfl) (es_cons (t := 9) (OT.tmp rfl) es_nil)))))) ?_
            apply tr_anyW (p := 15) (Lf := fun c => cond c ([OwnI 45 (kG Z) v (d2.toList.set (j : Int).toNat (at' d2.toList ((j : Int) - 1)))]) ([OwnI 45 (kG Z) v d2.toList])) (by kernel_rfl) (m := 16) (ns := [[(0, none)], [(9, none)], [(0, none)], [(9, none)], [(40, some 3)], [(0, none)], [(9, none)], [(43, some 6)], [(42, some 5), (44, some 7)], [(45, some 8)], [(0, none)], [(9, none)], [(47, some 10), (48, some 11)], [(49, some 12)], [(37, some 0), (38, some 1)], [(46, some 9), (51, some 14)]]) (by kernel_rfl) (by kernel_rfl) (Ts := [_, _, _, _, _, _, _, _, _, _, _, _, _, _, _, _]) rfl
            case hops =>
              refine ⟨?_, ⟨?_, ⟨?_, ⟨?_, ⟨?_, ⟨?_, ⟨?_, ⟨?_, ⟨?_, ⟨?_, ⟨?_, ⟨?_, ⟨?_, ⟨?_, ⟨?_, ⟨?_, trivial⟩⟩⟩⟩⟩⟩⟩⟩⟩⟩⟩⟩⟩⟩⟩⟩
              · intro c hc; cases c
                · exact ropw_of (rop_pure rfl (pu_move (OT.tmp rfl)))
                · exact Bool.noConfusion (hc.symm.trans (by kernel_rfl : okFlag _ _ _ _ = false))
              · intro c hc; cases c
                · exact ropw_of (rop_pure rfl (pu_move (OT.tmp rfl)))
                · exact Bool.noConfusion (hc.symm.trans (by kernel_rfl : okFlag _ _ _ _ = false))
              · intro c hc; cases c
                · exact ropw_of (rop_pure rfl (pu_move (OT.tmp rfl)))
                · exact ropw_of (rop_pure rfl (pu_move (OT.tmp rfl)))
              · intro c hc; cases c
                · exact ropw_of (rop_pure rfl (pu_move (OT.tmp rfl)))
                · exact ropw_of (rop_pure rfl (pu_move (OT.tmp rfl)))
              · intro c hc; cases c
                · exact ropw_of (rop_pure rfl (pu_sub' (OT.tmp rfl) OT.const (by omega)))
                · exact ropw_of (rop_pure rfl (pu_sub' (OT.tmp rfl) OT.const (by omega)))
              · intro c hc; cases c
                · exact ropw_of (rop_pure rfl (pu_move (OT.tmp rfl)))
                · exact Bool.noConfusion (hc.symm.trans (by kernel_rfl : okFlag _ _ _ _ = false))
              · intro c hc; cases c
                · exact ropw_of (rop_pure rfl (pu_move (OT.tmp rfl)))
                · exact Bool.noConfusion (hc.symm.trans (by kernel_rfl : okFlag _ _ _ _ = false))
              · intro c hc; cases c
                · exact ropw_of (rop_pure rfl (pu_sub' (OT.tmp rfl) OT.const (by omega)))
                · exact Bool.noConfusion (hc.symm.trans (by kernel_rfl : okFlag _ _ _ _ = false))
              · intro c hc; cases c
                · exact ropw_of (rop_pure rfl (pu_index_own (OT.tmp rfl) (by exact mem_at 0 rfl) (OT.tmp rfl) Try.underlying35 (show tyOk Try.prog 45 false 1 = true from by decide +kernel) (by omega) (by omega)))
                · exact Bool.noConfusion (hc.symm.trans (by kernel_rfl : okFlag _ _ _ _ = false))
              · intro c hc; cases c
                · exact ropw_of (rop_pure rfl (pu_load_own0 (OT.tmp rfl) (by exact mem_at 0 rfl) (by omega) (by omega) (show tyOk Try.prog 45 false 1 = true from by decide +kernel)))
                · exact Bool.noConfusion (hc.symm.trans (by kernel_rfl : okFlag _ _ _ _ = false))
              · intro c hc; cases c
                · exact ropw_of (rop_pure rfl (pu_move (OT.tmp rfl)))
                · exact Bool.noConfusion (hc.symm.trans (by kernel_rfl : okFlag _ _ _ _ = false))
              · intro c hc; cases c
                · exact ropw_of (rop_pure rfl (pu_move (OT.tmp rfl)))
                · exact Bool.noConfusion (hc.symm.trans (by kernel_rfl : okFlag _ _ _ _ = false))
              · intro c hc; cases c
                · exact ropw_of (rop_pure rfl (pu_index_own (OT.tmp rfl) (by exact mem_at 0 rfl) (OT.tmp rfl) Try.underlying35 (show tyOk Try.prog 45 false 1 = true from by decide +kernel) (by omega) (by omega)))
                · exact Bool.noConfusion (hc.symm.trans (by kernel_rfl : okFlag _ _ _ _ = false))
              · intro c hc; cases c
                · exact ropw_of (rop_pure rfl (pu_load_own0 (OT.tmp rfl) (by exact mem_at 0 rfl) (by omega) (by omega) (show tyOk Try.prog 45 false 1 = true from by decide +kernel)))
                · exact Bool.noConfusion (hc.symm.trans (by kernel_rfl : okFlag _ _ _ _ = false))
              · intro c hc; cases c
                · exact ropw_of (rop_pure rfl (pu_index_own (OT.tmp rfl) (by exact mem_at 0 rfl) (OT.tmp rfl) Try.underlying35 (show tyOk Try.prog 45 false 1 = true from by decide +kernel) (by omega) (by omega)))
                · exact Bool.noConfusion (hc.symm.trans (by kernel_rfl : okFlag _ _ _ _ = false))
              · intro c hc; cases c
                · exact ropw_acts rfl (acts_store_own0 (OT.tmp rfl) (OT.tmp rfl) (by exact perm_at 0 rfl) (by omega) (by omega) (show tyOk Try.prog 45 false 1 = true from by decide +kernel)) (by exact perm_at 0 rfl) (fun _ => (by exact perm_at 0 rfl)) (fun _ _ _ _ h => h)
                · exact Bool.noConfusion (hc.symm.trans (by kernel_rfl : okFlag _ _ _ _ = false))
            case h =>
              refine op_pure (pu_index_own (OT.tmp rfl) (by exact mem_at 0 rfl) (OT.tmp rfl) Try.underlying35 (show tyOk Try.prog 45 false 1 = true from by decide +kernel) (by omega) (by (simp; omega))) rfl rfl ?_
              refine op_acts (acts_store_own0 (OT.tmp rfl) (OT.tmp rfl) (by exact perm_at 0 rfl) (by omega) (by (simp; omega)) (show tyOk Try.prog 45 false 1 = true from by decide +kernel)) (by exact perm_at 0 rfl) rfl rfl (fun _ _ => ?_)
              refine tr_nil ?_
              refine block_normal ?_
              refine then_normal ?_
              -- region 5
              refine tr_env (es_cons (t := 0) (OT.tmp rfl) (es_cons (t := 1) (OT.tmp rfl) (es_cons (t := 2) (OT.tmp rfl) (es_cons (t := 3) (OT.tmp rfl) (es_cons (t := 8) (OT.tmp rfl) (es_cons (t := 9) (OT.tmp rfl) es_nil)))))) ?_
              refine tr_region ?_
              refine op_pure (pu_move (OT.tmp rfl)) rfl rfl ?_
              refine op_pure (pu_sub' (OT.tmp rfl) OT.const (by omega)) rfl rfl ?_
              refine op_pure (pu_assign (OT.tmp rfl)) rfl rfl ?_
              refine tr_nil ?_
              refine then_normal ?_
              exact tr_again (j - 1, Sort.swp d2 j (j - 1)) ⟨by show a ≤ j - 1; omega, by show j - 1 ≤ i; omega, swp_size.trans hs2, hgo⟩ (by omega) (es_append (es_cons (t := 9) (OT.val (OT.tmp rfl) (congrArg (Value.int _) (by omega))) es_nil) (es_cons (t := 0) (OT.tmp rfl) (es_cons (t := 1) (OT.tmp rfl) (es_cons (t := 2) (OT.tmp rfl) (es_cons (t := 3) (OT.tmp rfl) (es_cons (t := 8) (OT.tmp rfl) es_nil)))))) (own_picks (by rw [hsw]; exact (by repeat (first | exact picks_nil | refine picks_cons 0 rfl ?_ | refine picks_cons 1 rfl ?_ | refine picks_cons 2 rfl ?_ | refine picks_cons 3 rfl ?_ | refine picks_cons 4 rfl ?_ | refine picks_cons 5 rfl ?_ | refine picks_cons 6 rfl ?_))))
          · try simp only [decide_eq_true_eq, decide_eq_false_iff_not, Bool.or_eq_true, Bool.and_eq_true, Bool.or_eq_false_iff, Bool.and_eq_false_iff, Bool.not_eq_true', Bool.not_eq_false', ne_eq, Classical.not_not] at c34
            have hend : Sort.insInner (ltc c) a j d2 = d2 := insIn_stop (fun h => by rw [ltc_at (by omega) (by omega), show ((j - 1 : Nat) : Int) = (j : Int) - 1 from by omega]; rcases c34 with h9 | h9; omega; simpa using h9)
            have hnx : Sort.insOuter (ltc c) a b (i + 1) d2 = Sort.insertionSort (ltc c) d a b := by
              have h9 := insOut_step (c := c) (a := a) (d := d1) (i := i) (b := b) (by omega)
              rw [hi, ← hj, hend] at h9
              exact h9.symm
            refine tr_exit ?_
            refine then_exit ?_
            refine then_exit ?_
            refine block_hit ?_
            refine block_normal ?_
            refine then_normal ?_
            -- region 2
            refine tr_env (es_cons (t := 0) (OT.tmp rfl) (es_cons (t := 1) (OT.tmp rfl) (es_cons (t := 2) (OT.tmp rfl) (es_cons (t := 3) (OT.tmp rfl) (es_cons (t := 8) (OT.tmp rfl) es_nil))))) ?_
            refine tr_region ?_
            refine op_pure (pu_move (OT.tmp rfl)) rfl rfl ?_
            refine op_pure (pu_add' (OT.tmp rfl) OT.const (by omega)) rfl rfl ?_
            refine op_pure (pu_assign (OT.tmp rfl)) rfl rfl ?_
            refine tr_nil ?_
            refine then_normal ?_
            exact tr_again (i + 1, d2) ⟨by show a + 1 ≤ i + 1; omega, hs2, hnx⟩ (by omega) (es_append (es_cons (t := 8) (by exact OT.tmp rfl) es_nil) (es_cons (t := 0) (OT.tmp rfl) (es_cons (t := 1) (OT.tmp rfl) (es_cons (t := 2) (OT.tmp rfl) (es_cons (t := 3) (OT.tmp rfl) es_nil))))) (own_picks (by repeat (first | exact picks_nil | refine picks_cons 0 rfl ?_ | refine picks_cons 1 rfl ?_ | refine picks_cons 2 rfl ?_ | refine picks_cons 3 rfl ?_ | refine picks_cons 4 rfl ?_ | refine picks_cons 5 rfl ?_ | refine picks_cons 6 rfl ?_)))
    · try simp only [decide_eq_true_eq, decide_eq_false_iff_not, Bool.or_eq_true, Bool.and_eq_true, Bool.or_eq_false_iff, Bool.and_eq_false_iff, Bool.not_eq_true', Bool.not_eq_false', ne_eq, Classical.not_not] at c14
      have hfin : d1 = Sort.insertionSort (ltc c) d a b := by rw [← hi, insOut_end (by omega)]
      refine tr_exit ?_
      refine then_exit ?_
      refine then_exit ?_
      refine block_hit ?_
      exact ret_none .normal (.inr rfl) rfl () (fun _ => trivial) trivial (by rw [← hfin]; exact picks_cons 0 rfl picks_nil)
set_option maxHeartbeats 1000000 in
set_option maxRecDepth 20000 in
/-- slices.reverseRangeCmpFunc[rhizome/api.Tuple] -/
theorem rev_fn (v fv : Value) (d : DA) (a b : Nat) (hm : d.size < 4611686018427387904) (hab : a < b) (hb : b ≤ d.size) : Ct Try.prog 44 [IsV v, I64 (a : Int), I64 (b : Int), IsV fv] ([OwnI 45 (kG Z) v d.toList]) Unit (fun _ => AnyT) (fun _ => [OwnI 45 (kG Z) v (Sort.reverseRange d a b).toList]) (fun _ => True) := by
  refine fn_intro Try.func44 rfl rfl ?_
  intro H w
  refine tr_seq ?_
  -- region 0
  refine tr_env (es_cons (t := 0) (OT.tmp rfl) (es_cons (t := 1) (OT.tmp rfl) (es_cons (t := 2) (OT.tmp rfl) es_nil))) ?_
  refine tr_region ?_
  refine op_pure (pu_move (OT.tmp rfl)) rfl rfl ?_
  refine op_pure (pu_assign (OT.tmp rfl)) rfl rfl ?_
  refine tr_nil ?_
  refine then_normal ?_
  refine tr_seq ?_
  -- region 1
  refine tr_env (es_cons (t := 0) (OT.tmp rfl) (es_cons (t := 2) (OT.tmp rfl) (es_cons (t := 8) (OT.tmp rfl) es_nil))) ?_
  refine tr_region ?_
  refine op_pure (pu_move (OT.tmp rfl)) rfl rfl ?_
  refine op_pure (pu_sub' (OT.tmp rfl) OT.const (by omega)) rfl rfl ?_
  refine op_pure (pu_assign (OT.tmp rfl)) rfl rfl ?_
  refine tr_nil ?_
  refine then_normal ?_
  refine tr_block ?_
  refine tr_loopK (σ := Nat × Nat × DA) (es_cons (t := 0) (OT.tmp rfl) es_nil) (fun s => [(8, I64 (s.1 : Int)), (9, I64 (s.2.1 : Int))]) (fun s => [OwnI 45 (kG Z) v s.2.2.toList]) (fun s => s.2.1 < d.size ∧ s.2.2.size = d.size ∧ Sort.reverseLoop s.1 s.2.1 s.2.2 = Sort.reverseRange d a b) (fun s => s.2.1 - s.1) (a, b - 1, d) ⟨by show b - 1 < d.size; omega, rfl, rfl⟩ ?_ (own_picks (by repeat (first | exact picks_nil | refine picks_cons 0 rfl ?_ | refine picks_cons 1 rfl ?_ | refine picks_cons 2 rfl ?_ | refine picks_cons 3 rfl ?_ | refine picks_cons 4 rfl ?_ | refine picks_cons 5 rfl ?_ | refine picks_cons 6 rfl ?_))) ?_
  · exact (es_cons (t := 8) (by exact OT.tmp rfl) (es_cons (t := 9) (by exact OT.val (OT.tmp rfl) (congrArg (Value.int _) (by (simp; omega)))) es_nil))
  · rintro ⟨i, j, d1⟩ ⟨hj, hs1, hr⟩
    dsimp only at hj hs1 hr ⊢
    have hl1 : d1.toList.length = d1.size := Array.length_toList
    refine tr_seq ?_
    refine tr_seq ?_
    -- region 2
    refine tr_env (es_cons (t := 0) (OT.tmp rfl) (es_cons (t := 8) (OT.tmp rfl) (es_cons (t := 9) (OT.tmp rfl) es_nil))) ?_
    refine tr_region ?_
    refine op_pure (pu_move (OT.tmp rfl)) rfl rfl ?_
    refine op_pure (pu_move (OT.tmp rfl)) rfl rfl ?_
    refine op_pure (pu_lss (OT.tmp rfl) (OT.tmp rfl)) rfl rfl ?_
    refine tr_nil ?_
    refine then_normal ?_
    refine tr_cond (OT.tmp rfl) (fun c15 => ?_) (fun c15 => ?_)
    · try simp only [decide_eq_true_eq, decide_eq_false_iff_not, Bool.or_eq_true, Bool.and_eq_true, Bool.or_eq_false_iff, Bool.and_eq_false_iff, Bool.not_eq_true', Bool.not_eq_false', ne_eq, Classical.not_not] at c15
      have hsw : (Sort.swp d1 i j).toList = (d1.toList.set (i : Int).toNat (at' d1.toList (j : Int))).set (j : Int).toNat (at' d1.toList (i : Int)) := by rw [swp_items (by omega) (by omega) (by omega) (by omega)]; simp
      have hnx := (rev_step (d := d1) (i := i) (j := j) (by omega)).symm.trans hr
      refine tr_skip ?_
      refine then_normal ?_
      refine tr_block ?_
      refine tr_seq ?_
      -- region 3
      refine tr_env (es_cons (t := 0) (OT.tmp rfl) (es_cons (t := 8) (OT.tmp rfl) (es_cons (t := 9) (OT.tmp rfl) es_nil))) ?_
      apply tr_anyW (p := 13) (Lf := fun c => cond c ([OwnI 45 (kG Z) v (d1.toList.set (i : Int).toNat (at' d1.toList (j : Int)))]) ([OwnI 45 (kG Z) v d1.toList])) (by kernel_rfl) (m := 14) (ns := [[(0, none)], [(8, none)], [(0, none)], [(9, none)], [(0, none)], [(9, none)], [(20, some 4), (21, some 5)], [(22, some 6)], [(0, none)], [(8, none)], [(24, some 8), (25, some 9)], [(26, some 10)], [(16, some 0), (17, some 1)], [(23, some 7), (28, some 12)]]) (by kernel_rfl) (by kernel_rfl) (Ts := [_, _, _, _, _, _, _, _, _, _, _, _, _, _]) rfl
      case hops =>
        refine ⟨?_, ⟨?_, ⟨?_, ⟨?_, ⟨?_, ⟨?_, ⟨?_, ⟨?_, ⟨?_, ⟨?_, ⟨?_, ⟨?_, ⟨?_, ⟨?_, trivial⟩⟩⟩⟩⟩⟩⟩⟩⟩⟩⟩⟩⟩⟩
        · intro c hc; cases c
          · exact ropw_of (rop_pure rfl (pu_move (OT.tmp rfl)))
          · exact Bool.noConfusion (hc.symm.trans (by kernel_rfl : okFlag _ _ _ _ = false))
        · intro c hc; cases c
          · exact ropw_of (rop_pure rfl (pu_move (OT.tmp rfl)))
          · exact Bool.noConfusion (hc.symm.trans (by kernel_rfl : okFlag _ _ _ _ = false))
        · intro c hc; cases c
          · exact ropw_of (rop_pure rfl (pu_move (OT.tmp rfl)))
          · exact ropw_of (rop_pure rfl (pu_move (OT.tmp rfl)))
        · intro c hc; cases c
          · exact ropw_of (rop_pure rfl (pu_move (OT.tmp rfl)))
          · exact ropw_of (rop_pure rfl (pu_move (OT.tmp rfl)))
        · intro c hc; cases c
          · exact ropw_of (rop_pure rfl (pu_move (OT.tmp rfl)))
          · exact Bool.noConfusion (hc.symm.trans (by kernel_rfl : okFlag _ _ _ _ = false))
        · intro c hc; cases c
          · exact ropw_of (rop_pure rfl (pu_move (OT.tmp rfl)))
          · exact Bool.noConfusion (hc.symm.trans (by kernel_rfl : okFlag _ _ _ _ = false))
        · intro c hc; cases c
          · exact ropw_of (rop_pure rfl (pu_index_own (OT.tmp rfl) (by exact mem_at 0 rfl) (OT.tmp rfl) Try.underlying35 (show tyOk Try.prog 45 false 1 = true from by decide +kernel) (by omega) (by omega)))
          · exact Bool.noConfusion (hc.symm.trans (by kernel_rfl : okFlag _ _ _ _ = false))
        · intro c hc; cases c
          · exact ropw_of (rop_pure rfl (pu_load_own0 (OT.tmp rfl) (by exact mem_at 0 rfl) (by omega) (by omega) (show tyOk Try.prog 45 false 1 = true from by decide +kernel)))
          · exact Bool.noConfusion (hc.symm.trans (by kernel_rfl : okFlag _ _ _ _ = false))
        · intro c hc; cases c
          · exact ropw_of (rop_pure rfl (pu_move (OT.tmp rfl)))
          · exact Bool.noConfusion (hc.symm.trans (by kernel_rfl : okFlag _ _ _ _ = false))
        · intro c hc; cases c
          · exact ropw_of (rop_pure rfl (pu_move (OT.tmp rfl)))
          · exact Bool.noConfusion (hc.symm.trans (by kernel_rfl : okFlag _ _ _ _ = false))
        · intro c hc; cases c
          · exact ropw_of (rop_pure rfl (pu_index_own (OT.tmp rfl) (by exact mem_at 0 rfl) (OT.tmp rfl) Try.underlying35 (show tyOk Try.prog 45 false 1 = true from by decide +kernel) (by omega) (by omega)))
          · exact Bool.noConfusion (hc.symm.trans (by kernel_rfl : okFlag _ _ _ _ = false))
        · intro c hc; cases c
          · exact ropw_of (rop_pure rfl (pu_load_own0 (OT.tmp rfl) (by exact mem_at 0 rfl) (by omega) (by omega) (show tyOk Try.prog 45 false 1 = true from by decide +kernel)))
          · exact Bool.noConfusion (hc.symm.trans (by kernel_rfl : okFlag _ _ _ _ = false))
        · intro c hc; cases c
          · exact ropw_of (rop_pure rfl (pu_index_own (OT.tmp rfl) (by exact mem_at 0 rfl) (OT.tmp rfl) Try.underlying35 (show tyOk Try.prog 45 false 1 = true from by decide +kernel) (by omega) (by omega)))
          · exact Bool.noConfusion (hc.symm.trans (by kernel_rfl : okFlag _ _ _ _ = false))
        · intro c hc; cases c
          · exact ropw_acts rfl (acts_store_own0 (OT.tmp rfl) (OT.tmp rfl) (by exact perm_at 0 rfl) (by omega) (by omega) (show tyOk Try.prog 45 false 1 = true from by decide +kernel)) (by exact perm_at 0 rfl) (fun _ => (by exact perm_at 0 rfl)) (fun _ _ _ _ h => h)
          · exact Bool.noConfusion (hc.symm.trans (by kernel_rfl : okFlag _ _ _ _ = false))
      case h =>
        refine op_pure (pu_index_own (OT.tmp rfl) (by exact mem_at 0 rfl) (OT.tmp rfl) Try.underlying35 (show tyOk Try.prog 45 false 1 = true from by decide +kernel) (by omega) (by (simp; omega))) rfl rfl ?_
        refine op_acts (acts_store_own0 (OT.tmp rfl) (OT.tmp rfl) (by exact perm_at 0 rfl) (by omega) (by (simp; omega)) (show tyOk Try.prog 45 false 1 = true from by decide +kernel)) (by exact perm_at 0 rfl) rfl rfl (fun _ _ => ?_)
        refine tr_nil ?_
        refine then_normal ?_
        refine tr_seq ?_
        -- region 4
        refine tr_env (es_cons (t := 0) (OT.tmp rfl) (es_cons (t := 8) (OT.tmp rfl) (es_cons (t := 9) (OT.tmp rfl) es_nil))) ?_
        refine tr_region ?_
        refine op_pure (pu_move (OT.tmp rfl)) rfl rfl ?_
        refine op_pure (pu_add' (OT.tmp rfl) OT.const (by omega)) rfl rfl ?_
        refine op_pure (pu_assign (OT.tmp rfl)) rfl rfl ?_
        refine tr_nil ?_
        refine then_normal ?_
        -- region 5
        refine tr_env (es_cons (t := 0) (OT.tmp rfl) (es_cons (t := 8) (OT.tmp rfl) (es_cons (t := 9) (OT.tmp rfl) es_nil))) ?_
        refine tr_region ?_
        refine op_pure (pu_move (OT.tmp rfl)) rfl rfl ?_
        refine op_pure (pu_sub' (OT.tmp rfl) OT.const (by omega)) rfl rfl ?_
        refine op_pure (pu_assign (OT.tmp rfl)) rfl rfl ?_
        refine tr_nil ?_
        refine block_normal ?_
        refine then_normal ?_
        exact tr_again (i + 1, j - 1, Sort.swp d1 i j) ⟨by show j - 1 < d.size; omega, swp_size.trans hs1, hnx⟩ (by show j - 1 - (i + 1) < j - i; omega) (es_append (es_cons (t := 8) (by exact OT.tmp rfl) (es_cons (t := 9) (by exact OT.val (OT.tmp rfl) (congrArg (Value.int _) (by (simp; omega)))) es_nil)) (es_cons (t := 0) (OT.tmp rfl) es_nil)) (own_picks (by rw [hsw]; exact (by repeat (first | exact picks_nil | refine picks_cons 0 rfl ?_ | refine picks_cons 1 rfl ?_ | refine picks_cons 2 rfl ?_ | refine picks_cons 3 rfl ?_ | refine picks_cons 4 rfl ?_ | refine picks_cons 5 rfl ?_ | refine picks_cons 6 rfl ?_))))
    · try simp only [decide_eq_true_eq, decide_eq_false_iff_not, Bool.or_eq_true, Bool.and_eq_true, Bool.or_eq_false_iff, Bool.and_eq_false_iff, Bool.not_eq_true', Bool.not_eq_false', ne_eq, Classical.not_not] at c15
      have hfin : d1 = Sort.reverseRange d a b := by rw [← hr, rev_end (by omega)]
      refine tr_exit ?_
      refine then_exit ?_
      refine then_exit ?_
      refine block_hit ?_
      exact ret_none .normal (.inr rfl) rfl () (fun _ => trivial) trivial (by rw [← hfin]; exact picks_cons 0 rfl picks_nil)
set_option maxHeartbeats 1000000 in
set_option maxRecDepth 20000 in
/-- slices.siftDownCmpFunc[rhizome/api.Tuple] -/
theorem sift_fn (v fv : Value) (d : DA) (lo hi first : Nat) (c : List Int → List Int → Int) (hm : d.size < 4611686018427387904) (hb : first + hi ≤ d.size) (hlo : lo ≤ hi) (hfv : ∀ x y, CtV Try.prog fv [(kG Z).T x, (kG Z).T y] [] Unit (fun _ => I64 (c x y)) (fun _ => []) (fun _ => True)) : Ct Try.prog 53 [IsV v, I64 (lo : Int), I64 (hi : Int), I64 (first : Int), IsV fv] ([OwnI 45 (kG Z) v d.toList]) Unit (fun _ => AnyT) (fun _ => [OwnI 45 (kG Z) v (Sort.siftDown (ltc c) hi first lo d).toList]) (fun _ => True) := by
  refine fn_intro Try.func53 rfl rfl ?_
  intro H w
  refine tr_seq ?_
  -- region 0
  refine tr_env (es_cons (t := 0) (OT.tmp rfl) (es_cons (t := 1) (OT.tmp rfl) (es_cons (t := 2) (OT.tmp rfl) (es_cons (t := 3) (OT.tmp rfl) (es_cons (t := 4) (OT.tmp rfl) es_nil))))) ?_
  refine tr_region ?_
  refine op_pure (pu_move (OT.tmp rfl)) rfl rfl ?_
  refine op_pure (pu_assign (OT.tmp rfl)) rfl rfl ?_
  refine tr_nil ?_
  refine then_normal ?_
  refine tr_block ?_
  refine tr_loopK (σ := Nat × DA) (es_cons (t := 0) (OT.tmp rfl) (es_cons (t := 2) (OT.tmp rfl) (es_cons (t := 3) (OT.tmp rfl) (es_cons (t := 4) (OT.tmp rfl) es_nil)))) (fun s => [(10, I64 (s.1 : Int))]) (fun s => [OwnI 45 (kG Z) v s.2.toList]) (fun s => s.1 ≤ hi ∧ s.2.size = d.size ∧ Sort.siftDown (ltc c) hi first s.1 s.2 = Sort.siftDown (ltc c) hi first lo d) (fun s => hi - s.1) (lo, d) ⟨hlo, rfl, rfl⟩ ?_ (own_picks (by repeat (first | exact picks_nil | refine picks_cons 0 rfl ?_ | refine picks_cons 1 rfl ?_ | refine picks_cons 2 rfl ?_ | refine picks_cons 3 rfl ?_ | refine picks_cons 4 rfl ?_ | refine picks_cons 5 rfl ?_ | refine picks_cons 6 rfl ?_))) ?_
  · exact (es_cons (t := 10) (by exact OT.tmp rfl) es_nil)
  · rintro ⟨root, d1⟩ ⟨hrh, hs1, hr⟩
    dsimp only at hrh hs1 hr ⊢
    have hl1 : d1.toList.length = d1.size := Array.length_toList
    refine tr_block ?_
    refine tr_seq ?_
    -- region 1
    refine tr_env (es_cons (t := 0) (OT.tmp rfl) (es_cons (t := 2) (OT.tmp rfl) (es_cons (t := 3) (OT.tmp rfl) (es_cons (t := 4) (OT.tmp rfl) (es_cons (t := 10) (OT.tmp rfl) es_nil))))) ?_
    refine tr_region ?_
    refine op_pure (pu_move (OT.tmp rfl)) rfl rfl ?_
    refine op_pure (pu_mul' OT.const (OT.tmp rfl) (by omega)) rfl rfl ?_
    refine op_pure (pu_add' (OT.tmp rfl) OT.const (by omega)) rfl rfl ?_
    refine op_pure (pu_assign (OT.tmp rfl)) rfl rfl ?_
    refine tr_nil ?_
    refine then_normal ?_
    refine tr_seq ?_
    refine tr_seq ?_
    -- region 2
    refine tr_env (es_cons (t := 0) (OT.tmp rfl) (es_cons (t := 2) (OT.tmp rfl) (es_cons (t := 3) (OT.tmp rfl) (es_cons (t := 4) (OT.tmp rfl) (es_cons (t := 10) (OT.tmp rfl) (es_cons (t := 11) (OT.tmp rfl) es_nil)))))) ?_
    refine tr_region ?_
    refine op_pure (pu_move (OT.tmp rfl)) rfl rfl ?_
    refine op_pure (pu_move (OT.tmp rfl)) rfl rfl ?_
    refine op_pure (pu_geq (OT.tmp rfl) (OT.tmp rfl)) rfl rfl ?_
    refine tr_nil ?_
    refine then_normal ?_
    refine tr_cond (OT.tmp rfl) (fun c18 => ?_) (fun c18 => ?_)
    · try simp only [decide_eq_true_eq, decide_eq_false_iff_not, Bool.or_eq_true, Bool.and_eq_true, Bool.or_eq_false_iff, Bool.and_eq_false_iff, Bool.not_eq_true', Bool.not_eq_false', ne_eq, Classical.not_not] at c18
      have hfin : d1 = Sort.siftDown (ltc c) hi first lo d := by rw [← hr, sift_end (by omega)]
      refine tr_exit ?_
      refine then_exit ?_
      refine block_pass rfl ?_
      refine then_exit ?_
      refine block_hit ?_
      exact ret_none .normal (.inr rfl) rfl () (fun _ => trivial) trivial (by rw [← hfin]; exact picks_cons 0 rfl picks_nil)
    · try simp only [decide_eq_true_eq, decide_eq_false_iff_not, Bool.or_eq_true, Bool.and_eq_true, Bool.or_eq_false_iff, Bool.and_eq_false_iff, Bool.not_eq_true', Bool.not_eq_false', ne_eq, Classical.not_not] at c18
      refine tr_skip ?_
      refine then_normal ?_
      refine tr_seq ?_
      refine tr_seq ?_
      -- region 3
      refine tr_env (es_cons (t := 0) (OT.tmp rfl) (es_cons (t := 2) (OT.tmp rfl) (es_cons (t := 3) (OT.tmp rfl) (es_cons (t := 4) (OT.tmp rfl) (es_cons (t := 10) (OT.tmp rfl) (es_cons (t := 11) (OT.tmp rfl) es_nil)))))) ?_
      apply tr_any (m := 19) (ns := [[(11, none)], [(19, some 0)], [(2, none)], [(20, some 1), (21, some 2)], [(22, some 3)], [(4, none), (23, some 4)], [(0, none), (23, some 4)], [(3, none), (23, some 4)], [(11, none), (23, some 4)], [(23, some 4), (26, some 7), (27, some 8)], [(23, some 4), (25, some 6), (28, some 9)], [(23, some 4), (29, some 10)], [(0, none), (23, some 4)], [(3, none), (23, some 4)], [(11, none), (23, some 4)], [(23, some 4), (32, some 13), (33, some 14)], [(23, some 4), (34, some 15)], [(23, some 4), (31, some 12), (35, some 16)], [(23, some 4), (36, some 17)]]) (by kernel_rfl) (by kernel_rfl) (Ts := [_, _, _, _, _, _, _, _, _, _, _, _, _, _, _, _, _, _, _]) rfl
      case hops =>
        refine ⟨?_, ⟨?_, ⟨?_, ⟨?_, ⟨?_, ⟨?_, ⟨?_, ⟨?_, ⟨?_, ⟨?_, ⟨?_, ⟨?_, ⟨?_, ⟨?_, ⟨?_, ⟨?_, ⟨?_, ⟨?_, ⟨?_, trivial⟩⟩⟩⟩⟩⟩⟩⟩⟩⟩⟩⟩⟩⟩⟩⟩⟩⟩⟩
        · exact rop_pure rfl (pu_move (OT.tmp rfl))
        · exact rop_pure rfl (pu_add' (OT.tmp rfl) OT.const (by omega))
        · exact rop_pure rfl (pu_move (OT.tmp rfl))
        · exact rop_pure rfl (pu_lss (OT.tmp rfl) (OT.tmp rfl))
        · exact rop_pure rfl (pu_move (OT.tmp rfl))
        · exact rop_gu rfl rfl rfl (OT.gu_mk (OT.tmp rfl)) (fun hg => by (have hg1 := hg.2; exact rop_pure rfl (pu_move (by exact OT.tmp rfl))))
        · exact rop_gu rfl rfl rfl (OT.gu_mk (OT.tmp rfl)) (fun hg => by (have hg1 := hg.2; exact rop_pure rfl (pu_move (by exact OT.tmp rfl))))
        · exact rop_gu rfl rfl rfl (OT.gu_mk (OT.tmp rfl)) (fun hg => by (have hg1 := hg.2; exact rop_pure rfl (pu_move (by exact OT.tmp rfl))))
        · exact rop_gu rfl rfl rfl (OT.gu_mk (OT.tmp rfl)) (fun hg => by (have hg1 := hg.2; exact rop_pure rfl (pu_move (by exact OT.tmp rfl))))
        · exact rop_gu rfl rfl rfl (OT.gu_mk (OT.tmp rfl)) (fun hg => by (have hg1 := hg.2; exact rop_pure rfl (pu_add' (by exact OT.gu (OT.tmp rfl) hg) (by exact OT.gu (OT.tmp rfl) hg) (by omega))))
        · exact rop_gu rfl rfl rfl (OT.gu_mk (OT.tmp rfl)) (fun hg => by (have hg1 := hg.2; exact rop_pure rfl (pu_index_own (by exact OT.gu (OT.tmp rfl) hg) (by exact mem_at 0 rfl) (by exact OT.gu (OT.tmp rfl) hg) Try.underlying35 (show tyOk Try.prog 45 false 1 = true from by decide +kernel) (by omega) (by omega))))
        · exact rop_gu rfl rfl rfl (OT.gu_mk (OT.tmp rfl)) (fun hg => by (have hg1 := hg.2; exact rop_pure rfl (pu_load_own0 (by exact OT.gu (OT.tmp rfl) hg) (by exact mem_at 0 rfl) (by omega) (by omega) (show tyOk Try.prog 45 false 1 = true from by decide +kernel))))
        · exact rop_gu rfl rfl rfl (OT.gu_mk (OT.tmp rfl)) (fun hg => by (have hg1 := hg.2; exact rop_pure rfl (pu_move (by exact OT.tmp rfl))))
        · exact rop_gu rfl rfl rfl (OT.gu_mk (OT.tmp rfl)) (fun hg => by (have hg1 := hg.2; exact rop_pure rfl (pu_move (by exact OT.tmp rfl))))
        · exact rop_gu rfl rfl rfl (OT.gu_mk (OT.tmp rfl)) (fun hg => by (have hg1 := hg.2; exact rop_pure rfl (pu_move (by exact OT.tmp rfl))))
        · exact rop_gu rfl rfl rfl (OT.gu_mk (OT.tmp rfl)) (fun hg => by (have hg1 := hg.2; exact rop_pure rfl (pu_add' (by exact OT.gu (OT.tmp rfl) hg) (by exact OT.gu (OT.tmp rfl) hg) (by omega))))
        · exact rop_gu rfl rfl rfl (OT.gu_mk (OT.tmp rfl)) (fun hg => by (have hg1 := hg.2; exact rop_pure rfl (pu_add' (by exact OT.gu (OT.tmp rfl) hg) OT.const (by omega))))
        · exact rop_gu rfl rfl rfl (OT.gu_mk (OT.tmp rfl)) (fun hg => by (have hg1 := hg.2; exact rop_pure rfl (pu_index_own (by exact OT.gu (OT.tmp rfl) hg) (by exact mem_at 0 rfl) (by exact OT.gu (OT.tmp rfl) hg) Try.underlying35 (show tyOk Try.prog 45 false 1 = true from by decide +kernel) (by omega) (by (simp [maxLen] at *; omega)))))
        · exact rop_gu rfl rfl rfl (OT.gu_mk (OT.tmp rfl)) (fun hg => by (have hg1 := hg.2; exact rop_pure rfl (pu_load_own0 (by exact OT.gu (OT.tmp rfl) hg) (by exact mem_at 0 rfl) (by omega) (by (simp [maxLen] at *; omega)) (show tyOk Try.prog 45 false 1 = true from by decide +kernel))))
      case h =>
        refine op_gu_acts () rfl rfl rfl (OT.gu_mk (OT.tmp rfl)) (fun hg => by (have hg1 := hg.2; (try simp only [decide_eq_true_eq, decide_eq_false_iff_not] at hg1); exact acts_callv (by exact OT.gu (OT.tmp rfl) hg) (hfv _ _) (OTs.cons (by exact OT.gu (OT.tmp rfl) hg) (OTs.cons (by exact OT.gu (OT.tmp rfl) hg) OTs.nil)) (List.Perm.refl _))) rfl (fun _ _ => ?_)
        refine op_gu rfl rfl rfl (OT.gu_mk (OT.tmp rfl)) (fun hg => by (have hg1 := hg.2; (try simp only [decide_eq_true_eq, decide_eq_false_iff_not] at hg1); exact pu_lss (by exact OT.gu (OT.tmp rfl) hg) OT.const)) rfl ?_
        refine op_pure (pu_pick_and (OT.tmp rfl) (by exact OT.tmp rfl)) rfl rfl ?_
        refine tr_nil ?_
        refine then_normal ?_
        refine tr_cond (OT.tmp rfl) (fun c40 => ?_) (fun c40 => ?_)
        · try simp only [decide_eq_true_eq, decide_eq_false_iff_not, Bool.or_eq_true, Bool.and_eq_true, Bool.or_eq_false_iff, Bool.and_eq_false_iff, Bool.not_eq_true', Bool.not_eq_false', ne_eq, Classical.not_not] at c40
          obtain ⟨ch, hch, hcl, hcr, hstep⟩ : ∃ ch : Nat, 2 * (root : Int) + 1 + 1 = ch ∧ ch < hi ∧ root < ch ∧ Sort.siftDown (ltc c) hi first root d1 = (if !ltc c d1[first + root]! d1[first + ch]! then d1 else Sort.siftDown (ltc c) hi first ch (Sort.swp d1 (first + root) (first + ch))) := ⟨2 * root + 2, by omega, by omega, by omega, sift_two (by omega) (by omega) (by rw [ltc_at (by omega) (by omega), show ((first + (2 * root + 1) : Nat) : Int) = (first : Int) + (2 * root + 1) from by omega, show ((first + (2 * root + 1) + 1 : Nat) : Int) = (first : Int) + (2 * root + 1) + 1 from by omega]; simpa using c40.2)⟩
          -- region 4
          refine tr_env (es_cons (t := 0) (OT.tmp rfl) (es_cons (t := 2) (OT.tmp rfl) (es_cons (t := 3) (OT.tmp rfl) (es_cons (t := 4) (OT.tmp rfl) (es_cons (t := 10) (OT.tmp rfl) (es_cons (t := 11) (OT.tmp rfl) es_nil)))))) ?_
          refine tr_region ?_
          refine op_pure (pu_move (OT.tmp rfl)) rfl rfl ?_
          refine op_pure (pu_add' (OT.tmp rfl) OT.const (by omega)) rfl rfl ?_
          refine op_pure (pu_assign (OT.tmp rfl)) rfl rfl ?_
          refine tr_nil ?_
          refine then_normal ?_
          refine tr_seq ?_
          refine tr_seq ?_
          -- region 5
          refine tr_env (es_cons (t := 0) (OT.tmp rfl) (es_cons (t := 2) (OT.tmp rfl) (es_cons (t := 3) (OT.tmp rfl) (es_cons (t := 4) (OT.tmp rfl) (es_cons (t := 10) (OT.tmp rfl) (es_cons (t := 11) (OT.tmp rfl) es_nil)))))) ?_
          rw [hch]
          apply tr_any (m := 13) (ns := [[(4, none)], [(0, none)], [(3, none)], [(10, none)], [(45, some 2), (46, some 3)], [(44, some 1), (47, some 4)], [(48, some 5)], [(0, none)], [(3, none)], [(11, none)], [(51, some 8), (52, some 9)], [(50, some 7), (53, some 10)], [(54, some 11)]]) (by kernel_rfl) (by kernel_rfl) (Ts := [_, _, _, _, _, _, _, _, _, _, _, _, _]) rfl
          case hops =>
            refine ⟨?_, ⟨?_, ⟨?_, ⟨?_, ⟨?_, ⟨?_, ⟨?_, ⟨?_, ⟨?_, ⟨?_, ⟨?_, ⟨?_, ⟨?_, trivial⟩⟩⟩⟩⟩⟩⟩⟩⟩⟩⟩⟩⟩
            · exact rop_pure rfl (pu_move (OT.tmp rfl))
            · exact rop_pure rfl (pu_move (OT.tmp rfl))
            · exact rop_pure rfl (pu_move (OT.tmp rfl))
            · exact rop_pure rfl (pu_move (OT.tmp rfl))
            · exact rop_pure rfl (pu_add' (OT.tmp rfl) (OT.tmp rfl) (by omega))
            · exact rop_pure rfl (pu_index_own (OT.tmp rfl) (by exact mem_at 0 rfl) (OT.tmp rfl) Try.underlying35 (show tyOk Try.prog 45 false 1 = true from by decide +kernel) (by omega) (by omega))
            · exact rop_pure rfl (pu_load_own0 (OT.tmp rfl) (by exact mem_at 0 rfl) (by omega) (by omega) (show tyOk Try.prog 45 false 1 = true from by decide +kernel))
            · exact rop_pure rfl (pu_move (OT.tmp rfl))
            · exact rop_pure rfl (pu_move (OT.tmp rfl))
            · exact rop_pure rfl (pu_move (OT.tmp rfl))
            · exact rop_pure rfl (pu_add' (OT.tmp rfl) (OT.tmp rfl) (by omega))
            · exact rop_pure rfl (pu_index_own (OT.tmp rfl) (by exact mem_at 0 rfl) (OT.tmp rfl) Try.underlying35 (show tyOk Try.prog 45 false 1 = true from by decide +kernel) (by omega) (by omega))
            · exact rop_pure rfl (pu_load_own0 (OT.tmp rfl) (by exact mem_at 0 rfl) (by omega) (by omega) (show tyOk Try.prog 45 false 1 = true from by decide +kernel))
          case h =>
            refine op_acts (acts_callv (OT.tmp rfl) (hfv _ _) (OTs.cons (OT.tmp rfl) (OTs.cons (OT.tmp rfl) OTs.nil)) (List.Perm.refl _)) (List.Perm.refl _) rfl rfl (fun _ _ => ?_)
            refine op_pure (pu_lss (OT.tmp rfl) OT.const) rfl rfl ?_
            refine op_pure (pu_not (OT.tmp rfl)) rfl rfl ?_
            refine tr_nil ?_
            refine then_normal ?_
            refine tr_cond (OT.tmp rfl) (fun c58 => ?_) (fun c58 => ?_)
            · try simp only [decide_eq_true_eq, decide_eq_false_iff_not, Bool.or_eq_true, Bool.and_eq_true, Bool.or_eq_false_iff, Bool.and_eq_false_iff, Bool.not_eq_true', Bool.not_eq_false', ne_eq, Classical.not_not] at c58
              have hfin : d1 = Sort.siftDown (ltc c) hi first lo d := by
                rw [if_pos (by rw [ltc_at (by omega) (by omega), show ((first + root : Nat) : Int) = (first : Int) + root from by omega, show ((first + ch : Nat) : Int) = (first : Int) + ch from by omega]; simpa using c58)] at hstep
                exact hstep.symm.trans hr
              refine tr_ret ?_
              refine then_ret ?_
              refine block_ret ?_
              refine then_ret ?_
              refine block_ret ?_
              exact ret_none .ret (.inl rfl) rfl () (fun _ => trivial) trivial (by rw [← hfin]; exact picks_cons 0 rfl picks_nil)
            · try simp only [decide_eq_true_eq, decide_eq_false_iff_not, Bool.or_eq_true, Bool.and_eq_true, Bool.or_eq_false_iff, Bool.and_eq_false_iff, Bool.not_eq_true', Bool.not_eq_false', ne_eq, Classical.not_not] at c58
              have hnx : Sort.siftDown (ltc c) hi first ch (Sort.swp d1 (first + root) (first + ch)) = Sort.siftDown (ltc c) hi first lo d := by
                rw [if_neg (by rw [ltc_at (by omega) (by omega), show ((first + root : Nat) : Int) = (first : Int) + root from by omega, show ((first + ch : Nat) : Int) = (first : Int) + ch from by omega]; simpa using c58)] at hstep
                exact hstep.symm.trans hr
              have hsw : (Sort.swp d1 (first + root) (first + ch)).toList = (d1.toList.set ((first : Int) + root).toNat (at' d1.toList ((first : Int) + ch))).set ((first : Int) + ch).toNat (at' d1.toList ((first : Int) + root)) := by
                rw [swp_items (by omega) (by omega) (by omega) (by omega)]; congr 2
              refine tr_skip ?_
              refine then_normal ?_
              refine tr_seq ?_
              -- region 6
              refine tr_env (es_cons (t := 0) (OT.tmp rfl) (es_cons (t := 2) (OT.tmp rfl) (es_cons (t := 3) (OT.tmp rfl) (es_cons (t := 4) (OT.tmp rfl) (es_cons (t := 10) (OT.tmp rfl) (es_cons (t := 11) (OT.tmp rfl) es_nil)))))) ?_
              apply tr_anyW (p := 21) (Lf := fun c => cond c ([OwnI 45 (kG Z) v (d1.toList.set ((first : Int) + root).toNat (at' d1.toList ((first : Int) + ch)))]) ([OwnI 45 (kG Z) v d1.toList])) (by kernel_rfl) (m := 22) (ns := [[(0, none)], [(3, none)], [(10, none)], [(60, some 1), (61, some 2)], [(0, none)], [(3, none)], [(11, none)], [(64, some 5), (65, some 6)], [(0, none)], [(3, none)], [(11, none)], [(68, some 9), (69, some 10)], [(67, some 8), (70, some 11)], [(71, some 12)], [(0, none)], [(3, none)], [(10, none)], [(74, some 15), (75, some 16)], [(73, some 14), (76, some 17)], [(77, some 18)], [(59, some 0), (62, some 3)], [(72, some 13), (79, some 20)]]) (by kernel_rfl) (by kernel_rfl) (Ts := [_, _, _, _, _, _, _, _, _, _, _, _, _, _, _, _, _, _, _, _, _, _]) rfl
              case hops =>
                refine ⟨?_, ⟨?_, ⟨?_, ⟨?_, ⟨?_, ⟨?_, ⟨?_, ⟨?_, ⟨?_, ⟨?_, ⟨?_, ⟨?_, ⟨?_, ⟨?_, ⟨?_, ⟨?_, ⟨?_, ⟨?_, ⟨?_, ⟨?_, ⟨?_, ⟨?_, trivial⟩⟩⟩⟩⟩⟩⟩⟩⟩⟩⟩⟩⟩⟩⟩⟩⟩⟩⟩⟩⟩⟩
                · intro c hc; cases c
                  · exact ropw_of (rop_pure rfl (pu_move (OT.tmp rfl)))
                  · exact Bool.noConfusion (hc.symm.trans (by kernel_rfl : okFlag _ _ _ _ = false))
                · intro c hc; cases c
                  · exact ropw_of (rop_pure rfl (pu_move (OT.tmp rfl)))
                  · exact Bool.noConfusion (hc.symm.trans (by kernel_rfl : okFlag _ _ _ _ = false))
                · intro c hc; cases c
                  · exact ropw_of (rop_pure rfl (pu_move (OT.tmp rfl)))
                  · exact Bool.noConfusion (hc.symm.trans (by kernel_rfl : okFlag _ _ _ _ = false))
                · intro c hc; cases c
                  · exact ropw_of (rop_pure rfl (pu_add' (OT.tmp rfl) (OT.tmp rfl) (by omega)))
                  · exact Bool.noConfusion (hc.symm.trans (by kernel_rfl : okFlag _ _ _ _ = false))
                · intro c hc; cases c
                  · exact ropw_of (rop_pure rfl (pu_move (OT.tmp rfl)))
                  · exact ropw_of (rop_pure rfl (pu_move (OT.tmp rfl)))
                · intro c hc; cases c
                  · exact ropw_of (rop_pure rfl (pu_move (OT.tmp rfl)))
                  · exact ropw_of (rop_pure rfl (pu_move (OT.tmp rfl)))
                · intro c hc; cases c
                  · exact ropw_of (rop_pure rfl (pu_move (OT.tmp rfl)))
                  · exact ropw_of (rop_pure rfl (pu_move (OT.tmp rfl)))
                · intro c hc; cases c
                  · exact ropw_of (rop_pure rfl (pu_add' (OT.tmp rfl) (OT.tmp rfl) (by omega)))
                  · exact ropw_of (rop_pure rfl (pu_add' (OT.tmp rfl) (OT.tmp rfl) (by omega)))
                · intro c hc; cases c
                  · exact ropw_of (rop_pure rfl (pu_move (OT.tmp rfl)))
                  · exact Bool.noConfusion (hc.symm.trans (by kernel_rfl : okFlag _ _ _ _ = false))
                · intro c hc; cases c
                  · exact ropw_of (rop_pure rfl (pu_move (OT.tmp rfl)))
                  · exact Bool.noConfusion (hc.symm.trans (by kernel_rfl : okFlag _ _ _ _ = false))
                · intro c hc; cases c
                  · exact ropw_of (rop_pure rfl (pu_move (OT.tmp rfl)))
                  · exact Bool.noConfusion (hc.symm.trans (by kernel_rfl : okFlag _ _ _ _ = false))
                · intro c hc; cases c
                  · exact ropw_of (rop_pure rfl (pu_add' (OT.tmp rfl) (OT.tmp rfl) (by omega)))
                  · exact Bool.noConfusion (hc.symm.trans (by kernel_rfl : okFlag _ _ _ _ = false))
                · intro c hc; cases c
                  · exact ropw_of (rop_pure rfl (pu_index_own (OT.tmp rfl) (by exact mem_at 0 rfl) (OT.tmp rfl) Try.underlying35 (show tyOk Try.prog 45 false 1 = true from by decide +kernel) (by omega) (by omega)))
                  · exact Bool.noConfusion (hc.symm.trans (by kernel_rfl : okFlag _ _ _ _ = false))
                · intro c hc; cases c
                  · exact ropw_of (rop_pure rfl (pu_load_own0 (OT.tmp rfl) (by exact mem_at 0 rfl) (by omega) (by omega) (show tyOk Try.prog 45 false 1 = true from by decide +kernel)))
                  · exact Bool.noConfusion (hc.symm.trans (by kernel_rfl : okFlag _ _ _ _ = false))
                · intro c hc; cases c
                  · exact ropw_of (rop_pure rfl (pu_move (OT.tmp rfl)))
                  · exact Bool.noConfusion (hc.symm.trans (by kernel_rfl : okFlag _ _ _ _ = false))
                · intro c hc; cases c
                  · exact ropw_of (rop_pure rfl (pu_move (OT.tmp rfl)))
                  · exact Bool.noConfusion (hc.symm.trans (by kernel_rfl : okFlag _ _ _ _ = false))
                · intro c hc; cases c
                  · exact ropw_of (rop_pure rfl (pu_move (OT.tmp rfl)))
                  · exact Bool.noConfusion (hc.symm.trans (by kernel_rfl : okFlag _ _ _ _ = false))
                · intro c hc; cases c
                  · exact ropw_of (rop_pure rfl (pu_add' (OT.tmp rfl) (OT.tmp rfl) (by omega)))
                  · exact Bool.noConfusion (hc.symm.trans (by kernel_rfl : okFlag _ _ _ _ = false))
                · intro c hc; cases c
                  · exact ropw_of (rop_pure rfl (pu_index_own (OT.tmp rfl) (by exact mem_at 0 rfl) (OT.tmp rfl) Try.underlying35 (show tyOk Try.prog 45 false 1 = true from by decide +kernel) (by omega) (by omega)))
                  · exact Bool.noConfusion (hc.symm.trans (by kernel_rfl : okFlag _ _ _ _ = false))
                · intro c hc; cases c
                  · exact ropw_of (rop_pure rfl (pu_load_own0 (OT.tmp rfl) (by exact mem_at 0 rfl) (by omega) (by omega) (show tyOk Try.prog 45 false 1 = true from by decide +kernel)))
                  · exact Bool.noConfusion (hc.symm.trans (by kernel_rfl : okFlag _ _ _ _ = false))
                · intro c hc; cases c
                  · exact ropw_of (rop_pure rfl (pu_index_own (OT.tmp rfl) (by exact mem_at 0 rfl) (OT.tmp rfl) Try.underlying35 (show tyOk Try.prog 45 false 1 = true from by decide +kernel) (by omega) (by omega)))
                  · exact Bool.noConfusion (hc.symm.trans (by kernel_rfl : okFlag _ _ _ _ = false))
                · intro c hc; cases c
                  · exact ropw_acts rfl (acts_store_own0 (OT.tmp rfl) (OT.tmp rfl) (by exact perm_at 0 rfl) (by omega) (by omega) (show tyOk Try.prog 45 false 1 = true from by decide +kernel)) (by exact perm_at 0 rfl) (fun _ => (by exact perm_at 0 rfl)) (fun _ _ _ _ h => h)
                  · exact Bool.noConfusion (hc.symm.trans (by kernel_rfl : okFlag _ _ _ _ = false))
              case h =>
                refine op_pure (pu_index_own (OT.tmp rfl) (by exact mem_at 0 rfl) (OT.tmp rfl) Try.underlying35 (show tyOk Try.prog 45 false 1 = true from by decide +kernel) (by omega) (by (simp; omega))) rfl rfl ?_
                refine op_acts (acts_store_own0 (OT.tmp rfl) (OT.tmp rfl) (by exact perm_at 0 rfl) (by omega) (by (simp; omega)) (show tyOk Try.prog 45 false 1 = true from by decide +kernel)) (by exact perm_at 0 rfl) rfl rfl (fun _ _ => ?_)
                refine tr_nil ?_
                refine then_normal ?_
                -- region 7
                refine tr_env (es_cons (t := 0) (OT.tmp rfl) (es_cons (t := 2) (OT.tmp rfl) (es_cons (t := 3) (OT.tmp rfl) (es_cons (t := 4) (OT.tmp rfl) (es_cons (t := 11) (OT.tmp rfl) es_nil))))) ?_
                refine tr_region ?_
                refine op_pure (pu_move (OT.tmp rfl)) rfl rfl ?_
                refine op_pure (pu_assign (OT.tmp rfl)) rfl rfl ?_
                refine tr_nil ?_
                refine block_normal ?_
                refine then_normal ?_
                exact tr_again (ch, Sort.swp d1 (first + root) (first + ch)) ⟨by show ch ≤ hi; omega, swp_size.trans hs1, hnx⟩ (by show hi - ch < hi - root; omega) (es_append (es_cons (t := 10) (by exact OT.tmp rfl) es_nil) (es_cons (t := 0) (OT.tmp rfl) (es_cons (t := 2) (OT.tmp rfl) (es_cons (t := 3) (OT.tmp rfl) (es_cons (t := 4) (OT.tmp rfl) es_nil))))) (own_picks (by rw [hsw]; exact (by repeat (first | exact picks_nil | refine picks_cons 0 rfl ?_ | refine picks_cons 1 rfl ?_ | refine picks_cons 2 rfl ?_ | refine picks_cons 3 rfl ?_ | refine picks_cons 4 rfl ?_ | refine picks_cons 5 rfl ?_ | refine picks_cons 6 rfl ?_))))
        · try simp only [decide_eq_true_eq, decide_eq_false_iff_not, Bool.or_eq_true, Bool.and_eq_true, Bool.or_eq_false_iff, Bool.and_eq_false_iff, Bool.not_eq_true', Bool.not_eq_false', ne_eq, Classical.not_not] at c40
          obtain ⟨ch, hch, hcl, hcr, hstep⟩ : ∃ ch : Nat, 2 * (root : Int) + 1 = ch ∧ ch < hi ∧ root < ch ∧ Sort.siftDown (ltc c) hi first root d1 = (if !ltc c d1[first + root]! d1[first + ch]! then d1 else Sort.siftDown (ltc c) hi first ch (Sort.swp d1 (first + root) (first + ch))) := ⟨2 * root + 1, by omega, by omega, by omega, sift_one (by omega) (fun h8 => by rw [ltc_at (by omega) (by omega), show ((first + (2 * root + 1) : Nat) : Int) = (first : Int) + (2 * root + 1) from by omega, show ((first + (2 * root + 1) + 1 : Nat) : Int) = (first : Int) + (2 * root + 1) + 1 from by omega]; rcases c40 with h9 | h9; omega; simpa using h9)⟩
          refine tr_skip ?_
          refine then_normal ?_
          refine tr_seq ?_
          refine tr_seq ?_
          -- region 5
          refine tr_env (es_cons (t := 0) (OT.tmp rfl) (es_cons (t := 2) (OT.tmp rfl) (es_cons (t := 3) (OT.tmp rfl) (es_cons (t := 4) (OT.tmp rfl) (es_cons (t := 10) (OT.tmp rfl) (es_cons (t := 11) (OT.tmp rfl) es_nil)))))) ?_
          rw [hch]
          apply tr_any (m := 13) (ns := [[(4, none)], [(0, none)], [(3, none)], [(10, none)], [(45, some 2), (46, some 3)], [(44, some 1), (47, some 4)], [(48, some 5)], [(0, none)], [(3, none)], [(11, none)], [(51, some 8), (52, some 9)], [(50, some 7), (53, some 10)], [(54, some 11)]]) (by kernel_rfl) (by kernel_rfl) (Ts := [_, _, _, _, _, _, _, _, _, _, _, _, _]) rfl
          case hops =>
            refine ⟨?_, ⟨?_, ⟨?_, ⟨?_, ⟨?_, ⟨?_, ⟨?_, ⟨?_, ⟨?_, ⟨?_, ⟨?_, ⟨?_, ⟨?_, trivial⟩⟩⟩⟩⟩⟩⟩⟩⟩⟩⟩⟩⟩
            · exact rop_pure rfl (pu_move (OT.tmp rfl))
            · exact rop_pure rfl (pu_move (OT.tmp rfl))
            · exact rop_pure rfl (pu_move (OT.tmp rfl))
            · exact rop_pure rfl (pu_move (OT.tmp rfl))
            · exact rop_pure rfl (pu_add' (OT.tmp rfl) (OT.tmp rfl) (by omega))
            · exact rop_pure rfl (pu_index_own (OT.tmp rfl) (by exact mem_at 0 rfl) (OT.tmp rfl) Try.underlying35 (show tyOk Try.prog 45 false 1 = true from by decide +kernel) (by omega) (by omega))
            · exact rop_pure rfl (pu_load_own0 (OT.tmp rfl) (by exact mem_at 0 rfl) (by omega) (by omega) (show tyOk Try.prog 45 false 1 = true from by decide +kernel))
            · exact rop_pure rfl (pu_move (OT.tmp rfl))
            · exact rop_pure rfl (pu_move (OT.tmp rfl))
            · exact rop_pure rfl (pu_move (OT.tmp rfl))
            · exact rop_pure rfl (pu_add' (OT.tmp rfl) (OT.tmp rfl) (by omega))
            · exact rop_pure rfl (pu_index_own (OT.tmp rfl) (by exact mem_at 0 rfl) (OT.tmp rfl) Try.underlying35 (show tyOk Try.prog 45 false 1 = true from by decide +kernel) (by omega) (by omega))
            · exact rop_pure rfl (pu_load_own0 (OT.tmp rfl) (by exact mem_at 0 rfl) (by omega) (by omega) (show tyOk Try.prog 45 false 1 = true from by decide +kernel))
          case h =>
            refine op_acts (acts_callv (OT.tmp rfl) (hfv _ _) (OTs.cons (OT.tmp rfl) (OTs.cons (OT.tmp rfl) OTs.nil)) (List.Perm.refl _)) (List.Perm.refl _) rfl rfl (fun _ _ => ?_)
            refine op_pure (pu_lss (OT.tmp rfl) OT.const) rfl rfl ?_
            refine op_pure (pu_not (OT.tmp rfl)) rfl rfl ?_
            refine tr_nil ?_
            refine then_normal ?_
            refine tr_cond (OT.tmp rfl) (fun c58 => ?_) (fun c58 => ?_)
            · try simp only [decide_eq_true_eq, decide_eq_false_iff_not, Bool.or_eq_true, Bool.and_eq_true, Bool.or_eq_false_iff, Bool.and_eq_false_iff, Bool.not_eq_true', Bool.not_eq_false', ne_eq, Classical.not_not] at c58
              have hfin : d1 = Sort.siftDown (ltc c) hi first lo d := by
                rw [if_pos (by rw [ltc_at (by omega) (by omega), show ((first + root : Nat) : Int) = (first : Int) + root from by omega, show ((first + ch : Nat) : Int) = (first : Int) + ch from by omega]; simpa using c58)] at hstep
                exact hstep.symm.trans hr
              refine tr_ret ?_
              refine then_ret ?_
              refine block_ret ?_
              refine then_ret ?_
              refine block_ret ?_
              exact ret_none .ret (.inl rfl) rfl () (fun _ => trivial) trivial (by rw [← hfin]; exact picks_cons 0 rfl picks_nil)
            · try simp only [decide_eq_true_eq, decide_eq_false_iff_not, Bool.or_eq_true, Bool.and_eq_true, Bool.or_eq_false_iff, Bool.and_eq_false_iff, Bool.not_eq_true', Bool.not_eq_false', ne_eq, Classical.not_not] at c58
              have hnx : Sort.siftDown (ltc c) hi first ch (Sort.swp d1 (first + root) (first + ch)) = Sort.siftDown (ltc c) hi first lo d := by
                rw [if_neg (by rw [ltc_at (by omega) (by omega), show ((first + root : Nat) : Int) = (first : Int) + root from by omega, show ((first + ch : Nat) : Int) = (first : Int) + ch from by omega]; simpa using c58)] at hstep
                exact hstep.symm.trans hr
              have hsw : (Sort.swp d1 (first + root) (first + ch)).toList = (d1.toList.set ((first : Int) + root).toNat (at' d1.toList ((first : Int) + ch))).set ((first : Int) + ch).toNat (at' d1.toList ((first : Int) + root)) := by
                rw [swp_items (by omega) (by omega) (by omega) (by omega)]; congr 2
              refine tr_skip ?_
              refine then_normal ?_
              refine tr_seq ?_
              -- region 6
              refine tr_env (es_cons (t := 0) (OT.tmp rfl) (es_cons (t := 2) (OT.tmp rfl) (es_cons (t := 3) (OT.tmp rfl) (es_cons (t := 4) (OT.tmp rfl) (es_cons (t := 10) (OT.tmp rfl) (es_cons (t := 11) (OT.tmp rfl) es_nil)))))) ?_
              apply tr_anyW (p := 21) (Lf := fun c => cond c ([OwnI 45 (kG Z) v (d1.toList.set ((first : Int) + root).toNat (at' d1.toList ((first : Int) + ch)))]) ([OwnI 45 (kG Z) v d1.toList])) (by kernel_rfl) (m := 22) (ns := [[(0, none)], [(3, none)], [(10, none)], [(60, some 1), (61, some 2)], [(0, none)], [(3, none)], [(11, none)], [(64, some 5), (65, some 6)], [(0, none)], [(3, none)], [(11, none)], [(68, some 9), (69, some 10)], [(67, some 8), (70, some 11)], [(71, some 12)], [(0, none)], [(3, none)], [(10, none)], [(74, some 15), (75, some 16)], [(73, some 14), (76, some 17)], [(77, some 18)], [(59, some 0), (62, some 3)], [(72, some 13), (79, some 20)]]) (by kernel_rfl) (by kernel_rfl) (Ts := [_, _, _, _, _, _, _, _, _, _, _, _, _, _, _, _, _, _, _, _, _, _]) rfl
              case hops =>
                refine ⟨?_, ⟨?_, ⟨?_, ⟨?_, ⟨?_, ⟨?_, ⟨?_, ⟨?_, ⟨?_, ⟨?_, ⟨?_, ⟨?_, ⟨?_, ⟨?_, ⟨?_, ⟨?_, ⟨?_, ⟨?_, ⟨?_, ⟨?_, ⟨?_, ⟨?_, trivial⟩⟩⟩⟩⟩⟩⟩⟩⟩⟩⟩⟩⟩⟩⟩⟩⟩⟩⟩⟩⟩⟩
                · intro c hc; cases c
                  · exact ropw_of (rop_pure rfl (pu_move (OT.tmp rfl)))
                  · exact Bool.noConfusion (hc.symm.trans (by kernel_rfl : okFlag _ _ _ _ = false))
                · intro c hc; cases c
                  · exact ropw_of (rop_pure rfl (pu_move (OT.tmp rfl)))
                  · exact Bool.noConfusion (hc.symm.trans (by kernel_rfl : okFlag _ _ _ _ = false))
                · intro c hc; cases c
                  · exact ropw_of (rop_pure rfl (pu_move (OT.tmp rfl)))
                  · exact Bool.noConfusion (hc.symm.trans (by kernel_rfl : okFlag _ _ _ _ = false))
                · intro c hc; cases c
                  · exact ropw_of (rop_pure rfl (pu_add' (OT.tmp rfl) (OT.tmp rfl) (by omega)))
                  · exact Bool.noConfusion (hc.symm.trans (by kernel_rfl : okFlag _ _ _ _ = false))
                · intro c hc; cases c
                  · exact ropw_of (rop_pure rfl (pu_move (OT.tmp rfl)))
                  · exact ropw_of (rop_pure rfl (pu_move (OT.tmp rfl)))
                · intro c hc; cases c
                  · exact ropw_of (rop_pure rfl (pu_move (OT.tmp rfl)))
                  · exact ropw_of (rop_pure rfl (pu_move (OT.tmp rfl)))
                · intro c hc; cases c
                  · exact ropw_of (rop_pure rfl (pu_move (OT.tmp rfl)))
                  · exact ropw_of (rop_pure rfl (pu_move (OT.tmp rfl)))
                · intro c hc; cases c
                  · exact ropw_of (rop_pure rfl (pu_add' (OT.tmp rfl) (OT.tmp rfl) (by omega)))
                  · exact ropw_of (rop_pure rfl (pu_add' (OT.tmp rfl) (OT.tmp rfl) (by omega)))
                · intro c hc; cases c
                  · exact ropw_of (rop_pure rfl (pu_move (OT.tmp rfl)))
                  · exact Bool.noConfusion (hc.symm.trans (by kernel_rfl : okFlag _ _ _ _ = false))
                · intro c hc; cases c
                  · exact ropw_of (rop_pure rfl (pu_move (OT.tmp rfl)))
                  · exact Bool.noConfusion (hc.symm.trans (by kernel_rfl : okFlag _ _ _ _ = false))
                · intro c hc; cases c
                  · exact ropw_of (rop_pure rfl (pu_move (OT.tmp rfl)))
                  · exact Bool.noConfusion (hc.symm.trans (by kernel_rfl : okFlag _ _ _ _ = false))
                · intro c hc; cases c
                  · exact ropw_of (rop_pure rfl (pu_add' (OT.tmp rfl) (OT.tmp rfl) (by omega)))
                  · exact Bool.noConfusion (hc.symm.trans (by kernel_rfl : okFlag _ _ _ _ = false))
                · intro c hc; cases c
                  · exact ropw_of (rop_pure rfl (pu_index_own (OT.tmp rfl) (by exact mem_at 0 rfl) (OT.tmp rfl) Try.underlying35 (show tyOk Try.prog 45 false 1 = true from by decide +kernel) (by omega) (by omega)))
                  · exact Bool.noConfusion (hc.symm.trans (by kernel_rfl : okFlag _ _ _ _ = false))
                · intro c hc; cases c
                  · exact ropw_of (rop_pure rfl (pu_load_own0 (OT.tmp rfl) (by exact mem_at 0 rfl) (by omega) (by omega) (show tyOk Try.prog 45 false 1 = true from by decide +kernel)))
                  · exact Bool.noConfusion (hc.symm.trans (by kernel_rfl : okFlag _ _ _ _ = false))
                · intro c hc; cases c
                  · exact ropw_of (rop_pure rfl (pu_move (OT.tmp rfl)))
                  · exact Bool.noConfusion (hc.symm.trans (by kernel_rfl : okFlag _ _ _ _ = false))
                · intro c hc; cases c
                  · exact ropw_of (rop_pure rfl (pu_move (OT.tmp rfl)))
                  · exact Bool.noConfusion (hc.symm.trans (by kernel_rfl : okFlag _ _ _ _ = false))
                · intro c hc; cases c
                  · exact ropw_of (rop_pure rfl (pu_move (OT.tmp rfl)))
                  · exact Bool.noConfusion (hc.symm.trans (by kernel_rfl : okFlag _ _ _ _ = false))
                · intro c hc; cases c
                  · exact ropw_of (rop_pure rfl (pu_add' (OT.tmp rfl) (OT.tmp rfl) (by omega)))
                  · exact Bool.noConfusion (hc.symm.trans (by kernel_rfl : okFlag _ _ _ _ = false))
                · intro c hc; cases c
                  · exact ropw_of (rop_pure rfl (pu_index_own (OT.tmp rfl) (by exact mem_at 0 rfl) (OT.tmp rfl) Try.underlying35 (show tyOk Try.prog 45 false 1 = true from by decide +kernel) (by omega) (by omega)))
                  · exact Bool.noConfusion (hc.symm.trans (by kernel_rfl : okFlag _ _ _ _ = false))
                · intro c hc; cases c
                  · exact ropw_of (rop_pure rfl (pu_load_own0 (OT.tmp rfl) (by exact mem_at 0 rfl) (by omega) (by omega) (show tyOk Try.prog 45 false 1 = true from by decide +kernel)))
                  · exact Bool.noConfusion (hc.symm.trans (by kernel_rfl : okFlag _ _ _ _ = false))
                · intro c hc; cases c
                  · exact ropw_of (rop_pure rfl (pu_index_own (OT.tmp rfl) (by exact mem_at 0 rfl) (OT.tmp rfl) Try.underlying35 (show tyOk Try.prog 45 false 1 = true from by decide +kernel) (by omega) (by omega)))
                  · exact Bool.noConfusion (hc.symm.trans (by kernel_rfl : okFlag _ _ _ _ = false))
                · intro c hc; cases c
                  · exact ropw_acts rfl (acts_store_own0 (OT.tmp rfl) (OT.tmp rfl) (by exact perm_at 0 rfl) (by omega) (by omega) (show tyOk Try.prog 45 false 1 = true from by decide +kernel)) (by exact perm_at 0 rfl) (fun _ => (by exact perm_at 0 rfl)) (fun _ _ _ _ h => h)
                  · exact Bool.noConfusion (hc.symm.trans (by kernel_rfl : okFlag _ _ _ _ = false))
              case h =>
                refine op_pure (pu_index_own (OT.tmp rfl) (by exact mem_at 0 rfl) (OT.tmp rfl) Try.underlying35 (show tyOk Try.prog 45 false 1 = true from by decide +kernel) (by omega) (by (simp; omega))) rfl rfl ?_
                refine op_acts (acts_store_own0 (OT.tmp rfl) (OT.tmp rfl) (by exact perm_at 0 rfl) (by omega) (by (simp; omega)) (show tyOk Try.prog 45 false 1 = true from by decide +kernel)) (by exact perm_at 0 rfl) rfl rfl (fun _ _ => ?_)
                refine tr_nil ?_
                refine then_normal ?_
                -- region 7
                refine tr_env (es_cons (t := 0) (OT.tmp rfl) (es_cons (t := 2) (OT.tmp rfl) (es_cons (t := 3) (OT.tmp rfl) (es_cons (t := 4) (OT.tmp rfl) (es_cons (t := 11) (OT.tmp rfl) es_nil))))) ?_
                refine tr_region ?_
                refine op_pure (pu_move (OT.tmp rfl)) rfl rfl ?_
                refine op_pure (pu_assign (OT.tmp rfl)) rfl rfl ?_
                refine tr_nil ?_
                refine block_normal ?_
                refine then_normal ?_
                exact tr_again (ch, Sort.swp d1 (first + root) (first + ch)) ⟨by show ch ≤ hi; omega, swp_size.trans hs1, hnx⟩ (by show hi - ch < hi - root; omega) (es_append (es_cons (t := 10) (by exact OT.tmp rfl) es_nil) (es_cons (t := 0) (OT.tmp rfl) (es_cons (t := 2) (OT.tmp rfl) (es_cons (t := 3) (OT.tmp rfl) (es_cons (t := 4) (OT.tmp rfl) es_nil))))) (own_picks (by rw [hsw]; exact (by repeat (first | exact picks_nil | refine picks_cons 0 rfl ?_ | refine picks_cons 1 rfl ?_ | refine picks_cons 2 rfl ?_ | refine picks_cons 3 rfl ?_ | refine picks_cons 4 rfl ?_ | refine picks_cons 5 rfl ?_ | refine picks_cons 6 rfl ?_))))
set_option maxHeartbeats 1000000 in
set_option maxRecDepth 20000 in
/-- slices.heapSortCmpFunc[rhizome/api.Tuple] -/
theorem heap_fn (v fv : Value) (d : DA) (a b : Nat) (c : List Int → List Int → Int) (hm : d.size < 4611686018427387904) (hab : a < b) (hb : b ≤ d.size) (hfv : ∀ x y, CtV Try.prog fv [(kG Z).T x, (kG Z).T y] [] Unit (fun _ => I64 (c x y)) (fun _ => []) (fun _ => True)) : Ct Try.prog 41 [IsV v, I64 (a : Int), I64 (b : Int), IsV fv] ([OwnI 45 (kG Z) v d.toList]) Unit (fun _ => AnyT) (fun _ => [OwnI 45 (kG Z) v (Sort.heapSort (ltc c) d a b).toList]) (fun _ => True) := by
  refine fn_intro Try.func41 rfl rfl ?_
  intro H w
  refine tr_seq ?_
  -- region 0
  refine tr_env (es_cons (t := 0) (OT.tmp rfl) (es_cons (t := 1) (OT.tmp rfl) (es_cons (t := 2) (OT.tmp rfl) (es_cons (t := 3) (OT.tmp rfl) es_nil)))) ?_
  refine tr_region ?_
  refine op_pure (pu_move (OT.tmp rfl)) rfl rfl ?_
  refine op_pure (pu_assign (OT.tmp rfl)) rfl rfl ?_
  refine tr_nil ?_
  refine then_normal ?_
  refine tr_seq ?_
  -- region 1
  refine tr_env (es_cons (t := 0) (OT.tmp rfl) (es_cons (t := 1) (OT.tmp rfl) (es_cons (t := 2) (OT.tmp rfl) (es_cons (t := 3) (OT.tmp rfl) (es_cons (t := 8) (OT.tmp rfl) es_nil))))) ?_
  refine tr_region ?_
  refine op_pure (pu_assign OT.const) rfl rfl ?_
  refine tr_nil ?_
  refine then_normal ?_
  refine tr_seq ?_
  -- region 2
  refine tr_env (es_cons (t := 0) (OT.tmp rfl) (es_cons (t := 1) (OT.tmp rfl) (es_cons (t := 2) (OT.tmp rfl) (es_cons (t := 3) (OT.tmp rfl) (es_cons (t := 8) (OT.tmp rfl) (es_cons (t := 9) (OT.tmp rfl) es_nil)))))) ?_
  refine tr_region ?_
  refine op_pure (pu_move (OT.tmp rfl)) rfl rfl ?_
  refine op_pure (pu_move (OT.tmp rfl)) rfl rfl ?_
  refine op_pure (pu_sub' (OT.tmp rfl) (OT.tmp rfl) (by omega)) rfl rfl ?_
  refine op_pure (pu_assign (OT.tmp rfl)) rfl rfl ?_
  refine tr_nil ?_
  refine then_normal ?_
  refine tr_seq ?_
  refine tr_seq ?_
  -- region 3
  refine tr_env (es_cons (t := 0) (OT.tmp rfl) (es_cons (t := 3) (OT.tmp rfl) (es_cons (t := 8) (OT.tmp rfl) (es_cons (t := 9) (OT.tmp rfl) (es_cons (t := 10) (OT.tmp rfl) es_nil))))) ?_
  rw [show (b : Int) - a = ((b - a : Nat) : Int) from by omega]
  obtain ⟨n, hn⟩ : ∃ n : Nat, b - a = n := ⟨_, rfl⟩
  rw [hn]
  refine tr_region ?_
  refine op_pure (pu_move (OT.tmp rfl)) rfl rfl ?_
  refine op_pure (pu_sub' (OT.tmp rfl) OT.const (by omega)) rfl rfl ?_
  refine op_pure (pu_quo' (OT.tmp rfl) OT.const (by omega) (by omega)) rfl rfl ?_
  refine op_pure (pu_assign (OT.tmp rfl)) rfl rfl ?_
  refine tr_nil ?_
  refine then_normal ?_
  refine tr_block ?_
  refine tr_loopK (σ := Nat × DA) (es_cons (t := 0) (OT.tmp rfl) (es_cons (t := 3) (OT.tmp rfl) (es_cons (t := 8) (OT.tmp rfl) (es_cons (t := 9) (OT.tmp rfl) (es_cons (t := 10) (OT.tmp rfl) es_nil))))) (fun s => [(11, I64 ((s.1 : Int) - 1))]) (fun s => [OwnI 45 (kG Z) v s.2.toList]) (fun s => s.1 ≤ n ∧ s.2.size = d.size ∧ Sort.heapBuild (ltc c) n a s.1 s.2 = Sort.heapBuild (ltc c) n a ((n - 1) / 2 + 1) d) (fun s => s.1) ((n - 1) / 2 + 1, d) ⟨by show (n - 1) / 2 + 1 ≤ n; omega, rfl, rfl⟩ ?_ (own_picks (by repeat (first | exact picks_nil | refine picks_cons 0 rfl ?_ | refine picks_cons 1 rfl ?_ | refine picks_cons 2 rfl ?_ | refine picks_cons 3 rfl ?_ | refine picks_cons 4 rfl ?_ | refine picks_cons 5 rfl ?_ | refine picks_cons 6 rfl ?_))) ?_
  · exact (es_cons (t := 11) (by exact OT.val (OT.tmp rfl) (congrArg (Value.int _) (by omega))) es_nil)
  · rintro ⟨k, d1⟩ ⟨hk, hs1, hr⟩
    dsimp only at hk hs1 hr ⊢
    have hl1 : d1.toList.length = d1.size := Array.length_toList
    refine tr_seq ?_
    refine tr_seq ?_
    -- region 4
    refine tr_env (es_cons (t := 0) (OT.tmp rfl) (es_cons (t := 3) (OT.tmp rfl) (es_cons (t := 8) (OT.tmp rfl) (es_cons (t := 9) (OT.tmp rfl) (es_cons (t := 10) (OT.tmp rfl) (es_cons (t := 11) (OT.tmp rfl) es_nil)))))) ?_
    refine tr_region ?_
    refine op_pure (pu_move (OT.tmp rfl)) rfl rfl ?_
    refine op_pure (pu_geq (OT.tmp rfl) OT.const) rfl rfl ?_
    refine tr_nil ?_
    refine then_normal ?_
    refine tr_cond (OT.tmp rfl) (fun c21 => ?_) (fun c21 => ?_)
    · try simp only [decide_eq_true_eq, decide_eq_false_iff_not, Bool.or_eq_true, Bool.and_eq_true, Bool.or_eq_false_iff, Bool.and_eq_false_iff, Bool.not_eq_true', Bool.not_eq_false', ne_eq, Classical.not_not] at c21
      obtain ⟨k, rfl⟩ : ∃ k', k = k' + 1 := ⟨k - 1, by omega⟩
      rw [show ((k + 1 : Nat) : Int) - 1 = (k : Int) from by omega]
      refine tr_skip ?_
      refine then_normal ?_
      refine tr_seq ?_
      refine tr_block ?_
      -- region 6
      refine tr_env (es_cons (t := 0) (OT.tmp rfl) (es_cons (t := 3) (OT.tmp rfl) (es_cons (t := 8) (OT.tmp rfl) (es_cons (t := 9) (OT.tmp rfl) (es_cons (t := 10) (OT.tmp rfl) (es_cons (t := 11) (OT.tmp rfl) es_nil)))))) ?_
      refine tr_region ?_
      refine op_pure (pu_move (OT.tmp rfl)) rfl rfl ?_
      refine op_pure (pu_move (OT.tmp rfl)) rfl rfl ?_
      refine op_pure (pu_move (OT.tmp rfl)) rfl rfl ?_
      refine op_pure (pu_move (OT.tmp rfl)) rfl rfl ?_
      refine op_pure (pu_move (OT.tmp rfl)) rfl rfl ?_
      refine op_acts (acts_call (sift_fn v fv d1 k n a c (by omega) (by omega) (by omega) hfv) (show enters Try.prog 53 = true from by decide +kernel) (OTs.cons (OT.tmp rfl) (OTs.cons (OT.tmp rfl) (OTs.cons (OT.tmp rfl) (OTs.cons (OT.tmp rfl) (OTs.cons (OT.tmp rfl) OTs.nil))))) (by exact perm_at 0 rfl)) (by exact perm_at 0 rfl) rfl rfl (fun _ _ => ?_)
      refine tr_nil ?_
      refine block_normal ?_
      refine then_normal ?_
      -- region 5
      refine tr_env (es_cons (t := 0) (OT.tmp rfl) (es_cons (t := 3) (OT.tmp rfl) (es_cons (t := 8) (OT.tmp rfl) (es_cons (t := 9) (OT.tmp rfl) (es_cons (t := 10) (OT.tmp rfl) (es_cons (t := 11) (OT.tmp rfl) es_nil)))))) ?_
      refine tr_region ?_
      refine op_pure (pu_move (OT.tmp rfl)) rfl rfl ?_
      refine op_pure (pu_sub' (OT.tmp rfl) OT.const (by omega)) rfl rfl ?_
      refine op_pure (pu_assign (OT.tmp rfl)) rfl rfl ?_
      refine tr_nil ?_
      refine then_normal ?_
      exact tr_again (k, Sort.siftDown (ltc c) n a k d1) ⟨by show k ≤ n; omega, (sift_size _ _ _ _).trans hs1, hr⟩ (by omega) (es_append (es_cons (t := 11) (by exact OT.tmp rfl) es_nil) (es_cons (t := 0) (OT.tmp rfl) (es_cons (t := 3) (OT.tmp rfl) (es_cons (t := 8) (OT.tmp rfl) (es_cons (t := 9) (OT.tmp rfl) (es_cons (t := 10) (OT.tmp rfl) es_nil)))))) (own_picks (by repeat (first | exact picks_nil | refine picks_cons 0 rfl ?_ | refine picks_cons 1 rfl ?_ | refine picks_cons 2 rfl ?_ | refine picks_cons 3 rfl ?_ | refine picks_cons 4 rfl ?_ | refine picks_cons 5 rfl ?_ | refine picks_cons 6 rfl ?_)))
    · try simp only [decide_eq_true_eq, decide_eq_false_iff_not, Bool.or_eq_true, Bool.and_eq_true, Bool.or_eq_false_iff, Bool.and_eq_false_iff, Bool.not_eq_true', Bool.not_eq_false', ne_eq, Classical.not_not] at c21
      obtain rfl : k = 0 := by omega
      refine tr_exit ?_
      refine then_exit ?_
      refine then_exit ?_
      refine block_hit ?_
      refine then_normal ?_
      refine tr_seq ?_
      -- region 7
      refine tr_env (es_cons (t := 0) (OT.tmp rfl) (es_cons (t := 3) (OT.tmp rfl) (es_cons (t := 8) (OT.tmp rfl) (es_cons (t := 9) (OT.tmp rfl) (es_cons (t := 10) (OT.tmp rfl) es_nil))))) ?_
      refine tr_region ?_
      refine op_pure (pu_move (OT.tmp rfl)) rfl rfl ?_
      refine op_pure (pu_sub' (OT.tmp rfl) OT.const (by omega)) rfl rfl ?_
      refine op_pure (pu_assign (OT.tmp rfl)) rfl rfl ?_
      refine tr_nil ?_
      refine then_normal ?_
      refine tr_block ?_
      refine tr_loopK (σ := Nat × DA) (es_cons (t := 0) (OT.tmp rfl) (es_cons (t := 3) (OT.tmp rfl) (es_cons (t := 8) (OT.tmp rfl) (es_cons (t := 9) (OT.tmp rfl) es_nil)))) (fun s => [(12, I64 ((s.1 : Int) - 1))]) (fun s => [OwnI 45 (kG Z) v s.2.toList]) (fun s => s.1 ≤ n ∧ s.2.size = d.size ∧ Sort.heapPop (ltc c) a s.1 s.2 = Sort.heapSort (ltc c) d a b) (fun s => s.1) (n, d1) ⟨Nat.le_refl _, hs1, by show Sort.heapPop (ltc c) a n d1 = _; rw [heap_eq hab, hn, ← hr]; rfl⟩ ?_ (own_picks (by repeat (first | exact picks_nil | refine picks_cons 0 rfl ?_ | refine picks_cons 1 rfl ?_ | refine picks_cons 2 rfl ?_ | refine picks_cons 3 rfl ?_ | refine picks_cons 4 rfl ?_ | refine picks_cons 5 rfl ?_ | refine picks_cons 6 rfl ?_))) ?_
      · exact (es_cons (t := 12) (by exact OT.tmp rfl) es_nil)
      · rintro ⟨k2, d2⟩ ⟨hk2, hs2, hr2⟩
        dsimp only at hk2 hs2 hr2 ⊢
        have hl2 : d2.toList.length = d2.size := Array.length_toList
        refine tr_seq ?_
        refine tr_seq ?_
        -- region 8
        refine tr_env (es_cons (t := 0) (OT.tmp rfl) (es_cons (t := 3) (OT.tmp rfl) (es_cons (t := 8) (OT.tmp rfl) (es_cons (t := 9) (OT.tmp rfl) (es_cons (t := 12) (OT.tmp rfl) es_nil))))) ?_
        refine tr_region ?_
        refine op_pure (pu_move (OT.tmp rfl)) rfl rfl ?_
        refine op_pure (pu_geq (OT.tmp rfl) OT.const) rfl rfl ?_
        refine tr_nil ?_
        refine then_normal ?_
        refine tr_cond (OT.tmp rfl) (fun c33 => ?_) (fun c33 => ?_)
        · try simp only [decide_eq_true_eq, decide_eq_false_iff_not, Bool.or_eq_true, Bool.and_eq_true, Bool.or_eq_false_iff, Bool.and_eq_false_iff, Bool.not_eq_true', Bool.not_eq_false', ne_eq, Classical.not_not] at c33
          obtain ⟨k2, rfl⟩ : ∃ k', k2 = k' + 1 := ⟨k2 - 1, by omega⟩
          rw [show ((k2 + 1 : Nat) : Int) - 1 = (k2 : Int) from by omega]
          have hsw : (Sort.swp d2 a (a + k2)).toList = (d2.toList.set (a : Int).toNat (at' d2.toList ((a : Int) + k2))).set ((a : Int) + k2).toNat (at' d2.toList (a : Int)) := by
            rw [swp_items (by omega) (by omega) (by omega) (by omega)]; congr 2
          refine tr_skip ?_
          refine then_normal ?_
          refine tr_seq ?_
          refine tr_block ?_
          refine tr_seq ?_
          -- region 10
          refine tr_env (es_cons (t := 0) (OT.tmp rfl) (es_cons (t := 3) (OT.tmp rfl) (es_cons (t := 8) (OT.tmp rfl) (es_cons (t := 9) (OT.tmp rfl) (es_cons (t := 12) (OT.tmp rfl) es_nil))))) ?_
          apply tr_anyW (p := 17) (Lf := fun c => cond c ([OwnI 45 (kG Z) v (d2.toList.set (a : Int).toNat (at' d2.toList ((a : Int) + k2)))]) ([OwnI 45 (kG Z) v d2.toList])) (by kernel_rfl) (m := 18) (ns := [[(0, none)], [(8, none)], [(0, none)], [(8, none)], [(12, none)], [(39, some 3), (40, some 4)], [(0, none)], [(8, none)], [(12, none)], [(43, some 7), (44, some 8)], [(42, some 6), (45, some 9)], [(46, some 10)], [(0, none)], [(8, none)], [(48, some 12), (49, some 13)], [(50, some 14)], [(36, some 0), (37, some 1)], [(47, some 11), (52, some 16)]]) (by kernel_rfl) (by kernel_rfl) (Ts := [_, _, _, _, _, _, _, _, _, _, _, _, _, _, _, _, _, _]) rfl
          case hops =>
            refine ⟨?_, ⟨?_, ⟨?_, ⟨?_, ⟨?_, ⟨?_, ⟨?_, ⟨?_, ⟨?_, ⟨?_, ⟨?_, ⟨?_, ⟨?_, ⟨?_, ⟨?_, ⟨?_, ⟨?_, ⟨?_, trivial⟩⟩⟩⟩⟩⟩⟩⟩⟩⟩⟩⟩⟩⟩⟩⟩⟩⟩
            · intro c hc; cases c
              · exact ropw_of (rop_pure rfl (pu_move (OT.tmp rfl)))
              · exact Bool.noConfusion (hc.symm.trans (by kernel_rfl : okFlag _ _ _ _ = false))
            · intro c hc; cases c
              · exact ropw_of (rop_pure rfl (pu_move (OT.tmp rfl)))
              · exact Bool.noConfusion (hc.symm.trans (by kernel_rfl : okFlag _ _ _ _ = false))
            · intro c hc; cases c
              · exact ropw_of (rop_pure rfl (pu_move (OT.tmp rfl)))
              · exact ropw_of (rop_pure rfl (pu_move (OT.tmp rfl)))
            · intro c hc; cases c
              · exact ropw_of (rop_pure rfl (pu_move (OT.tmp rfl)))
              · exact ropw_of (rop_pure rfl (pu_move (OT.tmp rfl)))
            · intro c hc; cases c
              · exact ropw_of (rop_pure rfl (pu_move (OT.tmp rfl)))
              · exact ropw_of (rop_pure rfl (pu_move (OT.tmp rfl)))
            · intro c hc; cases c
              · exact ropw_of (rop_pure rfl (pu_add' (OT.tmp rfl) (OT.tmp rfl) (by omega)))
              · exact ropw_of (rop_pure rfl (pu_add' (OT.tmp rfl) (OT.tmp rfl) (by omega)))
            · intro c hc; cases c
              · exact ropw_of (rop_pure rfl (pu_move (OT.tmp rfl)))
              · exact Bool.noConfusion (hc.symm.trans (by kernel_rfl : okFlag _ _ _ _ = false))
            · intro c hc; cases c
              · exact ropw_of (rop_pure rfl (pu_move (OT.tmp rfl)))
              · exact Bool.noConfusion (hc.symm.trans (by kernel_rfl : okFlag _ _ _ _ = false))
            · intro c hc; cases c
              · exact ropw_of (rop_pure rfl (pu_move (OT.tmp rfl)))
              · exact Bool.noConfusion (hc.symm.trans (by kernel_rfl : okFlag _ _ _ _ = false))
            · intro c hc; cases c
              · exact ropw_of (rop_pure rfl (pu_add' (OT.tmp rfl) (OT.tmp rfl) (by omega)))
              · exact Bool.noConfusion (hc.symm.trans (by kernel_rfl : okFlag _ _ _ _ = false))
            · intro c hc; cases c
              · exact ropw_of (rop_pure rfl (pu_index_own (OT.tmp rfl) (by exact mem_at 0 rfl) (OT.tmp rfl) Try.underlying35 (show tyOk Try.prog 45 false 1 = true from by decide +kernel) (by omega) (by omega)))
              · exact Bool.noConfusion (hc.symm.trans (by kernel_rfl : okFlag _ _ _ _ = false))
            · intro c hc; cases c
              · exact ropw_of (rop_pure rfl (pu_load_own0 (OT.tmp rfl) (by exact mem_at 0 rfl) (by omega) (by omega) (show tyOk Try.prog 45 false 1 = true from by decide +kernel)))
              · exact Bool.noConfusion (hc.symm.trans (by kernel_rfl : okFlag _ _ _ _ = false))
            · intro c hc; cases c
              · exact ropw_of (rop_pure rfl (pu_move (OT.tmp rfl)))
              · exact Bool.noConfusion (hc.symm.trans (by kernel_rfl : okFlag _ _ _ _ = false))
            · intro c hc; cases c
              · exact ropw_of (rop_pure rfl (pu_move (OT.tmp rfl)))
              · exact Bool.noConfusion (hc.symm.trans (by kernel_rfl : okFlag _ _ _ _ = false))
            · intro c hc; cases c
              · exact ropw_of (rop_pure rfl (pu_index_own (OT.tmp rfl) (by exact mem_at 0 rfl) (OT.tmp rfl) Try.underlying35 (show tyOk Try.prog 45 false 1 = true from by decide +kernel) (by omega) (by omega)))
              · exact Bool.noConfusion (hc.symm.trans (by kernel_rfl : okFlag _ _ _ _ = false))
            · intro c hc; cases c
              · exact ropw_of (rop_pure rfl (pu_load_own0 (OT.tmp rfl) (by exact mem_at 0 rfl) (by omega) (by omega) (show tyOk Try.prog 45 false 1 = true from by decide +kernel)))
              · exact Bool.noConfusion (hc.symm.trans (by kernel_rfl : okFlag _ _ _ _ = false))
            · intro c hc; cases c
              · exact ropw_of (rop_pure rfl (pu_index_own (OT.tmp rfl) (by exact mem_at 0 rfl) (OT.tmp rfl) Try.underlying35 (show tyOk Try.prog 45 false 1 = true from by decide +kernel) (by omega) (by omega)))
              · exact Bool.noConfusion (hc.symm.trans (by kernel_rfl : okFlag _ _ _ _ = false))
            · intro c hc; cases c
              · exact ropw_acts rfl (acts_store_own0 (OT.tmp rfl) (OT.tmp rfl) (by exact perm_at 0 rfl) (by omega) (by omega) (show tyOk Try.prog 45 false 1 = true from by decide +kernel)) (by exact perm_at 0 rfl) (fun _ => (by exact perm_at 0 rfl)) (fun _ _ _ _ h => h)
              · exact Bool.noConfusion (hc.symm.trans (by kernel_rfl : okFlag _ _ _ _ = false))
          case h =>
            refine op_pure (pu_index_own (OT.tmp rfl) (by exact mem_at 0 rfl) (OT.tmp rfl) Try.underlying35 (show tyOk Try.prog 45 false 1 = true from by decide +kernel) (by omega) (by (simp; omega))) rfl rfl ?_
            refine op_acts (acts_store_own0 (OT.tmp rfl) (OT.tmp rfl) (by exact perm_at 0 rfl) (by omega) (by (simp; omega)) (show tyOk Try.prog 45 false 1 = true from by decide +kernel)) (by exact perm_at 0 rfl) rfl rfl (fun _ _ => ?_)
            refine tr_nil ?_
            refine then_normal ?_
            -- region 11
            refine tr_env (es_cons (t := 0) (OT.tmp rfl) (es_cons (t := 3) (OT.tmp rfl) (es_cons (t := 8) (OT.tmp rfl) (es_cons (t := 9) (OT.tmp rfl) (es_cons (t := 12) (OT.tmp rfl) es_nil))))) ?_
            rw [← hsw]
            refine tr_region ?_
            refine op_pure (pu_move (OT.tmp rfl)) rfl rfl ?_
            refine op_pure (pu_move (OT.tmp rfl)) rfl rfl ?_
            refine op_pure (pu_move (OT.tmp rfl)) rfl rfl ?_
            refine op_pure (pu_move (OT.tmp rfl)) rfl rfl ?_
            refine op_pure (pu_move (OT.tmp rfl)) rfl rfl ?_
            refine op_acts (acts_call (sift_fn v fv (Sort.swp d2 a (a + k2)) 0 k2 a c (by rw [swp_size]; omega) (by rw [swp_size]; omega) (by omega) hfv) (show enters Try.prog 53 = true from by decide +kernel) (OTs.cons (OT.tmp rfl) (OTs.cons (OT.tmp rfl) (OTs.cons (OT.tmp rfl) (OTs.cons (OT.tmp rfl) (OTs.cons (OT.tmp rfl) OTs.nil))))) (by exact perm_at 0 rfl)) (by exact perm_at 0 rfl) rfl rfl (fun _ _ => ?_)
            refine tr_nil ?_
            refine block_normal ?_
            refine then_normal ?_
            -- region 9
            refine tr_env (es_cons (t := 0) (OT.tmp rfl) (es_cons (t := 3) (OT.tmp rfl) (es_cons (t := 8) (OT.tmp rfl) (es_cons (t := 9) (OT.tmp rfl) (es_cons (t := 12) (OT.tmp rfl) es_nil))))) ?_
            refine tr_region ?_
            refine op_pure (pu_move (OT.tmp rfl)) rfl rfl ?_
            refine op_pure (pu_sub' (OT.tmp rfl) OT.const (by omega)) rfl rfl ?_
            refine op_pure (pu_assign (OT.tmp rfl)) rfl rfl ?_
            refine tr_nil ?_
            refine then_normal ?_
            exact tr_again (k2, Sort.siftDown (ltc c) k2 a 0 (Sort.swp d2 a (a + k2))) ⟨by show k2 ≤ n; omega, (sift_size _ _ _ _).trans (swp_size.trans hs2), hr2⟩ (by omega) (es_append (es_cons (t := 12) (by exact OT.tmp rfl) es_nil) (es_cons (t := 0) (OT.tmp rfl) (es_cons (t := 3) (OT.tmp rfl) (es_cons (t := 8) (OT.tmp rfl) (es_cons (t := 9) (OT.tmp rfl) es_nil))))) (own_picks (by repeat (first | exact picks_nil | refine picks_cons 0 rfl ?_ | refine picks_cons 1 rfl ?_ | refine picks_cons 2 rfl ?_ | refine picks_cons 3 rfl ?_ | refine picks_cons 4 rfl ?_ | refine picks_cons 5 rfl ?_ | refine picks_cons 6 rfl ?_)))
        · try simp only [decide_eq_true_eq, decide_eq_false_iff_not, Bool.or_eq_true, Bool.and_eq_true, Bool.or_eq_false_iff, Bool.and_eq_false_iff, Bool.not_eq_true', Bool.not_eq_false', ne_eq, Classical.not_not] at c33
          obtain rfl : k2 = 0 := by omega
          have hfin : d2 = Sort.heapSort (ltc c) d a b := hr2
          refine tr_exit ?_
          refine then_exit ?_
          refine then_exit ?_
          refine block_hit ?_
          exact ret_none .normal (.inr rfl) rfl () (fun _ => trivial) trivial (by rw [← hfin]; exact picks_cons 0 rfl picks_nil)
end Go.Proofs.Ytakkjljhjfkkbaa
/- Walks through the Go functions api.Tuple], api.Tuple], api.Tuple], api.Tuple], as typed contracts. -/
namespace Go.Proofs.Ytakkjljhjfkkbaa
open Go Go.Gw Go.So
set_option linter.unusedVariables false
set_option linter.unusedSimpArgs false
variable {Z : SlTy}
abbrev kJ : Kd Int := kint .i64
theorem zz3 : ZeroOf Try.prog 3 kJ 0 := ⟨.int .i64 0, by kernel_rfl, fun H => rfl⟩

set_option maxHeartbeats 1000000 in
set_option maxRecDepth 20000 in
/-- slices.order2CmpFunc[rhizome/api.Tuple] -/
theorem order2_fn (v fv : Value) (d : DA) (a b g : Nat) (n : Int) (c : List Int → List Int → Int) (ha : a < d.size) (hb : b < d.size) (hfv : ∀ x y, CtV Try.prog fv [(kG Z).T x, (kG Z).T y] [] Unit (fun _ => I64 (c x y)) (fun _ => []) (fun _ => True)) : Ct Try.prog 61 [IsV v, I64 (a : Int), I64 (b : Int), IsV (pt g 0), IsV fv] ([OwnI 45 (kG Z) v d.toList, BlkI g 3 kJ n]) (Nat × Nat × Int) (fun r => TupT [I64 (r.1 : Int), I64 (r.2.1 : Int)]) (fun r => [OwnI 45 (kG Z) v d.toList, BlkI g 3 kJ r.2.2]) (fun r => (r.1 = a ∧ r.2.1 = b) ∨ (r.1 = b ∧ r.2.1 = a)) := by
  refine fn_intro Try.func61 rfl rfl ?_
  intro H w
  have hl1 : d.toList.length = d.size := Array.length_toList
  refine tr_seq ?_
  -- region 0
  refine tr_env (es_cons (t := 0) (OT.tmp rfl) (es_cons (t := 1) (OT.tmp rfl) (es_cons (t := 2) (OT.tmp rfl) (es_cons (t := 3) (OT.tmp rfl) (es_cons (t := 4) (OT.tmp rfl) es_nil))))) ?_
  refine tr_region ?_
  refine op_pure (pu_assign OT.const) rfl rfl ?_
  refine op_pure (pu_assign OT.const) rfl rfl ?_
  refine tr_nil ?_
  refine then_normal ?_
  refine tr_seq ?_
  refine tr_seq ?_
  -- region 1
  refine tr_env (es_cons (t := 0) (OT.tmp rfl) (es_cons (t := 1) (OT.tmp rfl) (es_cons (t := 2) (OT.tmp rfl) (es_cons (t := 3) (OT.tmp rfl) (es_cons (t := 4) (OT.tmp rfl) es_nil))))) ?_
  apply tr_any (m := 9) (ns := [[(4, none)], [(0, none)], [(2, none)], [(13, some 1), (14, some 2)], [(15, some 3)], [(0, none)], [(1, none)], [(17, some 5), (18, some 6)], [(19, some 7)]]) (by kernel_rfl) (by kernel_rfl) (Ts := [_, _, _, _, _, _, _, _, _]) rfl
  case hops =>
    refine ⟨?_, ⟨?_, ⟨?_, ⟨?_, ⟨?_, ⟨?_, ⟨?_, ⟨?_, ⟨?_, trivial⟩⟩⟩⟩⟩⟩⟩⟩⟩
    · exact rop_pure rfl (pu_move (OT.tmp rfl))
    · exact rop_pure rfl (pu_move (OT.tmp rfl))
    · exact rop_pure rfl (pu_move (OT.tmp rfl))
    · exact rop_pure rfl (pu_index_own (OT.tmp rfl) (by exact mem_at 0 rfl) (OT.tmp rfl) Try.underlying35 (show tyOk Try.prog 45 false 1 = true from by decide +kernel) (by omega) (by omega))
    · exact rop_pure rfl (pu_load_own0 (OT.tmp rfl) (by exact mem_at 0 rfl) (by omega) (by omega) (show tyOk Try.prog 45 false 1 = true from by decide +kernel))
    · exact rop_pure rfl (pu_move (OT.tmp rfl))
    · exact rop_pure rfl (pu_move (OT.tmp rfl))
    · exact rop_pure rfl (pu_index_own (OT.tmp rfl) (by exact mem_at 0 rfl) (OT.tmp rfl) Try.underlying35 (show tyOk Try.prog 45 false 1 = true from by decide +kernel) (by omega) (by omega))
    · exact rop_pure rfl (pu_load_own0 (OT.tmp rfl) (by exact mem_at 0 rfl) (by omega) (by omega) (show tyOk Try.prog 45 false 1 = true from by decide +kernel))
  case h =>
    refine op_acts (acts_callv (OT.tmp rfl) (hfv _ _) (OTs.cons (OT.tmp rfl) (OTs.cons (OT.tmp rfl) OTs.nil)) (List.Perm.refl _)) (List.Perm.refl _) rfl rfl (fun _ _ => ?_)
    refine op_pure (pu_lss (OT.tmp rfl) OT.const) rfl rfl ?_
    refine tr_nil ?_
    refine then_normal ?_
    refine tr_cond (OT.tmp rfl) (fun c22 => ?_) (fun c22 => ?_)
    · try simp only [decide_eq_true_eq, decide_eq_false_iff_not, Bool.or_eq_true, Bool.and_eq_true, Bool.or_eq_false_iff, Bool.and_eq_false_iff, Bool.not_eq_true', Bool.not_eq_false', ne_eq, Classical.not_not] at c22
      refine tr_seq ?_
      -- region 2
      refine tr_env (es_cons (t := 1) (OT.tmp rfl) (es_cons (t := 2) (OT.tmp rfl) (es_cons (t := 3) (OT.tmp rfl) es_nil))) ?_
      refine tr_region ?_
      refine op_pure (pu_move (OT.tmp rfl)) rfl rfl ?_
      refine op_pure (pu_nilCheck (OT.tmp rfl)) rfl rfl ?_
      refine op_pure (pu_load_var (OT.tmp rfl) (by exact mem_at 1 rfl) (show tyOk Try.prog 3 false 1 = true from by decide +kernel)) rfl rfl ?_
      refine op_pure (pu_add (OT.tmp rfl) OT.const) rfl rfl ?_
      refine op_pure (pu_nilCheck (OT.tmp rfl)) rfl rfl ?_
      refine op_acts (acts_store_var (OT.tmp rfl) (OT.tmp rfl) (by exact perm_at 1 rfl) (show tyOk Try.prog 3 false 1 = true from by decide +kernel)) (by exact perm_at 1 rfl) rfl rfl (fun _ _ => ?_)
      refine tr_nil ?_
      refine then_normal ?_
      refine tr_seq ?_
      -- region 3
      refine tr_env (es_cons (t := 1) (OT.tmp rfl) (es_cons (t := 2) (OT.tmp rfl) es_nil)) ?_
      refine tr_region ?_
      refine op_pure (pu_move (OT.tmp rfl)) rfl rfl ?_
      refine op_pure (pu_move (OT.tmp rfl)) rfl rfl ?_
      refine op_pure (pu_assign (OT.tmp rfl)) rfl rfl ?_
      refine op_pure (pu_assign (OT.tmp rfl)) rfl rfl ?_
      refine tr_nil ?_
      refine then_normal ?_
      refine tr_ret ?_
      refine then_ret ?_
      exact ret_two .ret (.inl rfl) rfl (b, a, IntKind.i64.wrap (n + 1)) (OT.tmp rfl) (OT.tmp rfl) (fun _ _ h => h) (.inr ⟨rfl, rfl⟩) (by repeat (first | exact picks_nil | refine picks_cons 0 rfl ?_ | refine picks_cons 1 rfl ?_ | refine picks_cons 2 rfl ?_ | refine picks_cons 3 rfl ?_ | refine picks_cons 4 rfl ?_ | refine picks_cons 5 rfl ?_ | refine picks_cons 6 rfl ?_))
    · try simp only [decide_eq_true_eq, decide_eq_false_iff_not, Bool.or_eq_true, Bool.and_eq_true, Bool.or_eq_false_iff, Bool.and_eq_false_iff, Bool.not_eq_true', Bool.not_eq_false', ne_eq, Classical.not_not] at c22
      refine tr_skip ?_
      refine then_normal ?_
      refine tr_seq ?_
      -- region 4
      refine tr_env (es_cons (t := 1) (OT.tmp rfl) (es_cons (t := 2) (OT.tmp rfl) es_nil)) ?_
      refine tr_region ?_
      refine op_pure (pu_move (OT.tmp rfl)) rfl rfl ?_
      refine op_pure (pu_move (OT.tmp rfl)) rfl rfl ?_
      refine op_pure (pu_assign (OT.tmp rfl)) rfl rfl ?_
      refine op_pure (pu_assign (OT.tmp rfl)) rfl rfl ?_
      refine tr_nil ?_
      refine then_normal ?_
      refine tr_ret ?_
      exact ret_two .ret (.inl rfl) rfl (a, b, n) (OT.tmp rfl) (OT.tmp rfl) (fun _ _ h => h) (.inl ⟨rfl, rfl⟩) (by repeat (first | exact picks_nil | refine picks_cons 0 rfl ?_ | refine picks_cons 1 rfl ?_ | refine picks_cons 2 rfl ?_ | refine picks_cons 3 rfl ?_ | refine picks_cons 4 rfl ?_ | refine picks_cons 5 rfl ?_ | refine picks_cons 6 rfl ?_))
set_option maxHeartbeats 1000000 in
set_option maxRecDepth 20000 in
/-- slices.medianCmpFunc[rhizome/api.Tuple] -/
theorem median_fn (v fv : Value) (d : DA) (a b e g : Nat) (n : Int) (c : List Int → List Int → Int) (ha : a < d.size) (hb : b < d.size) (he : e < d.size) (hfv : ∀ x y, CtV Try.prog fv [(kG Z).T x, (kG Z).T y] [] Unit (fun _ => I64 (c x y)) (fun _ => []) (fun _ => True)) : Ct Try.prog 57 [IsV v, I64 (a : Int), I64 (b : Int), I64 (e : Int), IsV (pt g 0), IsV fv] ([OwnI 45 (kG Z) v d.toList, BlkI g 3 kJ n]) (Nat × Int) (fun r => I64 (r.1 : Int)) (fun r => [OwnI 45 (kG Z) v d.toList, BlkI g 3 kJ r.2]) (fun r => r.1 = a ∨ r.1 = b ∨ r.1 = e) := by
  refine fn_intro Try.func57 rfl rfl ?_
  intro H w
  refine tr_seq ?_
  -- region 0
  refine tr_env (es_cons (t := 0) (OT.tmp rfl) (es_cons (t := 1) (OT.tmp rfl) (es_cons (t := 2) (OT.tmp rfl) (es_cons (t := 3) (OT.tmp rfl) (es_cons (t := 4) (OT.tmp rfl) (es_cons (t := 5) (OT.tmp rfl) es_nil)))))) ?_
  refine tr_region ?_
  refine op_pure (pu_assign OT.const) rfl rfl ?_
  refine tr_nil ?_
  refine then_normal ?_
  refine tr_seq ?_
  -- region 1
  refine tr_env (es_cons (t := 0) (OT.tmp rfl) (es_cons (t := 1) (OT.tmp rfl) (es_cons (t := 2) (OT.tmp rfl) (es_cons (t := 3) (OT.tmp rfl) (es_cons (t := 4) (OT.tmp rfl) (es_cons (t := 5) (OT.tmp rfl) es_nil)))))) ?_
  refine tr_region ?_
  refine op_pure (pu_move (OT.tmp rfl)) rfl rfl ?_
  refine op_pure (pu_move (OT.tmp rfl)) rfl rfl ?_
  refine op_pure (pu_move (OT.tmp rfl)) rfl rfl ?_
  refine op_pure (pu_move (OT.tmp rfl)) rfl rfl ?_
  refine op_pure (pu_move (OT.tmp rfl)) rfl rfl ?_
  refine op_acts (acts_call (order2_fn v fv d a b g n c ha hb hfv) (show enters Try.prog 61 = true from by decide +kernel) (OTs.cons (OT.tmp rfl) (OTs.cons (OT.tmp rfl) (OTs.cons (OT.tmp rfl) (OTs.cons (OT.tmp rfl) (OTs.cons (OT.tmp rfl) OTs.nil))))) (List.Perm.trans (by exact perm_at 0 rfl) (List.Perm.cons _ (by exact perm_at 0 rfl)))) (List.Perm.trans (by exact perm_at 0 rfl) (List.Perm.cons _ (by exact perm_at 0 rfl))) rfl rfl (fun ⟨x1_5, y1_5, m1_5⟩ hp1_5 => ?_)
  refine op_pure (pu_move (OT.tmp rfl)) rfl rfl ?_
  refine op_pure (pu_extract (OT.tmp rfl) rfl) rfl rfl ?_
  refine op_pure (pu_extract (OT.tmp rfl) rfl) rfl rfl ?_
  refine op_pure (pu_assign (OT.tmp rfl)) rfl rfl ?_
  refine op_pure (pu_assign (OT.tmp rfl)) rfl rfl ?_
  refine tr_nil ?_
  refine then_normal ?_
  refine tr_seq ?_
  -- region 2
  refine tr_env (es_cons (t := 0) (OT.tmp rfl) (es_cons (t := 1) (OT.tmp rfl) (es_cons (t := 2) (OT.tmp rfl) (es_cons (t := 3) (OT.tmp rfl) (es_cons (t := 4) (OT.tmp rfl) (es_cons (t := 5) (OT.tmp rfl) es_nil)))))) ?_
  dsimp only at hp1_5 ⊢
  have hx1 : x1_5 < d.size := by omega
  have hy1 : y1_5 < d.size := by omega
  refine tr_region ?_
  refine op_pure (pu_move (OT.tmp rfl)) rfl rfl ?_
  refine op_pure (pu_move (OT.tmp rfl)) rfl rfl ?_
  refine op_pure (pu_move (OT.tmp rfl)) rfl rfl ?_
  refine op_pure (pu_move (OT.tmp rfl)) rfl rfl ?_
  refine op_pure (pu_move (OT.tmp rfl)) rfl rfl ?_
  refine op_acts (acts_call (order2_fn v fv d y1_5 e g m1_5 c hy1 he hfv) (show enters Try.prog 61 = true from by decide +kernel) (OTs.cons (OT.tmp rfl) (OTs.cons (OT.tmp rfl) (OTs.cons (OT.tmp rfl) (OTs.cons (OT.tmp rfl) (OTs.cons (OT.tmp rfl) OTs.nil))))) (List.Perm.trans (by exact perm_at 0 rfl) (List.Perm.cons _ (by exact perm_at 0 rfl)))) (List.Perm.trans (by exact perm_at 0 rfl) (List.Perm.cons _ (by exact perm_at 0 rfl))) rfl rfl (fun ⟨x2_5, y2_5, m2_5⟩ hp2_5 => ?_)
  refine op_pure (pu_move (OT.tmp rfl)) rfl rfl ?_
  refine op_pure (pu_extract (OT.tmp rfl) rfl) rfl rfl ?_
  refine op_pure (pu_extract (OT.tmp rfl) rfl) rfl rfl ?_
  refine op_pure (pu_assign (OT.tmp rfl)) rfl rfl ?_
  refine op_pure (pu_assign (OT.tmp rfl)) rfl rfl ?_
  refine tr_nil ?_
  refine then_normal ?_
  refine tr_seq ?_
  -- region 3
  refine tr_env (es_cons (t := 0) (OT.tmp rfl) (es_cons (t := 1) (OT.tmp rfl) (es_cons (t := 2) (OT.tmp rfl) (es_cons (t := 4) (OT.tmp rfl) (es_cons (t := 5) (OT.tmp rfl) es_nil))))) ?_
  dsimp only at hp2_5 ⊢
  have hx2 : x2_5 < d.size := by omega
  have hy2 : y2_5 < d.size := by omega
  refine tr_region ?_
  refine op_pure (pu_move (OT.tmp rfl)) rfl rfl ?_
  refine op_pure (pu_move (OT.tmp rfl)) rfl rfl ?_
  refine op_pure (pu_move (OT.tmp rfl)) rfl rfl ?_
  refine op_pure (pu_move (OT.tmp rfl)) rfl rfl ?_
  refine op_pure (pu_move (OT.tmp rfl)) rfl rfl ?_
  refine op_acts (acts_call (order2_fn v fv d x1_5 x2_5 g m2_5 c hx1 hx2 hfv) (show enters Try.prog 61 = true from by decide +kernel) (OTs.cons (OT.tmp rfl) (OTs.cons (OT.tmp rfl) (OTs.cons (OT.tmp rfl) (OTs.cons (OT.tmp rfl) (OTs.cons (OT.tmp rfl) OTs.nil))))) (List.Perm.trans (by exact perm_at 0 rfl) (List.Perm.cons _ (by exact perm_at 0 rfl)))) (List.Perm.trans (by exact perm_at 0 rfl) (List.Perm.cons _ (by exact perm_at 0 rfl))) rfl rfl (fun ⟨x3_5, y3_5, m3_5⟩ hp3_5 => ?_)
  refine op_pure (pu_move (OT.tmp rfl)) rfl rfl ?_
  refine op_pure (pu_extract (OT.tmp rfl) rfl) rfl rfl ?_
  refine op_pure (pu_extract (OT.tmp rfl) rfl) rfl rfl ?_
  refine op_pure (pu_assign (OT.tmp rfl)) rfl rfl ?_
  refine op_pure (pu_assign (OT.tmp rfl)) rfl rfl ?_
  refine tr_nil ?_
  refine then_normal ?_
  refine tr_seq ?_
  -- region 4
  refine tr_env (es_cons (t := 2) (OT.tmp rfl) es_nil) ?_
  refine tr_region ?_
  refine op_pure (pu_move (OT.tmp rfl)) rfl rfl ?_
  refine op_pure (pu_assign (OT.tmp rfl)) rfl rfl ?_
  refine tr_nil ?_
  refine then_normal ?_
  refine tr_ret ?_
  exact ret_one .ret (.inl rfl) rfl (y3_5, m3_5) (OT.tmp rfl) (by dsimp only at hp3_5 ⊢; omega) (by repeat (first | exact picks_nil | refine picks_cons 0 rfl ?_ | refine picks_cons 1 rfl ?_ | refine picks_cons 2 rfl ?_ | refine picks_cons 3 rfl ?_ | refine picks_cons 4 rfl ?_ | refine picks_cons 5 rfl ?_ | refine picks_cons 6 rfl ?_))
set_option maxHeartbeats 1000000 in
set_option maxRecDepth 20000 in
/-- slices.medianAdjacentCmpFunc[rhizome/api.Tuple] -/
theorem medadj_fn (v fv : Value) (d : DA) (a g : Nat) (n : Int) (c : List Int → List Int → Int) (ha : 0 < a) (hb : a + 1 < d.size) (hm : d.size < 4611686018427387904) (hfv : ∀ x y, CtV Try.prog fv [(kG Z).T x, (kG Z).T y] [] Unit (fun _ => I64 (c x y)) (fun _ => []) (fun _ => True)) : Ct Try.prog 56 [IsV v, I64 (a : Int), IsV (pt g 0), IsV fv] ([OwnI 45 (kG Z) v d.toList, BlkI g 3 kJ n]) (Nat × Int) (fun r => I64 (r.1 : Int)) (fun r => [OwnI 45 (kG Z) v d.toList, BlkI g 3 kJ r.2]) (fun r => a ≤ r.1 + 1 ∧ r.1 ≤ a + 1) := by
  refine fn_intro Try.func56 rfl rfl ?_
  intro H w
  refine tr_seq ?_
  -- region 0
  refine tr_env (es_cons (t := 0) (OT.tmp rfl) (es_cons (t := 1) (OT.tmp rfl) (es_cons (t := 2) (OT.tmp rfl) (es_cons (t := 3) (OT.tmp rfl) es_nil)))) ?_
  refine tr_region ?_
  refine op_pure (pu_assign OT.const) rfl rfl ?_
  refine tr_nil ?_
  refine then_normal ?_
  refine tr_seq ?_
  -- region 1
  refine tr_env (es_cons (t := 0) (OT.tmp rfl) (es_cons (t := 1) (OT.tmp rfl) (es_cons (t := 2) (OT.tmp rfl) (es_cons (t := 3) (OT.tmp rfl) es_nil)))) ?_
  refine tr_region ?_
  refine op_pure (pu_move (OT.tmp rfl)) rfl rfl ?_
  refine op_pure (pu_move (OT.tmp rfl)) rfl rfl ?_
  refine op_pure (pu_sub' (OT.tmp rfl) OT.const (by omega)) rfl rfl ?_
  refine op_pure (pu_move (OT.tmp rfl)) rfl rfl ?_
  refine op_pure (pu_move (OT.tmp rfl)) rfl rfl ?_
  refine op_pure (pu_add' (OT.tmp rfl) OT.const (by omega)) rfl rfl ?_
  refine op_pure (pu_move (OT.tmp rfl)) rfl rfl ?_
  refine op_pure (pu_move (OT.tmp rfl)) rfl rfl ?_
  rw [show (a : Int) - 1 = ((a - 1 : Nat) : Int) from by omega, show (a : Int) + 1 = ((a + 1 : Nat) : Int) from by omega]
  refine op_acts (acts_call (median_fn v fv d (a - 1) a (a + 1) g n c (by omega) (by omega) (by omega) hfv) (show enters Try.prog 57 = true from by decide +kernel) (OTs.cons (OT.tmp rfl) (OTs.cons (OT.tmp rfl) (OTs.cons (OT.tmp rfl) (OTs.cons (OT.tmp rfl) (OTs.cons (OT.tmp rfl) (OTs.cons (OT.tmp rfl) OTs.nil)))))) (List.Perm.trans (by exact perm_at 0 rfl) (List.Perm.cons _ (by exact perm_at 0 rfl)))) (List.Perm.trans (by exact perm_at 0 rfl) (List.Perm.cons _ (by exact perm_at 0 rfl))) rfl rfl (fun ⟨x1_8, m1_8⟩ hp1_8 => ?_)
  refine op_pure (pu_assign (OT.tmp rfl)) rfl rfl ?_
  refine tr_nil ?_
  refine then_normal ?_
  refine tr_ret ?_
  exact ret_one .ret (.inl rfl) rfl (x1_8, m1_8) (OT.tmp rfl) (by dsimp only at hp1_8 ⊢; omega) (by repeat (first | exact picks_nil | refine picks_cons 0 rfl ?_ | refine picks_cons 1 rfl ?_ | refine picks_cons 2 rfl ?_ | refine picks_cons 3 rfl ?_ | refine picks_cons 4 rfl ?_ | refine picks_cons 5 rfl ?_ | refine picks_cons 6 rfl ?_))
set_option maxHeartbeats 1000000 in
set_option maxRecDepth 20000 in
/-- slices.choosePivotCmpFunc[rhizome/api.Tuple] -/
theorem pivot_fn (v fv : Value) (d : DA) (a b : Nat) (c : List Int → List Int → Int) (hm : d.size < 4611686018427387904) (hab : a < b) (hb : b ≤ d.size) (hfv : ∀ x y, CtV Try.prog fv [(kG Z).T x, (kG Z).T y] [] Unit (fun _ => I64 (c x y)) (fun _ => []) (fun _ => True)) : Ct Try.prog 43 [IsV v, I64 (a : Int), I64 (b : Int), IsV fv] ([OwnI 45 (kG Z) v d.toList]) (Nat × Int) (fun r => TupT [I64 (r.1 : Int), I64 r.2]) (fun r => [OwnI 45 (kG Z) v d.toList]) (fun r => (a ≤ r.1 ∧ r.1 < b) ∧ (r.2 = 0 ∨ r.2 = 1 ∨ r.2 = 2)) := by
  refine fn_intro Try.func43 rfl rfl ?_
  intro H w
  refine tr_seq ?_
  -- region 0
  refine tr_env (es_cons (t := 0) (OT.tmp rfl) (es_cons (t := 1) (OT.tmp rfl) (es_cons (t := 2) (OT.tmp rfl) (es_cons (t := 3) (OT.tmp rfl) es_nil)))) ?_
  refine tr_region ?_
  refine op_pure (pu_assign OT.const) rfl rfl ?_
  refine op_pure (pu_assign OT.const) rfl rfl ?_
  refine tr_nil ?_
  refine then_normal ?_
  refine tr_seq ?_
  -- region 1
  refine tr_env (es_cons (t := 0) (OT.tmp rfl) (es_cons (t := 1) (OT.tmp rfl) (es_cons (t := 2) (OT.tmp rfl) (es_cons (t := 3) (OT.tmp rfl) es_nil)))) ?_
  refine tr_region ?_
  refine op_pure (pu_move (OT.tmp rfl)) rfl rfl ?_
  refine op_pure (pu_move (OT.tmp rfl)) rfl rfl ?_
  refine op_pure (pu_sub' (OT.tmp rfl) (OT.tmp rfl) (by omega)) rfl rfl ?_
  refine op_pure (pu_assign (OT.tmp rfl)) rfl rfl ?_
  refine tr_nil ?_
  refine then_normal ?_
  refine tr_seq ?_
  -- region 2
  refine tr_env (es_cons (t := 0) (OT.tmp rfl) (es_cons (t := 1) (OT.tmp rfl) (es_cons (t := 3) (OT.tmp rfl) (es_cons (t := 10) (OT.tmp rfl) es_nil)))) ?_
  refine tr_region ?_
  refine op_acts (acts_alloc (zz3)) (List.Perm.refl _) rfl rfl (fun g2_0 _ => ?_)
  refine tr_nil ?_
  refine then_normal ?_
  refine tr_seq ?_
  -- region 3
  refine tr_env (es_cons (t := 0) (OT.tmp rfl) (es_cons (t := 1) (OT.tmp rfl) (es_cons (t := 3) (OT.tmp rfl) (es_cons (t := 10) (OT.tmp rfl) (es_cons (t := 11) (OT.tmp rfl) es_nil))))) ?_
  rw [show (b : Int) - a = ((b - a : Nat) : Int) from by omega]
  obtain ⟨l, hl⟩ : ∃ l : Nat, b - a = l := ⟨_, rfl⟩
  rw [hl]
  refine tr_region ?_
  refine op_pure (pu_move (OT.tmp rfl)) rfl rfl ?_
  refine op_pure (pu_move (OT.tmp rfl)) rfl rfl ?_
  refine op_pure (pu_quo' (OT.tmp rfl) OT.const (by omega) (by omega)) rfl rfl ?_
  refine op_pure (pu_mul' (OT.tmp rfl) OT.const (by omega)) rfl rfl ?_
  refine op_pure (pu_add' (OT.tmp rfl) (OT.tmp rfl) (by omega)) rfl rfl ?_
  refine op_pure (pu_assign (OT.tmp rfl)) rfl rfl ?_
  refine tr_nil ?_
  refine then_normal ?_
  refine tr_seq ?_
  -- region 4
  refine tr_env (es_cons (t := 0) (OT.tmp rfl) (es_cons (t := 1) (OT.tmp rfl) (es_cons (t := 3) (OT.tmp rfl) (es_cons (t := 10) (OT.tmp rfl) (es_cons (t := 11) (OT.tmp rfl) (es_cons (t := 12) (OT.tmp rfl) es_nil)))))) ?_
  refine tr_region ?_
  refine op_pure (pu_move (OT.tmp rfl)) rfl rfl ?_
  refine op_pure (pu_move (OT.tmp rfl)) rfl rfl ?_
  refine op_pure (pu_quo' (OT.tmp rfl) OT.const (by omega) (by omega)) rfl rfl ?_
  refine op_pure (pu_mul' (OT.tmp rfl) OT.const (by omega)) rfl rfl ?_
  refine op_pure (pu_add' (OT.tmp rfl) (OT.tmp rfl) (by omega)) rfl rfl ?_
  refine op_pure (pu_assign (OT.tmp rfl)) rfl rfl ?_
  refine tr_nil ?_
  refine then_normal ?_
  refine tr_seq ?_
  -- region 5
  refine tr_env (es_cons (t := 0) (OT.tmp rfl) (es_cons (t := 1) (OT.tmp rfl) (es_cons (t := 3) (OT.tmp rfl) (es_cons (t := 10) (OT.tmp rfl) (es_cons (t := 11) (OT.tmp rfl) (es_cons (t := 12) (OT.tmp rfl) (es_cons (t := 13) (OT.tmp rfl) es_nil))))))) ?_
  refine tr_region ?_
  refine op_pure (pu_move (OT.tmp rfl)) rfl rfl ?_
  refine op_pure (pu_move (OT.tmp rfl)) rfl rfl ?_
  refine op_pure (pu_quo' (OT.tmp rfl) OT.const (by omega) (by omega)) rfl rfl ?_
  refine op_pure (pu_mul' (OT.tmp rfl) OT.const (by omega)) rfl rfl ?_
  refine op_pure (pu_add' (OT.tmp rfl) (OT.tmp rfl) (by omega)) rfl rfl ?_
  refine op_pure (pu_assign (OT.tmp rfl)) rfl rfl ?_
  refine tr_nil ?_
  refine then_normal ?_
  refine tr_seq ?_
  refine tr_seq ?_
  -- region 6
  refine tr_env (es_cons (t := 0) (OT.tmp rfl) (es_cons (t := 3) (OT.tmp rfl) (es_cons (t := 10) (OT.tmp rfl) (es_cons (t := 11) (OT.tmp rfl) (es_cons (t := 12) (OT.tmp rfl) (es_cons (t := 13) (OT.tmp rfl) (es_cons (t := 14) (OT.tmp rfl) es_nil))))))) ?_
  obtain ⟨i, hi, hi2⟩ : ∃ i : Nat, (a : Int) + (l : Int) / 4 * 1 = i ∧ a + l / 4 = i := ⟨a + l / 4, by omega, rfl⟩
  obtain ⟨j, hj, hj2⟩ : ∃ j : Nat, (a : Int) + (l : Int) / 4 * 2 = j ∧ a + l / 4 * 2 = j := ⟨a + l / 4 * 2, by omega, rfl⟩
  obtain ⟨k, hk, hk2⟩ : ∃ k : Nat, (a : Int) + (l : Int) / 4 * 3 = k ∧ a + l / 4 * 3 = k := ⟨a + l / 4 * 3, by omega, rfl⟩
  rw [hi, hj, hk]
  refine tr_region ?_
  refine op_pure (pu_move (OT.tmp rfl)) rfl rfl ?_
  refine op_pure (pu_geq (OT.tmp rfl) OT.const) rfl rfl ?_
  refine tr_nil ?_
  refine then_normal ?_
  refine tr_cond (OT.tmp rfl) (fun c34 => ?_) (fun c34 => ?_)
  · try simp only [decide_eq_true_eq, decide_eq_false_iff_not, Bool.or_eq_true, Bool.and_eq_true, Bool.or_eq_false_iff, Bool.and_eq_false_iff, Bool.not_eq_true', Bool.not_eq_false', ne_eq, Classical.not_not] at c34
    refine tr_seq ?_
    refine tr_seq ?_
    -- region 7
    refine tr_env (es_cons (t := 0) (OT.tmp rfl) (es_cons (t := 3) (OT.tmp rfl) (es_cons (t := 10) (OT.tmp rfl) (es_cons (t := 11) (OT.tmp rfl) (es_cons (t := 12) (OT.tmp rfl) (es_cons (t := 13) (OT.tmp rfl) (es_cons (t := 14) (OT.tmp rfl) es_nil))))))) ?_
    refine tr_region ?_
    refine op_pure (pu_move (OT.tmp rfl)) rfl rfl ?_
    refine op_pure (pu_geq (OT.tmp rfl) OT.const) rfl rfl ?_
    refine tr_nil ?_
    refine then_normal ?_
    refine tr_cond (OT.tmp rfl) (fun c36 => ?_) (fun c36 => ?_)
    · try simp only [decide_eq_true_eq, decide_eq_false_iff_not, Bool.or_eq_true, Bool.and_eq_true, Bool.or_eq_false_iff, Bool.and_eq_false_iff, Bool.not_eq_true', Bool.not_eq_false', ne_eq, Classical.not_not] at c36
      refine tr_seq ?_
      -- region 8
      refine tr_env (es_cons (t := 0) (OT.tmp rfl) (es_cons (t := 3) (OT.tmp rfl) (es_cons (t := 11) (OT.tmp rfl) (es_cons (t := 12) (OT.tmp rfl) (es_cons (t := 13) (OT.tmp rfl) (es_cons (t := 14) (OT.tmp rfl) es_nil)))))) ?_
      refine tr_region ?_
      refine op_pure (pu_move (OT.tmp rfl)) rfl rfl ?_
      refine op_pure (pu_move (OT.tmp rfl)) rfl rfl ?_
      refine op_pure (pu_move (OT.tmp rfl)) rfl rfl ?_
      refine op_acts (acts_call (medadj_fn v fv d _ _ _ c (by omega) (by omega) (by omega) hfv) (show enters Try.prog 56 = true from by decide +kernel) (OTs.cons (OT.tmp rfl) (OTs.cons (OT.tmp rfl) (OTs.cons (OT.tmp rfl) (OTs.cons (OT.tmp rfl) OTs.nil)))) (List.Perm.trans (by exact perm_at 1 rfl) (List.Perm.cons _ (by exact perm_at 0 rfl)))) (List.Perm.trans (by exact perm_at 1 rfl) (List.Perm.cons _ (by exact perm_at 0 rfl))) rfl rfl (fun ⟨x8_3, m8_3⟩ hp8_3 => ?_)
      refine op_pure (pu_assign (OT.tmp rfl)) rfl rfl ?_
      refine tr_nil ?_
      refine then_normal ?_
      refine tr_seq ?_
      -- region 9
      refine tr_env (es_cons (t := 0) (OT.tmp rfl) (es_cons (t := 3) (OT.tmp rfl) (es_cons (t := 11) (OT.tmp rfl) (es_cons (t := 12) (OT.tmp rfl) (es_cons (t := 13) (OT.tmp rfl) (es_cons (t := 14) (OT.tmp rfl) es_nil)))))) ?_
      refine tr_region ?_
      refine op_pure (pu_move (OT.tmp rfl)) rfl rfl ?_
      refine op_pure (pu_move (OT.tmp rfl)) rfl rfl ?_
      refine op_pure (pu_move (OT.tmp rfl)) rfl rfl ?_
      refine op_acts (acts_call (medadj_fn v fv d _ _ _ c (by omega) (by omega) (by omega) hfv) (show enters Try.prog 56 = true from by decide +kernel) (OTs.cons (OT.tmp rfl) (OTs.cons (OT.tmp rfl) (OTs.cons (OT.tmp rfl) (OTs.cons (OT.tmp rfl) OTs.nil)))) (List.Perm.trans (by exact perm_at 0 rfl) (List.Perm.cons _ (by exact perm_at 0 rfl)))) (List.Perm.trans (by exact perm_at 0 rfl) (List.Perm.cons _ (by exact perm_at 0 rfl))) rfl rfl (fun ⟨x9_3, m9_3⟩ hp9_3 => ?_)
      refine op_pure (pu_assign (OT.tmp rfl)) rfl rfl ?_
      refine tr_nil ?_
      refine then_normal ?_
      -- region 10
      refine tr_env (es_cons (t := 0) (OT.tmp rfl) (es_cons (t := 3) (OT.tmp rfl) (es_cons (t := 11) (OT.tmp rfl) (es_cons (t := 12) (OT.tmp rfl) (es_cons (t := 13) (OT.tmp rfl) (es_cons (t := 14) (OT.tmp rfl) es_nil)))))) ?_
      refine tr_region ?_
      refine op_pure (pu_move (OT.tmp rfl)) rfl rfl ?_
      refine op_pure (pu_move (OT.tmp rfl)) rfl rfl ?_
      refine op_pure (pu_move (OT.tmp rfl)) rfl rfl ?_
      refine op_acts (acts_call (medadj_fn v fv d _ _ _ c (by omega) (by omega) (by omega) hfv) (show enters Try.prog 56 = true from by decide +kernel) (OTs.cons (OT.tmp rfl) (OTs.cons (OT.tmp rfl) (OTs.cons (OT.tmp rfl) (OTs.cons (OT.tmp rfl) OTs.nil)))) (List.Perm.trans (by exact perm_at 0 rfl) (List.Perm.cons _ (by exact perm_at 0 rfl)))) (List.Perm.trans (by exact perm_at 0 rfl) (List.Perm.cons _ (by exact perm_at 0 rfl))) rfl rfl (fun ⟨x10_3, m10_3⟩ hp10_3 => ?_)
      refine op_pure (pu_assign (OT.tmp rfl)) rfl rfl ?_
      refine tr_nil ?_
      refine then_normal ?_
      -- region 11
      refine tr_env (es_cons (t := 0) (OT.tmp rfl) (es_cons (t := 3) (OT.tmp rfl) (es_cons (t := 11) (OT.tmp rfl) (es_cons (t := 12) (OT.tmp rfl) (es_cons (t := 13) (OT.tmp rfl) (es_cons (t := 14) (OT.tmp rfl) es_nil)))))) ?_
      first | dsimp only at hp8_3 hp9_3 hp10_3 ⊢ | skip
      refine tr_region ?_
      refine op_pure (pu_move (OT.tmp rfl)) rfl rfl ?_
      refine op_pure (pu_move (OT.tmp rfl)) rfl rfl ?_
      refine op_pure (pu_move (OT.tmp rfl)) rfl rfl ?_
      refine op_pure (pu_move (OT.tmp rfl)) rfl rfl ?_
      refine op_pure (pu_move (OT.tmp rfl)) rfl rfl ?_
      refine op_acts (acts_call (median_fn v fv d _ _ _ _ _ c (by omega) (by omega) (by omega) hfv) (show enters Try.prog 57 = true from by decide +kernel) (OTs.cons (OT.tmp rfl) (OTs.cons (OT.tmp rfl) (OTs.cons (OT.tmp rfl) (OTs.cons (OT.tmp rfl) (OTs.cons (OT.tmp rfl) (OTs.cons (OT.tmp rfl) OTs.nil)))))) (List.Perm.trans (by exact perm_at 0 rfl) (List.Perm.cons _ (by exact perm_at 0 rfl)))) (List.Perm.trans (by exact perm_at 0 rfl) (List.Perm.cons _ (by exact perm_at 0 rfl))) rfl rfl (fun ⟨x11_5, m11_5⟩ hp11_5 => ?_)
      refine op_pure (pu_assign (OT.tmp rfl)) rfl rfl ?_
      refine tr_nil ?_
      refine then_normal ?_
      refine tr_seq ?_
      -- region 12
      refine tr_env (es_cons (t := 11) (OT.tmp rfl) (es_cons (t := 13) (OT.tmp rfl) es_nil)) ?_
      first | dsimp only at hp11_5 ⊢ | skip
      refine tr_region ?_
      refine op_pure (pu_load_var (OT.tmp rfl) (by exact mem_at 1 rfl) (show tyOk Try.prog 3 false 1 = true from by decide +kernel)) rfl rfl ?_
      refine tr_nil ?_
      refine then_normal ?_
      refine tr_block ?_
      refine tr_seq ?_
      -- region 14
      refine tr_env (es_cons (t := 13) (OT.tmp rfl) (es_cons (t := 55) (OT.tmp rfl) es_nil)) ?_
      refine tr_region ?_
      refine op_pure (pu_eql (OT.tmp rfl) OT.const) rfl rfl ?_
      refine op_pure (pu_assign (OT.tmp rfl)) rfl rfl ?_
      refine tr_nil ?_
      refine then_normal ?_
      refine tr_cond (OT.tmp rfl) (fun c57 => ?_) (fun c57 => ?_)
      · try simp only [decide_eq_true_eq, decide_eq_false_iff_not, Bool.or_eq_true, Bool.and_eq_true, Bool.or_eq_false_iff, Bool.and_eq_false_iff, Bool.not_eq_true', Bool.not_eq_false', ne_eq, Classical.not_not] at c57
        refine tr_seq ?_
        -- region 15
        refine tr_env (es_cons (t := 13) (OT.tmp rfl) es_nil) ?_
        refine tr_region ?_
        refine op_pure (pu_move (OT.tmp rfl)) rfl rfl ?_
        refine op_pure (pu_assign (OT.tmp rfl)) rfl rfl ?_
        refine op_pure (pu_assign OT.const) rfl rfl ?_
        refine tr_nil ?_
        refine then_normal ?_
        refine tr_ret ?_
        refine block_ret ?_
        exact ret_two .ret (.inl rfl) rfl (x11_5, 1) (OT.tmp rfl) (OT.tmp rfl) (fun _ _ h => h) (by show (a ≤ x11_5 ∧ x11_5 < b) ∧ _; exact ⟨by omega, by simp⟩) (by repeat (first | exact picks_nil | refine picks_cons 0 rfl ?_ | refine picks_cons 1 rfl ?_ | refine picks_cons 2 rfl ?_ | refine picks_cons 3 rfl ?_ | refine picks_cons 4 rfl ?_ | refine picks_cons 5 rfl ?_ | refine picks_cons 6 rfl ?_))
      · try simp only [decide_eq_true_eq, decide_eq_false_iff_not, Bool.or_eq_true, Bool.and_eq_true, Bool.or_eq_false_iff, Bool.and_eq_false_iff, Bool.not_eq_true', Bool.not_eq_false', ne_eq, Classical.not_not] at c57
        refine tr_seq ?_
        -- region 16
        refine tr_env (es_cons (t := 13) (OT.tmp rfl) (es_cons (t := 55) (OT.tmp rfl) es_nil)) ?_
        refine tr_region ?_
        refine op_pure (pu_eql (OT.tmp rfl) OT.const) rfl rfl ?_
        refine op_pure (pu_assign (OT.tmp rfl)) rfl rfl ?_
        refine tr_nil ?_
        refine then_normal ?_
        refine tr_cond (OT.tmp rfl) (fun c60 => ?_) (fun c60 => ?_)
        · try simp only [decide_eq_true_eq, decide_eq_false_iff_not, Bool.or_eq_true, Bool.and_eq_true, Bool.or_eq_false_iff, Bool.and_eq_false_iff, Bool.not_eq_true', Bool.not_eq_false', ne_eq, Classical.not_not] at c60
          refine tr_seq ?_
          -- region 17
          refine tr_env (es_cons (t := 13) (OT.tmp rfl) es_nil) ?_
          refine tr_region ?_
          refine op_pure (pu_move (OT.tmp rfl)) rfl rfl ?_
          refine op_pure (pu_assign (OT.tmp rfl)) rfl rfl ?_
          refine op_pure (pu_assign OT.const) rfl rfl ?_
          refine tr_nil ?_
          refine then_normal ?_
          refine tr_ret ?_
          refine block_ret ?_
          exact ret_two .ret (.inl rfl) rfl (x11_5, 2) (OT.tmp rfl) (OT.tmp rfl) (fun _ _ h => h) (by show (a ≤ x11_5 ∧ x11_5 < b) ∧ _; exact ⟨by omega, by simp⟩) (by repeat (first | exact picks_nil | refine picks_cons 0 rfl ?_ | refine picks_cons 1 rfl ?_ | refine picks_cons 2 rfl ?_ | refine picks_cons 3 rfl ?_ | refine picks_cons 4 rfl ?_ | refine picks_cons 5 rfl ?_ | refine picks_cons 6 rfl ?_))
        · try simp only [decide_eq_true_eq, decide_eq_false_iff_not, Bool.or_eq_true, Bool.and_eq_true, Bool.or_eq_false_iff, Bool.and_eq_false_iff, Bool.not_eq_true', Bool.not_eq_false', ne_eq, Classical.not_not] at c60
          refine tr_seq ?_
          -- region 13
          refine tr_env (es_cons (t := 13) (OT.tmp rfl) es_nil) ?_
          refine tr_region ?_
          refine op_pure (pu_move (OT.tmp rfl)) rfl rfl ?_
          refine op_pure (pu_assign (OT.tmp rfl)) rfl rfl ?_
          refine op_pure (pu_assign OT.const) rfl rfl ?_
          refine tr_nil ?_
          refine then_normal ?_
          refine tr_ret ?_
          refine block_ret ?_
          exact ret_two .ret (.inl rfl) rfl (x11_5, 0) (OT.tmp rfl) (OT.tmp rfl) (fun _ _ h => h) (by show (a ≤ x11_5 ∧ x11_5 < b) ∧ _; exact ⟨by omega, by simp⟩) (by repeat (first | exact picks_nil | refine picks_cons 0 rfl ?_ | refine picks_cons 1 rfl ?_ | refine picks_cons 2 rfl ?_ | refine picks_cons 3 rfl ?_ | refine picks_cons 4 rfl ?_ | refine picks_cons 5 rfl ?_ | refine picks_cons 6 rfl ?_))
    · try simp only [decide_eq_true_eq, decide_eq_false_iff_not, Bool.or_eq_true, Bool.and_eq_true, Bool.or_eq_false_iff, Bool.and_eq_false_iff, Bool.not_eq_true', Bool.not_eq_false', ne_eq, Classical.not_not] at c36
      refine tr_skip ?_
      refine then_normal ?_
      -- region 11
      refine tr_env (es_cons (t := 0) (OT.tmp rfl) (es_cons (t := 3) (OT.tmp rfl) (es_cons (t := 11) (OT.tmp rfl) (es_cons (t := 12) (OT.tmp rfl) (es_cons (t := 13) (OT.tmp rfl) (es_cons (t := 14) (OT.tmp rfl) es_nil)))))) ?_
      first | dsimp only at hp8_3 hp9_3 hp10_3 ⊢ | skip
      refine tr_region ?_
      refine op_pure (pu_move (OT.tmp rfl)) rfl rfl ?_
      refine op_pure (pu_move (OT.tmp rfl)) rfl rfl ?_
      refine op_pure (pu_move (OT.tmp rfl)) rfl rfl ?_
      refine op_pure (pu_move (OT.tmp rfl)) rfl rfl ?_
      refine op_pure (pu_move (OT.tmp rfl)) rfl rfl ?_
      refine op_acts (acts_call (median_fn v fv d _ _ _ _ _ c (by omega) (by omega) (by omega) hfv) (show enters Try.prog 57 = true from by decide +kernel) (OTs.cons (OT.tmp rfl) (OTs.cons (OT.tmp rfl) (OTs.cons (OT.tmp rfl) (OTs.cons (OT.tmp rfl) (OTs.cons (OT.tmp rfl) (OTs.cons (OT.tmp rfl) OTs.nil)))))) (List.Perm.trans (by exact perm_at 1 rfl) (List.Perm.cons _ (by exact perm_at 0 rfl)))) (List.Perm.trans (by exact perm_at 1 rfl) (List.Perm.cons _ (by exact perm_at 0 rfl))) rfl rfl (fun ⟨x11_5, m11_5⟩ hp11_5 => ?_)
      refine op_pure (pu_assign (OT.tmp rfl)) rfl rfl ?_
      refine tr_nil ?_
      refine then_normal ?_
      refine tr_seq ?_
      -- region 12
      refine tr_env (es_cons (t := 11) (OT.tmp rfl) (es_cons (t := 13) (OT.tmp rfl) es_nil)) ?_
      first | dsimp only at hp11_5 ⊢ | skip
      refine tr_region ?_
      refine op_pure (pu_load_var (OT.tmp rfl) (by exact mem_at 1 rfl) (show tyOk Try.prog 3 false 1 = true from by decide +kernel)) rfl rfl ?_
      refine tr_nil ?_
      refine then_normal ?_
      refine tr_block ?_
      refine tr_seq ?_
      -- region 14
      refine tr_env (es_cons (t := 13) (OT.tmp rfl) (es_cons (t := 55) (OT.tmp rfl) es_nil)) ?_
      refine tr_region ?_
      refine op_pure (pu_eql (OT.tmp rfl) OT.const) rfl rfl ?_
      refine op_pure (pu_assign (OT.tmp rfl)) rfl rfl ?_
      refine tr_nil ?_
      refine then_normal ?_
      refine tr_cond (OT.tmp rfl) (fun c57 => ?_) (fun c57 => ?_)
      · try simp only [decide_eq_true_eq, decide_eq_false_iff_not, Bool.or_eq_true, Bool.and_eq_true, Bool.or_eq_false_iff, Bool.and_eq_false_iff, Bool.not_eq_true', Bool.not_eq_false', ne_eq, Classical.not_not] at c57
        refine tr_seq ?_
        -- region 15
        refine tr_env (es_cons (t := 13) (OT.tmp rfl) es_nil) ?_
        refine tr_region ?_
        refine op_pure (pu_move (OT.tmp rfl)) rfl rfl ?_
        refine op_pure (pu_assign (OT.tmp rfl)) rfl rfl ?_
        refine op_pure (pu_assign OT.const) rfl rfl ?_
        refine tr_nil ?_
        refine then_normal ?_
        refine tr_ret ?_
        refine block_ret ?_
        exact ret_two .ret (.inl rfl) rfl (x11_5, 1) (OT.tmp rfl) (OT.tmp rfl) (fun _ _ h => h) (by show (a ≤ x11_5 ∧ x11_5 < b) ∧ _; exact ⟨by omega, by simp⟩) (by repeat (first | exact picks_nil | refine picks_cons 0 rfl ?_ | refine picks_cons 1 rfl ?_ | refine picks_cons 2 rfl ?_ | refine picks_cons 3 rfl ?_ | refine picks_cons 4 rfl ?_ | refine picks_cons 5 rfl ?_ | refine picks_cons 6 rfl ?_))
      · try simp only [decide_eq_true_eq, decide_eq_false_iff_not, Bool.or_eq_true, Bool.and_eq_true, Bool.or_eq_false_iff, Bool.and_eq_false_iff, Bool.not_eq_true', Bool.not_eq_false', ne_eq, Classical.not_not] at c57
        refine tr_seq ?_
        -- region 16
        refine tr_env (es_cons (t := 13) (OT.tmp rfl) (es_cons (t := 55) (OT.tmp rfl) es_nil)) ?_
        refine tr_region ?_
        refine op_pure (pu_eql (OT.tmp rfl) OT.const) rfl rfl ?_
        refine op_pure (pu_assign (OT.tmp rfl)) rfl rfl ?_
        refine tr_nil ?_
        refine then_normal ?_
        refine tr_cond (OT.tmp rfl) (fun c60 => ?_) (fun c60 => ?_)
        · try simp only [decide_eq_true_eq, decide_eq_false_iff_not, Bool.or_eq_true, Bool.and_eq_true, Bool.or_eq_false_iff, Bool.and_eq_false_iff, Bool.not_eq_true', Bool.not_eq_false', ne_eq, Classical.not_not] at c60
          refine tr_seq ?_
          -- region 17
          refine tr_env (es_cons (t := 13) (OT.tmp rfl) es_nil) ?_
          refine tr_region ?_
          refine op_pure (pu_move (OT.tmp rfl)) rfl rfl ?_
          refine op_pure (pu_assign (OT.tmp rfl)) rfl rfl ?_
          refine op_pure (pu_assign OT.const) rfl rfl ?_
          refine tr_nil ?_
          refine then_normal ?_
          refine tr_ret ?_
          refine block_ret ?_
          exact ret_two .ret (.inl rfl) rfl (x11_5, 2) (OT.tmp rfl) (OT.tmp rfl) (fun _ _ h => h) (by show (a ≤ x11_5 ∧ x11_5 < b) ∧ _; exact ⟨by omega, by simp⟩) (by repeat (first | exact picks_nil | refine picks_cons 0 rfl ?_ | refine picks_cons 1 rfl ?_ | refine picks_cons 2 rfl ?_ | refine picks_cons 3 rfl ?_ | refine picks_cons 4 rfl ?_ | refine picks_cons 5 rfl ?_ | refine picks_cons 6 rfl ?_))
        · try simp only [decide_eq_true_eq, decide_eq_false_iff_not, Bool.or_eq_true, Bool.and_eq_true, Bool.or_eq_false_iff, Bool.and_eq_false_iff, Bool.not_eq_true', Bool.not_eq_false', ne_eq, Classical.not_not] at c60
          refine tr_seq ?_
          -- region 13
          refine tr_env (es_cons (t := 13) (OT.tmp rfl) es_nil) ?_
          refine tr_region ?_
          refine op_pure (pu_move (OT.tmp rfl)) rfl rfl ?_
          refine op_pure (pu_assign (OT.tmp rfl)) rfl rfl ?_
          refine op_pure (pu_assign OT.const) rfl rfl ?_
          refine tr_nil ?_
          refine then_normal ?_
          refine tr_ret ?_
          refine block_ret ?_
          exact ret_two .ret (.inl rfl) rfl (x11_5, 0) (OT.tmp rfl) (OT.tmp rfl) (fun _ _ h => h) (by show (a ≤ x11_5 ∧ x11_5 < b) ∧ _; exact ⟨by omega, by simp⟩) (by repeat (first | exact picks_nil | refine picks_cons 0 rfl ?_ | refine picks_cons 1 rfl ?_ | refine picks_cons 2 rfl ?_ | refine picks_cons 3 rfl ?_ | refine picks_cons 4 rfl ?_ | refine picks_cons 5 rfl ?_ | refine picks_cons 6 rfl ?_))
  · try simp only [decide_eq_true_eq, decide_eq_false_iff_not, Bool.or_eq_true, Bool.and_eq_true, Bool.or_eq_false_iff, Bool.and_eq_false_iff, Bool.not_eq_true', Bool.not_eq_false', ne_eq, Classical.not_not] at c34
    refine tr_skip ?_
    refine then_normal ?_
    refine tr_seq ?_
    -- region 12
    refine tr_env (es_cons (t := 11) (OT.tmp rfl) (es_cons (t := 13) (OT.tmp rfl) es_nil)) ?_
    first | dsimp only at hp11_5 ⊢ | skip
    refine tr_region ?_
    refine op_pure (pu_load_var (OT.tmp rfl) (by exact mem_at 0 rfl) (show tyOk Try.prog 3 false 1 = true from by decide +kernel)) rfl rfl ?_
    refine tr_nil ?_
    refine then_normal ?_
    refine tr_block ?_
    refine tr_seq ?_
    -- region 14
    refine tr_env (es_cons (t := 13) (OT.tmp rfl) (es_cons (t := 55) (OT.tmp rfl) es_nil)) ?_
    refine tr_region ?_
    refine op_pure (pu_eql (OT.tmp rfl) OT.const) rfl rfl ?_
    refine op_pure (pu_assign (OT.tmp rfl)) rfl rfl ?_
    refine tr_nil ?_
    refine then_normal ?_
    refine tr_cond (OT.tmp rfl) (fun c57 => ?_) (fun c57 => ?_)
    · try simp only [decide_eq_true_eq, decide_eq_false_iff_not, Bool.or_eq_true, Bool.and_eq_true, Bool.or_eq_false_iff, Bool.and_eq_false_iff, Bool.not_eq_true', Bool.not_eq_false', ne_eq, Classical.not_not] at c57
      refine tr_seq ?_
      -- region 15
      refine tr_env (es_cons (t := 13) (OT.tmp rfl) es_nil) ?_
      refine tr_region ?_
      refine op_pure (pu_move (OT.tmp rfl)) rfl rfl ?_
      refine op_pure (pu_assign (OT.tmp rfl)) rfl rfl ?_
      refine op_pure (pu_assign OT.const) rfl rfl ?_
      refine tr_nil ?_
      refine then_normal ?_
      refine tr_ret ?_
      refine block_ret ?_
      exact ret_two .ret (.inl rfl) rfl (j, 1) (OT.tmp rfl) (OT.tmp rfl) (fun _ _ h => h) (by show (a ≤ j ∧ j < b) ∧ _; exact ⟨by omega, by simp⟩) (by repeat (first | exact picks_nil | refine picks_cons 0 rfl ?_ | refine picks_cons 1 rfl ?_ | refine picks_cons 2 rfl ?_ | refine picks_cons 3 rfl ?_ | refine picks_cons 4 rfl ?_ | refine picks_cons 5 rfl ?_ | refine picks_cons 6 rfl ?_))
    · try simp only [decide_eq_true_eq, decide_eq_false_iff_not, Bool.or_eq_true, Bool.and_eq_true, Bool.or_eq_false_iff, Bool.and_eq_false_iff, Bool.not_eq_true', Bool.not_eq_false', ne_eq, Classical.not_not] at c57
      refine tr_seq ?_
      -- region 16
      refine tr_env (es_cons (t := 13) (OT.tmp rfl) (es_cons (t := 55) (OT.tmp rfl) es_nil)) ?_
      refine tr_region ?_
      refine op_pure (pu_eql (OT.tmp rfl) OT.const) rfl rfl ?_
      refine op_pure (pu_assign (OT.tmp rfl)) rfl rfl ?_
      refine tr_nil ?_
      refine then_normal ?_
      refine tr_cond (OT.tmp rfl) (fun c60 => ?_) (fun c60 => ?_)
      · try simp only [decide_eq_true_eq, decide_eq_false_iff_not, Bool.or_eq_true, Bool.and_eq_true, Bool.or_eq_false_iff, Bool.and_eq_false_iff, Bool.not_eq_true', Bool.not_eq_false', ne_eq, Classical.not_not] at c60
        refine tr_seq ?_
        -- region 17
        refine tr_env (es_cons (t := 13) (OT.tmp rfl) es_nil) ?_
        refine tr_region ?_
        refine op_pure (pu_move (OT.tmp rfl)) rfl rfl ?_
        refine op_pure (pu_assign (OT.tmp rfl)) rfl rfl ?_
        refine op_pure (pu_assign OT.const) rfl rfl ?_
        refine tr_nil ?_
        refine then_normal ?_
        refine tr_ret ?_
        refine block_ret ?_
        exact ret_two .ret (.inl rfl) rfl (j, 2) (OT.tmp rfl) (OT.tmp rfl) (fun _ _ h => h) (by show (a ≤ j ∧ j < b) ∧ _; exact ⟨by omega, by simp⟩) (by repeat (first | exact picks_nil | refine picks_cons 0 rfl ?_ | refine picks_cons 1 rfl ?_ | refine picks_cons 2 rfl ?_ | refine picks_cons 3 rfl ?_ | refine picks_cons 4 rfl ?_ | refine picks_cons 5 rfl ?_ | refine picks_cons 6 rfl ?_))
      · try simp only [decide_eq_true_eq, decide_eq_false_iff_not, Bool.or_eq_true, Bool.and_eq_true, Bool.or_eq_false_iff, Bool.and_eq_false_iff, Bool.not_eq_true', Bool.not_eq_false', ne_eq, Classical.not_not] at c60
        refine tr_seq ?_
        -- region 13
        refine tr_env (es_cons (t := 13) (OT.tmp rfl) es_nil) ?_
        refine tr_region ?_
        refine op_pure (pu_move (OT.tmp rfl)) rfl rfl ?_
        refine op_pure (pu_assign (OT.tmp rfl)) rfl rfl ?_
        refine op_pure (pu_assign OT.const) rfl rfl ?_
        refine tr_nil ?_
        refine then_normal ?_
        refine tr_ret ?_
        refine block_ret ?_
        exact ret_two .ret (.inl rfl) rfl (j, 0) (OT.tmp rfl) (OT.tmp rfl) (fun _ _ h => h) (by show (a ≤ j ∧ j < b) ∧ _; exact ⟨by omega, by simp⟩) (by repeat (first | exact picks_nil | refine picks_cons 0 rfl ?_ | refine picks_cons 1 rfl ?_ | refine picks_cons 2 rfl ?_ | refine picks_cons 3 rfl ?_ | refine picks_cons 4 rfl ?_ | refine picks_cons 5 rfl ?_ | refine picks_cons 6 rfl ?_))
end Go.Proofs.Ytakkjljhjfkkbaa
/- Sorts of tuples: the partitions' loops, step by step. -/
namespace Go.So
open Go Go.Gw
set_option linter.unusedVariables false
set_option linter.unusedSimpArgs false
section
variable {c : List Int → List Int → Int} {d : DA} {a b i j i2 j2 : Nat} {p : List Int → Bool}
theorem up_step (h : i ≤ j) (hp : p d[i]! = true) : Sort.scanUp p d j i = Sort.scanUp p d j (i + 1) := by
  rw [Sort.scanUp, if_pos (by simp [h, hp])]
theorem up_end (h : i ≤ j → p d[i]! = false) : Sort.scanUp p d j i = i := by
  rw [Sort.scanUp, if_neg (by rw [Bool.and_eq_true, decide_eq_true_eq]; rintro ⟨h1, h2⟩; rw [h h1] at h2; cases h2)]
theorem down_step (h0 : 0 < j) (h : i ≤ j) (hp : p d[j]! = true) : Sort.scanDown p d i j = Sort.scanDown p d i (j - 1) := by
  obtain ⟨k, rfl⟩ : ∃ k, j = k + 1 := ⟨j - 1, by omega⟩
  rw [Sort.scanDown, if_pos (by simp [h, hp]), Nat.add_sub_cancel]
theorem down_end (h : i ≤ j → p d[j]! = false) : Sort.scanDown p d i j = j := by
  cases j with
  | zero => rfl
  | succ k => rw [Sort.scanDown, if_neg (by rw [Bool.and_eq_true, decide_eq_true_eq]; rintro ⟨h1, h2⟩; rw [h h1] at h2; cases h2)]
theorem part_end (hi : Sort.scanUp (fun x => ltc c x d[a]!) d j i = i2) (hj : Sort.scanDown (fun x => !ltc c x d[a]!) d i2 j = j2) (h : i2 > j2) : Sort.partLoop (ltc c) a i j d = (j2, d) := by
  rw [Sort.partLoop]
  simp only [hi, hj]
  rw [if_pos h]
theorem part_step (hi : Sort.scanUp (fun x => ltc c x d[a]!) d j i = i2) (hj : Sort.scanDown (fun x => !ltc c x d[a]!) d i2 j = j2) (h : ¬ i2 > j2) (hg : j2 - 1 + 1 - (i2 + 1) < j + 1 - i) : Sort.partLoop (ltc c) a i j d = Sort.partLoop (ltc c) a (i2 + 1) (j2 - 1) (Sort.swp d i2 j2) := by
  rw [Sort.partLoop]
  simp only [hi, hj]
  rw [if_neg h, dif_pos hg]
theorem partE_end (hi : Sort.scanUp (fun x => !ltc c d[a]! x) d j i = i2) (hj : Sort.scanDown (fun x => ltc c d[a]! x) d i2 j = j2) (h : i2 > j2) : Sort.partEqLoop (ltc c) a i j d = (i2, d) := by
  rw [Sort.partEqLoop]
  simp only [hi, hj]
  rw [if_pos h]
theorem partE_step (hi : Sort.scanUp (fun x => !ltc c d[a]! x) d j i = i2) (hj : Sort.scanDown (fun x => ltc c d[a]! x) d i2 j = j2) (h : ¬ i2 > j2) (hg : j2 - 1 + 1 - (i2 + 1) < j + 1 - i) : Sort.partEqLoop (ltc c) a i j d = Sort.partEqLoop (ltc c) a (i2 + 1) (j2 - 1) (Sort.swp d i2 j2) := by
  rw [Sort.partEqLoop]
  simp only [hi, hj]
  rw [if_neg h, dif_pos hg]
theorem partition_one (hi : Sort.scanUp (fun x => ltc c x (Sort.swp d a b)[a]!) (Sort.swp d a b) (j - 1) (a + 1) = i2) (hj : Sort.scanDown (fun x => !ltc c x (Sort.swp d a b)[a]!) (Sort.swp d a b) i2 (j - 1) = j2) (h : i2 > j2) : Sort.partition (ltc c) d a j b = (j2, true, Sort.swp (Sort.swp d a b) j2 a) := by
  rw [Sort.partition]
  simp only [hi, hj]
  rw [if_pos h]
theorem partition_two (hi : Sort.scanUp (fun x => ltc c x (Sort.swp d a b)[a]!) (Sort.swp d a b) (j - 1) (a + 1) = i2) (hj : Sort.scanDown (fun x => !ltc c x (Sort.swp d a b)[a]!) (Sort.swp d a b) i2 (j - 1) = j2) (h : ¬ i2 > j2) :
    Sort.partition (ltc c) d a j b = ((Sort.partLoop (ltc c) a (i2 + 1) (j2 - 1) (Sort.swp (Sort.swp d a b) i2 j2)).1, false, Sort.swp (Sort.partLoop (ltc c) a (i2 + 1) (j2 - 1) (Sort.swp (Sort.swp d a b) i2 j2)).2 (Sort.partLoop (ltc c) a (i2 + 1) (j2 - 1) (Sort.swp (Sort.swp d a b) i2 j2)).1 a) := by
  rw [Sort.partition]
  simp only [hi, hj]
  rw [if_neg h]
/-- 'data[i], data[j] = data[j], data[i]', as the row reads behind it. -/
theorem sw (hi : i < d.size) (hj : j < d.size) : (d.toList.set (i : Int).toNat (at' d.toList (j : Int))).set (j : Int).toNat (at' d.toList (i : Int)) = (Sort.swp d i j).toList := by
  rw [swp_items (by omega) (by omega) (by omega) (by omega)]; simp
end
end Go.So
/- Walks through the Go functions api.Tuple], as typed contracts. -/
namespace Go.Proofs.Ytakkjljhjfkkbaa
open Go Go.Gw Go.So
set_option linter.unusedVariables false
set_option linter.unusedSimpArgs false
variable {Z : SlTy}

set_option maxHeartbeats 1000000 in
set_option maxRecDepth 20000 in
/-- slices.partitionCmpFunc[rhizome/api.Tuple] -/
theorem part_fn (v fv : Value) (d : DA) (a b pv : Nat) (c : List Int → List Int → Int) (hm : d.size < 4611686018427387904) (hap : a ≤ pv) (hpb : pv < b) (hb : b ≤ d.size) (hfv : ∀ x y, CtV Try.prog fv [(kG Z).T x, (kG Z).T y] [] Unit (fun _ => I64 (c x y)) (fun _ => []) (fun _ => True)) : Ct Try.prog 47 [IsV v, I64 (a : Int), I64 (b : Int), I64 (pv : Int), IsV fv] ([OwnI 45 (kG Z) v d.toList]) Unit (fun _ => TupT [I64 ((Sort.partition (ltc c) d a b pv).1 : Int), BoolT (Sort.partition (ltc c) d a b pv).2.1]) (fun _ => [OwnI 45 (kG Z) v (Sort.partition (ltc c) d a b pv).2.2.toList]) (fun _ => True) := by
  refine fn_intro Try.func47 rfl rfl ?_
  intro H w
  have hl : d.toList.length = d.size := Array.length_toList
  refine tr_seq ?_
  -- region 0
  refine tr_env (es_cons (t := 0) (OT.tmp rfl) (es_cons (t := 1) (OT.tmp rfl) (es_cons (t := 2) (OT.tmp rfl) (es_cons (t := 3) (OT.tmp rfl) (es_cons (t := 4) (OT.tmp rfl) es_nil))))) ?_
  refine tr_region ?_
  refine op_pure (pu_assign OT.const) rfl rfl ?_
  refine op_pure (pu_assign OT.const) rfl rfl ?_
  refine tr_nil ?_
  refine then_normal ?_
  refine tr_seq ?_
  -- region 1
  refine tr_env (es_cons (t := 0) (OT.tmp rfl) (es_cons (t := 1) (OT.tmp rfl) (es_cons (t := 2) (OT.tmp rfl) (es_cons (t := 3) (OT.tmp rfl) (es_cons (t := 4) (OT.tmp rfl) es_nil))))) ?_
  apply tr_anyW (p := 13) (Lf := fun c => cond c ([OwnI 45 (kG Z) v (d.toList.set (a : Int).toNat (at' d.toList (pv : Int)))]) ([OwnI 45 (kG Z) v d.toList])) (by kernel_rfl) (m := 14) (ns := [[(0, none)], [(1, none)], [(0, none)], [(3, none)], [(0, none)], [(3, none)], [(18, some 4), (19, some 5)], [(20, some 6)], [(0, none)], [(1, none)], [(22, some 8), (23, some 9)], [(24, some 10)], [(14, some 0), (15, some 1)], [(21, some 7), (26, some 12)]]) (by kernel_rfl) (by kernel_rfl) (Ts := [_, _, _, _, _, _, _, _, _, _, _, _, _, _]) rfl
  case hops =>
    refine ⟨?_, ⟨?_, ⟨?_, ⟨?_, ⟨?_, ⟨?_, ⟨?_, ⟨?_, ⟨?_, ⟨?_, ⟨?_, ⟨?_, ⟨?_, ⟨?_, trivial⟩⟩⟩⟩⟩⟩⟩⟩⟩⟩⟩⟩⟩⟩
    · intro c hc; cases c
      · exact ropw_of (rop_pure rfl (pu_move (OT.tmp rfl)))
      · exact Bool.noConfusion (hc.symm.trans (by kernel_rfl : okFlag _ _ _ _ = false))
    · intro c hc; cases c
      · exact ropw_of (rop_pure rfl (pu_move (OT.tmp rfl)))
      · exact Bool.noConfusion (hc.symm.trans (by kernel_rfl : okFlag _ _ _ _ = false))
    · intro c hc; cases c
      · exact ropw_of (rop_pure rfl (pu_move (OT.tmp rfl)))
      · exact ropw_of (rop_pure rfl (pu_move (OT.tmp rfl)))
    · intro c hc; cases c
      · exact ropw_of (rop_pure rfl (pu_move (OT.tmp rfl)))
      · exact ropw_of (rop_pure rfl (pu_move (OT.tmp rfl)))
    · intro c hc; cases c
      · exact ropw_of (rop_pure rfl (pu_move (OT.tmp rfl)))
      · exact Bool.noConfusion (hc.symm.trans (by kernel_rfl : okFlag _ _ _ _ = false))
    · intro c hc; cases c
      · exact ropw_of (rop_pure rfl (pu_move (OT.tmp rfl)))
      · exact Bool.noConfusion (hc.symm.trans (by kernel_rfl : okFlag _ _ _ _ = false))
    · intro c hc; cases c
      · exact ropw_of (rop_pure rfl (pu_index_own (OT.tmp rfl) (by exact mem_at 0 rfl) (OT.tmp rfl) Try.underlying35 (show tyOk Try.prog 45 false 1 = true from by decide +kernel) (by omega) (by omega)))
      · exact Bool.noConfusion (hc.symm.trans (by kernel_rfl : okFlag _ _ _ _ = false))
    · intro c hc; cases c
      · exact ropw_of (rop_pure rfl (pu_load_own0 (OT.tmp rfl) (by exact mem_at 0 rfl) (by omega) (by omega) (show tyOk Try.prog 45 false 1 = true from by decide +kernel)))
      · exact Bool.noConfusion (hc.symm.trans (by kernel_rfl : okFlag _ _ _ _ = false))
    · intro c hc; cases c
      · exact ropw_of (rop_pure rfl (pu_move (OT.tmp rfl)))
      · exact Bool.noConfusion (hc.symm.trans (by kernel_rfl : okFlag _ _ _ _ = false))
    · intro c hc; cases c
      · exact ropw_of (rop_pure rfl (pu_move (OT.tmp rfl)))
      · exact Bool.noConfusion (hc.symm.trans (by kernel_rfl : okFlag _ _ _ _ = false))
    · intro c hc; cases c
      · exact ropw_of (rop_pure rfl (pu_index_own (OT.tmp rfl) (by exact mem_at 0 rfl) (OT.tmp rfl) Try.underlying35 (show tyOk Try.prog 45 false 1 = true from by decide +kernel) (by omega) (by omega)))
      · exact Bool.noConfusion (hc.symm.trans (by kernel_rfl : okFlag _ _ _ _ = false))
    · intro c hc; cases c
      · exact ropw_of (rop_pure rfl (pu_load_own0 (OT.tmp rfl) (by exact mem_at 0 rfl) (by omega) (by omega) (show tyOk Try.prog 45 false 1 = true from by decide +kernel)))
      · exact Bool.noConfusion (hc.symm.trans (by kernel_rfl : okFlag _ _ _ _ = false))
    · intro c hc; cases c
      · exact ropw_of (rop_pure rfl (pu_index_own (OT.tmp rfl) (by exact mem_at 0 rfl) (OT.tmp rfl) Try.underlying35 (show tyOk Try.prog 45 false 1 = true from by decide +kernel) (by omega) (by omega)))
      · exact Bool.noConfusion (hc.symm.trans (by kernel_rfl : okFlag _ _ _ _ = false))
    · intro c hc; cases c
      · exact ropw_acts rfl (acts_store_own0 (OT.tmp rfl) (OT.tmp rfl) (by exact perm_at 0 rfl) (by omega) (by omega) (show tyOk Try.prog 45 false 1 = true from by decide +kernel)) (by exact perm_at 0 rfl) (fun _ => (by exact perm_at 0 rfl)) (fun _ _ _ _ h => h)
      · exact Bool.noConfusion (hc.symm.trans (by kernel_rfl : okFlag _ _ _ _ = false))
  case h =>
    refine op_pure (pu_index_own (OT.tmp rfl) (by exact mem_at 0 rfl) (OT.tmp rfl) Try.underlying35 (show tyOk Try.prog 45 false 1 = true from by decide +kernel) (by omega) (by (simp; omega))) rfl rfl ?_
    refine op_acts (acts_store_own0 (OT.tmp rfl) (OT.tmp rfl) (by exact perm_at 0 rfl) (by omega) (by (simp; omega)) (show tyOk Try.prog 45 false 1 = true from by decide +kernel)) (by exact perm_at 0 rfl) rfl rfl (fun _ _ => ?_)
    refine tr_nil ?_
    refine then_normal ?_
    refine tr_seq ?_
    -- region 2
    refine tr_env (es_cons (t := 0) (OT.tmp rfl) (es_cons (t := 1) (OT.tmp rfl) (es_cons (t := 2) (OT.tmp rfl) (es_cons (t := 4) (OT.tmp rfl) es_nil)))) ?_
    rw [sw (by omega) (by omega)]
    have hs0 : (Sort.swp d a pv).size = d.size := swp_size
    obtain ⟨d0, hd0⟩ : ∃ d0, Sort.swp d a pv = d0 := ⟨_, rfl⟩
    rw [hd0] at hs0 ⊢
    have hl0 : d0.toList.length = d0.size := Array.length_toList
    refine tr_region ?_
    refine op_pure (pu_move (OT.tmp rfl)) rfl rfl ?_
    refine op_pure (pu_add' (OT.tmp rfl) OT.const (by omega)) rfl rfl ?_
    refine op_pure (pu_move (OT.tmp rfl)) rfl rfl ?_
    refine op_pure (pu_sub' (OT.tmp rfl) OT.const (by omega)) rfl rfl ?_
    refine op_pure (pu_assign (OT.tmp rfl)) rfl rfl ?_
    refine op_pure (pu_assign (OT.tmp rfl)) rfl rfl ?_
    refine tr_nil ?_
    refine then_normal ?_
    refine tr_seq ?_
    refine tr_block ?_
    rw [show (b : Int) - 1 = ((b - 1 : Nat) : Int) from by omega]
    refine tr_loopK (σ := Nat) (es_cons (t := 0) (OT.tmp rfl) (es_cons (t := 1) (OT.tmp rfl) (es_cons (t := 4) (OT.tmp rfl) (es_cons (t := 13) (OT.tmp rfl) es_nil)))) (fun s => [(12, I64 (s : Int))]) (fun s => [OwnI 45 (kG Z) v d0.toList]) (fun s => a + 1 ≤ s ∧ s ≤ b ∧ Sort.scanUp (fun x => ltc c x d0[a]!) d0 (b - 1) s = Sort.scanUp (fun x => ltc c x d0[a]!) d0 (b - 1) (a + 1)) (fun s => b - s) (a + 1) ⟨by omega, by omega, rfl⟩ ?_ (own_picks (by repeat (first | exact picks_nil | refine picks_cons 0 rfl ?_ | refine picks_cons 1 rfl ?_ | refine picks_cons 2 rfl ?_ | refine picks_cons 3 rfl ?_ | refine picks_cons 4 rfl ?_ | refine picks_cons 5 rfl ?_ | refine picks_cons 6 rfl ?_))) ?_
    · exact (es_cons (t := 12) (by exact OT.tmp rfl) es_nil)
    · rintro i ⟨hi0, hi1, hi⟩
      refine tr_seq ?_
      refine tr_seq ?_
      -- region 3
      refine tr_env (es_cons (t := 0) (OT.tmp rfl) (es_cons (t := 1) (OT.tmp rfl) (es_cons (t := 4) (OT.tmp rfl) (es_cons (t := 12) (OT.tmp rfl) (es_cons (t := 13) (OT.tmp rfl) es_nil))))) ?_
      apply tr_any (m := 13) (ns := [[(12, none)], [(13, none)], [(32, some 0), (33, some 1)], [(34, some 2)], [(4, none), (35, some 3)], [(0, none), (35, some 3)], [(12, none), (35, some 3)], [(35, some 3), (37, some 5), (38, some 6)], [(35, some 3), (39, some 7)], [(0, none), (35, some 3)], [(1, none), (35, some 3)], [(35, some 3), (41, some 9), (42, some 10)], [(35, some 3), (43, some 11)]]) (by kernel_rfl) (by kernel_rfl) (Ts := [_, _, _, _, _, _, _, _, _, _, _, _, _]) rfl
      case hops =>
        refine ⟨?_, ⟨?_, ⟨?_, ⟨?_, ⟨?_, ⟨?_, ⟨?_, ⟨?_, ⟨?_, ⟨?_, ⟨?_, ⟨?_, ⟨?_, trivial⟩⟩⟩⟩⟩⟩⟩⟩⟩⟩⟩⟩⟩
        · exact rop_pure rfl (pu_move (OT.tmp rfl))
        · exact rop_pure rfl (pu_move (OT.tmp rfl))
        · exact rop_pure rfl (pu_leq (OT.tmp rfl) (OT.tmp rfl))
        · exact rop_pure rfl (pu_move (OT.tmp rfl))
        · exact rop_gu rfl rfl rfl (OT.gu_mk (OT.tmp rfl)) (fun hg => by (have hg1 := hg.2; exact rop_pure rfl (pu_move (by exact OT.tmp rfl))))
        · exact rop_gu rfl rfl rfl (OT.gu_mk (OT.tmp rfl)) (fun hg => by (have hg1 := hg.2; exact rop_pure rfl (pu_move (by exact OT.tmp rfl))))
        · exact rop_gu rfl rfl rfl (OT.gu_mk (OT.tmp rfl)) (fun hg => by (have hg1 := hg.2; exact rop_pure rfl (pu_move (by exact OT.tmp rfl))))
        · exact rop_gu rfl rfl rfl (OT.gu_mk (OT.tmp rfl)) (fun hg => by (have hg1 := hg.2; exact rop_pure rfl (pu_index_own (by exact OT.gu (OT.tmp rfl) hg) (by exact mem_at 0 rfl) (by exact OT.gu (OT.tmp rfl) hg) Try.underlying35 (show tyOk Try.prog 45 false 1 = true from by decide +kernel) (by omega) (by (simp [maxLen] at *; omega)))))
        · exact rop_gu rfl rfl rfl (OT.gu_mk (OT.tmp rfl)) (fun hg => by (have hg1 := hg.2; exact rop_pure rfl (pu_load_own0 (by exact OT.gu (OT.tmp rfl) hg) (by exact mem_at 0 rfl) (by omega) (by (simp [maxLen] at *; omega)) (show tyOk Try.prog 45 false 1 = true from by decide +kernel))))
        · exact rop_gu rfl rfl rfl (OT.gu_mk (OT.tmp rfl)) (fun hg => by (have hg1 := hg.2; exact rop_pure rfl (pu_move (by exact OT.tmp rfl))))
        · exact rop_gu rfl rfl rfl (OT.gu_mk (OT.tmp rfl)) (fun hg => by (have hg1 := hg.2; exact rop_pure rfl (pu_move (by exact OT.tmp rfl))))
        · exact rop_gu rfl rfl rfl (OT.gu_mk (OT.tmp rfl)) (fun hg => by (have hg1 := hg.2; exact rop_pure rfl (pu_index_own (by exact OT.gu (OT.tmp rfl) hg) (by exact mem_at 0 rfl) (by exact OT.gu (OT.tmp rfl) hg) Try.underlying35 (show tyOk Try.prog 45 false 1 = true from by decide +kernel) (by omega) (by omega))))
        · exact rop_gu rfl rfl rfl (OT.gu_mk (OT.tmp rfl)) (fun hg => by (have hg1 := hg.2; exact rop_pure rfl (pu_load_own0 (by exact OT.gu (OT.tmp rfl) hg) (by exact mem_at 0 rfl) (by omega) (by omega) (show tyOk Try.prog 45 false 1 = true from by decide +kernel))))
      case h =>
        refine op_gu_acts () rfl rfl rfl (OT.gu_mk (OT.tmp rfl)) (fun hg => by (have hg1 := hg.2; (try simp only [decide_eq_true_eq, decide_eq_false_iff_not] at hg1); exact acts_callv (by exact OT.gu (OT.tmp rfl) hg) (hfv _ _) (OTs.cons (by exact OT.gu (OT.tmp rfl) hg) (OTs.cons (by exact OT.gu (OT.tmp rfl) hg) OTs.nil)) (List.Perm.refl _))) rfl (fun _ _ => ?_)
        refine op_gu rfl rfl rfl (OT.gu_mk (OT.tmp rfl)) (fun hg => by (have hg1 := hg.2; (try simp only [decide_eq_true_eq, decide_eq_false_iff_not] at hg1); exact pu_lss (by exact OT.gu (OT.tmp rfl) hg) OT.const)) rfl ?_
        refine op_pure (pu_pick_and (OT.tmp rfl) (by exact OT.tmp rfl)) rfl rfl ?_
        refine tr_nil ?_
        refine then_normal ?_
        refine tr_cond (OT.tmp rfl) (fun c47 => ?_) (fun c47 => ?_)
        · try simp only [decide_eq_true_eq, decide_eq_false_iff_not, Bool.or_eq_true, Bool.and_eq_true, Bool.or_eq_false_iff, Bool.and_eq_false_iff, Bool.not_eq_true', Bool.not_eq_false', ne_eq, Classical.not_not] at c47
          have hnx := (up_step (p := (fun x => ltc c x d0[a]!)) (d := d0) (j := b - 1) (i := i) (by omega) (by show ltc c _ _ = true; rw [ltc_at (by omega) (by omega)]; simpa using c47.2)).symm.trans hi
          refine tr_skip ?_
          refine then_normal ?_
          refine tr_block ?_
          -- region 4
          refine tr_env (es_cons (t := 0) (OT.tmp rfl) (es_cons (t := 1) (OT.tmp rfl) (es_cons (t := 4) (OT.tmp rfl) (es_cons (t := 12) (OT.tmp rfl) (es_cons (t := 13) (OT.tmp rfl) es_nil))))) ?_
          refine tr_region ?_
          refine op_pure (pu_move (OT.tmp rfl)) rfl rfl ?_
          refine op_pure (pu_add' (OT.tmp rfl) OT.const (by omega)) rfl rfl ?_
          refine op_pure (pu_assign (OT.tmp rfl)) rfl rfl ?_
          refine tr_nil ?_
          refine block_normal ?_
          refine then_normal ?_
          exact tr_again (i + 1) ⟨by omega, by omega, hnx⟩ (by omega) (es_append (es_cons (t := 12) (by exact OT.tmp rfl) es_nil) (es_cons (t := 0) (OT.tmp rfl) (es_cons (t := 1) (OT.tmp rfl) (es_cons (t := 4) (OT.tmp rfl) (es_cons (t := 13) (OT.tmp rfl) es_nil))))) (own_picks (by repeat (first | exact picks_nil | refine picks_cons 0 rfl ?_ | refine picks_cons 1 rfl ?_ | refine picks_cons 2 rfl ?_ | refine picks_cons 3 rfl ?_ | refine picks_cons 4 rfl ?_ | refine picks_cons 5 rfl ?_ | refine picks_cons 6 rfl ?_)))
        · try simp only [decide_eq_true_eq, decide_eq_false_iff_not, Bool.or_eq_true, Bool.and_eq_true, Bool.or_eq_false_iff, Bool.and_eq_false_iff, Bool.not_eq_true', Bool.not_eq_false', ne_eq, Classical.not_not] at c47
          have hue : i ≤ b - 1 → ltc c d0[i]! d0[a]! = false := fun h => by
            rw [ltc_at (by omega) (by omega)]
            rcases c47 with h9 | h9
            · omega
            · simpa using h9
          have hup := hi.symm.trans (up_end hue)
          refine tr_exit ?_
          refine then_exit ?_
          refine then_exit ?_
          refine block_hit ?_
          refine then_normal ?_
          refine tr_seq ?_
          refine tr_block ?_
          refine tr_loopK (σ := Nat) (es_cons (t := 0) (OT.tmp rfl) (es_cons (t := 1) (OT.tmp rfl) (es_cons (t := 4) (OT.tmp rfl) (es_cons (t := 12) (OT.tmp rfl) es_nil)))) (fun s => [(13, I64 (s : Int))]) (fun s => [OwnI 45 (kG Z) v d0.toList]) (fun s => s ≤ b - 1 ∧ i ≤ s + 1 ∧ Sort.scanDown (fun x => !ltc c x d0[a]!) d0 i s = Sort.scanDown (fun x => !ltc c x d0[a]!) d0 i (b - 1)) (fun s => s) (b - 1) ⟨by omega, by omega, rfl⟩ ?_ (own_picks (by repeat (first | exact picks_nil | refine picks_cons 0 rfl ?_ | refine picks_cons 1 rfl ?_ | refine picks_cons 2 rfl ?_ | refine picks_cons 3 rfl ?_ | refine picks_cons 4 rfl ?_ | refine picks_cons 5 rfl ?_ | refine picks_cons 6 rfl ?_))) ?_
          · exact (es_cons (t := 13) (by exact OT.tmp rfl) es_nil)
          · rintro j ⟨hj0, hj1, hj⟩
            refine tr_seq ?_
            refine tr_seq ?_
            -- region 5
            refine tr_env (es_cons (t := 0) (OT.tmp rfl) (es_cons (t := 1) (OT.tmp rfl) (es_cons (t := 4) (OT.tmp rfl) (es_cons (t := 12) (OT.tmp rfl) (es_cons (t := 13) (OT.tmp rfl) es_nil))))) ?_
            apply tr_any (m := 13) (ns := [[(12, none)], [(13, none)], [(50, some 0), (51, some 1)], [(52, some 2)], [(4, none), (53, some 3)], [(0, none), (53, some 3)], [(13, none), (53, some 3)], [(53, some 3), (55, some 5), (56, some 6)], [(53, some 3), (57, some 7)], [(0, none), (53, some 3)], [(1, none), (53, some 3)], [(53, some 3), (59, some 9), (60, some 10)], [(53, some 3), (61, some 11)]]) (by kernel_rfl) (by kernel_rfl) (Ts := [_, _, _, _, _, _, _, _, _, _, _, _, _]) rfl
            case hops =>
              refine ⟨?_, ⟨?_, ⟨?_, ⟨?_, ⟨?_, ⟨?_, ⟨?_, ⟨?_, ⟨?_, ⟨?_, ⟨?_, ⟨?_, ⟨?_, trivial⟩⟩⟩⟩⟩⟩⟩⟩⟩⟩⟩⟩⟩
              · exact rop_pure rfl (pu_move (OT.tmp rfl))
              · exact rop_pure rfl (pu_move (OT.tmp rfl))
              · exact rop_pure rfl (pu_leq (OT.tmp rfl) (OT.tmp rfl))
              · exact rop_pure rfl (pu_move (OT.tmp rfl))
              · exact rop_gu rfl rfl rfl (OT.gu_mk (OT.tmp rfl)) (fun hg => by (have hg1 := hg.2; exact rop_pure rfl (pu_move (by exact OT.tmp rfl))))
              · exact rop_gu rfl rfl rfl (OT.gu_mk (OT.tmp rfl)) (fun hg => by (have hg1 := hg.2; exact rop_pure rfl (pu_move (by exact OT.tmp rfl))))
              · exact rop_gu rfl rfl rfl (OT.gu_mk (OT.tmp rfl)) (fun hg => by (have hg1 := hg.2; exact rop_pure rfl (pu_move (by exact OT.tmp rfl))))
              · exact rop_gu rfl rfl rfl (OT.gu_mk (OT.tmp rfl)) (fun hg => by (have hg1 := hg.2; exact rop_pure rfl (pu_index_own (by exact OT.gu (OT.tmp rfl) hg) (by exact mem_at 0 rfl) (by exact OT.gu (OT.tmp rfl) hg) Try.underlying35 (show tyOk Try.prog 45 false 1 = true from by decide +kernel) (by omega) (by omega))))
              · exact rop_gu rfl rfl rfl (OT.gu_mk (OT.tmp rfl)) (fun hg => by (have hg1 := hg.2; exact rop_pure rfl (pu_load_own0 (by exact OT.gu (OT.tmp rfl) hg) (by exact mem_at 0 rfl) (by omega) (by omega) (show tyOk Try.prog 45 false 1 = true from by decide +kernel))))
              · exact rop_gu rfl rfl rfl (OT.gu_mk (OT.tmp rfl)) (fun hg => by (have hg1 := hg.2; exact rop_pure rfl (pu_move (by exact OT.tmp rfl))))
              · exact rop_gu rfl rfl rfl (OT.gu_mk (OT.tmp rfl)) (fun hg => by (have hg1 := hg.2; exact rop_pure rfl (pu_move (by exact OT.tmp rfl))))
              · exact rop_gu rfl rfl rfl (OT.gu_mk (OT.tmp rfl)) (fun hg => by (have hg1 := hg.2; exact rop_pure rfl (pu_index_own (by exact OT.gu (OT.tmp rfl) hg) (by exact mem_at 0 rfl) (by exact OT.gu (OT.tmp rfl) hg) Try.underlying35 (show tyOk Try.prog 45 false 1 = true from by decide +kernel) (by omega) (by omega))))
              · exact rop_gu rfl rfl rfl (OT.gu_mk (OT.tmp rfl)) (fun hg => by (have hg1 := hg.2; exact rop_pure rfl (pu_load_own0 (by exact OT.gu (OT.tmp rfl) hg) (by exact mem_at 0 rfl) (by omega) (by omega) (show tyOk Try.prog 45 false 1 = true from by decide +kernel))))
            case h =>
              refine op_gu_acts () rfl rfl rfl (OT.gu_mk (OT.tmp rfl)) (fun hg => by (have hg1 := hg.2; (try simp only [decide_eq_true_eq, decide_eq_false_iff_not] at hg1); exact acts_callv (by exact OT.gu (OT.tmp rfl) hg) (hfv _ _) (OTs.cons (by exact OT.gu (OT.tmp rfl) hg) (OTs.cons (by exact OT.gu (OT.tmp rfl) hg) OTs.nil)) (List.Perm.refl _))) rfl (fun _ _ => ?_)
              refine op_gu rfl rfl rfl (OT.gu_mk (OT.tmp rfl)) (fun hg => by (have hg1 := hg.2; (try simp only [decide_eq_true_eq, decide_eq_false_iff_not] at hg1); exact pu_lss (by exact OT.gu (OT.tmp rfl) hg) OT.const)) rfl ?_
              refine op_gu rfl rfl rfl (OT.gu_mk (OT.tmp rfl)) (fun hg => by (have hg1 := hg.2; (try simp only [decide_eq_true_eq, decide_eq_false_iff_not] at hg1); exact pu_not (by exact OT.gu (OT.tmp rfl) hg))) rfl ?_
              refine op_pure (pu_pick_and (OT.tmp rfl) (by exact OT.tmp rfl)) rfl rfl ?_
              refine tr_nil ?_
              refine then_normal ?_
              refine tr_cond (OT.tmp rfl) (fun c66 => ?_) (fun c66 => ?_)
              · try simp only [decide_eq_true_eq, decide_eq_false_iff_not, Bool.or_eq_true, Bool.and_eq_true, Bool.or_eq_false_iff, Bool.and_eq_false_iff, Bool.not_eq_true', Bool.not_eq_false', ne_eq, Classical.not_not] at c66
                have hnx := (down_step (p := (fun x => !ltc c x d0[a]!)) (d := d0) (i := i) (j := j) (by omega) (by omega) (by show (!ltc c _ _) = true; rw [ltc_at (by omega) (by omega)]; simpa using c66.2)).symm.trans hj
                refine tr_skip ?_
                refine then_normal ?_
                refine tr_block ?_
                -- region 6
                refine tr_env (es_cons (t := 0) (OT.tmp rfl) (es_cons (t := 1) (OT.tmp rfl) (es_cons (t := 4) (OT.tmp rfl) (es_cons (t := 12) (OT.tmp rfl) (es_cons (t := 13) (OT.tmp rfl) es_nil))))) ?_
                refine tr_region ?_
                refine op_pure (pu_move (OT.tmp rfl)) rfl rfl ?_
                refine op_pure (pu_sub' (OT.tmp rfl) OT.const (by omega)) rfl rfl ?_
                refine op_pure (pu_assign (OT.tmp rfl)) rfl rfl ?_
                refine tr_nil ?_
                refine block_normal ?_
                refine then_normal ?_
                exact tr_again (j - 1) ⟨by omega, by omega, hnx⟩ (by omega) (es_append (es_cons (t := 13) (by exact OT.val (OT.tmp rfl) (congrArg (Value.int _) (by omega))) es_nil) (es_cons (t := 0) (OT.tmp rfl) (es_cons (t := 1) (OT.tmp rfl) (es_cons (t := 4) (OT.tmp rfl) (es_cons (t := 12) (OT.tmp rfl) es_nil))))) (own_picks (by repeat (first | exact picks_nil | refine picks_cons 0 rfl ?_ | refine picks_cons 1 rfl ?_ | refine picks_cons 2 rfl ?_ | refine picks_cons 3 rfl ?_ | refine picks_cons 4 rfl ?_ | refine picks_cons 5 rfl ?_ | refine picks_cons 6 rfl ?_)))
              · try simp only [decide_eq_true_eq, decide_eq_false_iff_not, Bool.or_eq_true, Bool.and_eq_true, Bool.or_eq_false_iff, Bool.and_eq_false_iff, Bool.not_eq_true', Bool.not_eq_false', ne_eq, Classical.not_not] at c66
                have hde : i ≤ j → ltc c d0[j]! d0[a]! = true := fun h => by
                  rw [ltc_at (by omega) (by omega)]
                  rcases c66 with h9 | h9
                  · omega
                  · simpa using h9
                have hdn := hj.symm.trans (down_end (p := (fun x => !ltc c x d0[a]!)) (fun h => by show (!ltc c _ _) = false; rw [hde h]; rfl))
                refine tr_exit ?_
                refine then_exit ?_
                refine then_exit ?_
                refine block_hit ?_
                refine then_normal ?_
                refine tr_seq ?_
                refine tr_seq ?_
                -- region 7
                refine tr_env (es_cons (t := 0) (OT.tmp rfl) (es_cons (t := 1) (OT.tmp rfl) (es_cons (t := 4) (OT.tmp rfl) (es_cons (t := 12) (OT.tmp rfl) (es_cons (t := 13) (OT.tmp rfl) es_nil))))) ?_
                refine tr_region ?_
                refine op_pure (pu_move (OT.tmp rfl)) rfl rfl ?_
                refine op_pure (pu_move (OT.tmp rfl)) rfl rfl ?_
                refine op_pure (pu_gtr (OT.tmp rfl) (OT.tmp rfl)) rfl rfl ?_
                refine tr_nil ?_
                refine then_normal ?_
                refine tr_cond (OT.tmp rfl) (fun c71 => ?_) (fun c71 => ?_)
                · try simp only [decide_eq_true_eq, decide_eq_false_iff_not, Bool.or_eq_true, Bool.and_eq_true, Bool.or_eq_false_iff, Bool.and_eq_false_iff, Bool.not_eq_true', Bool.not_eq_false', ne_eq, Classical.not_not] at c71
                  refine tr_seq ?_
                  -- region 8
                  refine tr_env (es_cons (t := 0) (OT.tmp rfl) (es_cons (t := 1) (OT.tmp rfl) (es_cons (t := 13) (OT.tmp rfl) es_nil))) ?_
                  apply tr_anyW (p := 13) (Lf := fun c => cond c ([OwnI 45 (kG Z) v (d0.toList.set (j : Int).toNat (at' d0.toList (a : Int)))]) ([OwnI 45 (kG Z) v d0.toList])) (by kernel_rfl) (m := 14) (ns := [[(0, none)], [(13, none)], [(0, none)], [(1, none)], [(0, none)], [(1, none)], [(76, some 4), (77, some 5)], [(78, some 6)], [(0, none)], [(13, none)], [(80, some 8), (81, some 9)], [(82, some 10)], [(72, some 0), (73, some 1)], [(79, some 7), (84, some 12)]]) (by kernel_rfl) (by kernel_rfl) (Ts := [_, _, _, _, _, _, _, _, _, _, _, _, _, _]) rfl
                  case hops =>
                    refine ⟨?_, ⟨?_, ⟨?_, ⟨?_, ⟨?_, ⟨?_, ⟨?_, ⟨?_, ⟨?_, ⟨?_, ⟨?_, ⟨?_, ⟨?_, ⟨?_, trivial⟩⟩⟩⟩⟩⟩⟩⟩⟩⟩⟩⟩⟩⟩
                    · intro c hc; cases c
                      · exact ropw_of (rop_pure rfl (pu_move (OT.tmp rfl)))
                      · exact Bool.noConfusion (hc.symm.trans (by kernel_rfl : okFlag _ _ _ _ = false))
                    · intro c hc; cases c
                      · exact ropw_of (rop_pure rfl (pu_move (OT.tmp rfl)))
                      · exact Bool.noConfusion (hc.symm.trans (by kernel_rfl : okFlag _ _ _ _ = false))
                    · intro c hc; cases c
                      · exact ropw_of (rop_pure rfl (pu_move (OT.tmp rfl)))
                      · exact ropw_of (rop_pure rfl (pu_move (OT.tmp rfl)))
                    · intro c hc; cases c
                      · exact ropw_of (rop_pure rfl (pu_move (OT.tmp rfl)))
                      · exact ropw_of (rop_pure rfl (pu_move (OT.tmp rfl)))
                    · intro c hc; cases c
                      · exact ropw_of (rop_pure rfl (pu_move (OT.tmp rfl)))
                      · exact Bool.noConfusion (hc.symm.trans (by kernel_rfl : okFlag _ _ _ _ = false))
                    · intro c hc; cases c
                      · exact ropw_of (rop_pure rfl (pu_move (OT.tmp rfl)))
                      · exact Bool.noConfusion (hc.symm.trans (by kernel_rfl : okFlag _ _ _ _ = false))
                    · intro c hc; cases c
                      · exact ropw_of (rop_pure rfl (pu_index_own (OT.tmp rfl) (by exact mem_at 0 rfl) (OT.tmp rfl) Try.underlying35 (show tyOk Try.prog 45 false 1 = true from by decide +kernel) (by omega) (by omega)))
                      · exact Bool.noConfusion (hc.symm.trans (by kernel_rfl : okFlag _ _ _ _ = false))
                    · intro c hc; cases c
                      · exact ropw_of (rop_pure rfl (pu_load_own0 (OT.tmp rfl) (by exact mem_at 0 rfl) (by omega) (by omega) (show tyOk Try.prog 45 false 1 = true from by decide +kernel)))
                      · exact Bool.noConfusion (hc.symm.trans (by kernel_rfl : okFlag _ _ _ _ = false))
                    · intro c hc; cases c
                      · exact ropw_of (rop_pure rfl (pu_move (OT.tmp rfl)))
                      · exact Bool.noConfusion (hc.symm.trans (by kernel_rfl : okFlag _ _ _ _ = false))
                    · intro c hc; cases c
                      · exact ropw_of (rop_pure rfl (pu_move (OT.tmp rfl)))
                      · exact Bool.noConfusion (hc.symm.trans (by kernel_rfl : okFlag _ _ _ _ = false))
                    · intro c hc; cases c
                      · exact ropw_of (rop_pure rfl (pu_index_own (OT.tmp rfl) (by exact mem_at 0 rfl) (OT.tmp rfl) Try.underlying35 (show tyOk Try.prog 45 false 1 = true from by decide +kernel) (by omega) (by omega)))
                      · exact Bool.noConfusion (hc.symm.trans (by kernel_rfl : okFlag _ _ _ _ = false))
                    · intro c hc; cases c
                      · exact ropw_of (rop_pure rfl (pu_load_own0 (OT.tmp rfl) (by exact mem_at 0 rfl) (by omega) (by omega) (show tyOk Try.prog 45 false 1 = true from by decide +kernel)))
                      · exact Bool.noConfusion (hc.symm.trans (by kernel_rfl : okFlag _ _ _ _ = false))
                    · intro c hc; cases c
                      · exact ropw_of (rop_pure rfl (pu_index_own (OT.tmp rfl) (by exact mem_at 0 rfl) (OT.tmp rfl) Try.underlying35 (show tyOk Try.prog 45 false 1 = true from by decide +kernel) (by omega) (by omega)))
                      · exact Bool.noConfusion (hc.symm.trans (by kernel_rfl : okFlag _ _ _ _ = false))
                    · intro c hc; cases c
                      · exact ropw_acts rfl (acts_store_own0 (OT.tmp rfl) (OT.tmp rfl) (by exact perm_at 0 rfl) (by omega) (by omega) (show tyOk Try.prog 45 false 1 = true from by decide +kernel)) (by exact perm_at 0 rfl) (fun _ => (by exact perm_at 0 rfl)) (fun _ _ _ _ h => h)
                      · exact Bool.noConfusion (hc.symm.trans (by kernel_rfl : okFlag _ _ _ _ = false))
                  case h =>
                    refine op_pure (pu_index_own (OT.tmp rfl) (by exact mem_at 0 rfl) (OT.tmp rfl) Try.underlying35 (show tyOk Try.prog 45 false 1 = true from by decide +kernel) (by omega) (by (simp; omega))) rfl rfl ?_
                    refine op_acts (acts_store_own0 (OT.tmp rfl) (OT.tmp rfl) (by exact perm_at 0 rfl) (by omega) (by (simp; omega)) (show tyOk Try.prog 45 false 1 = true from by decide +kernel)) (by exact perm_at 0 rfl) rfl rfl (fun _ _ => ?_)
                    refine tr_nil ?_
                    refine then_normal ?_
                    refine tr_seq ?_
                    -- region 9
                    refine tr_env (es_cons (t := 13) (OT.tmp rfl) es_nil) ?_
                    rw [sw (by omega) (by omega)]
                    have hres : (Sort.partition (ltc c) d a b pv) = (j, true, Sort.swp d0 j a) := by subst hd0; exact partition_one hup hdn (by omega)
                    refine tr_region ?_
                    refine op_pure (pu_move (OT.tmp rfl)) rfl rfl ?_
                    refine op_pure (pu_assign (OT.tmp rfl)) rfl rfl ?_
                    refine op_pure (pu_assign OT.const) rfl rfl ?_
                    refine tr_nil ?_
                    refine then_normal ?_
                    refine tr_ret ?_
                    refine then_ret ?_
                    exact ret_two .ret (.inl rfl) rfl () (OT.val (OT.tmp rfl) (congrArg (Value.int _) (by rw [hres]))) (OT.val (OT.tmp rfl) (congrArg Value.bool (by rw [hres]))) (fun _ _ h => h) trivial (by rw [hres]; exact picks_cons 0 rfl picks_nil)
                · try simp only [decide_eq_true_eq, decide_eq_false_iff_not, Bool.or_eq_true, Bool.and_eq_true, Bool.or_eq_false_iff, Bool.and_eq_false_iff, Bool.not_eq_true', Bool.not_eq_false', ne_eq, Classical.not_not] at c71
                  refine tr_skip ?_
                  refine then_normal ?_
                  refine tr_seq ?_
                  -- region 10
                  refine tr_env (es_cons (t := 0) (OT.tmp rfl) (es_cons (t := 1) (OT.tmp rfl) (es_cons (t := 4) (OT.tmp rfl) (es_cons (t := 12) (OT.tmp rfl) (es_cons (t := 13) (OT.tmp rfl) es_nil))))) ?_
                  apply tr_anyW (p := 13) (Lf := fun c => cond c ([OwnI 45 (kG Z) v (d0.toList.set (i : Int).toNat (at' d0.toList (j : Int)))]) ([OwnI 45 (kG Z) v d0.toList])) (by kernel_rfl) (m := 14) (ns := [[(0, none)], [(12, none)], [(0, none)], [(13, none)], [(0, none)], [(13, none)], [(91, some 4), (92, some 5)], [(93, some 6)], [(0, none)], [(12, none)], [(95, some 8), (96, some 9)], [(97, some 10)], [(87, some 0), (88, some 1)], [(94, some 7), (99, some 12)]]) (by kernel_rfl) (by kernel_rfl) (Ts := [_, _, _, _, _, _, _, _, _, _, _, _, _, _]) rfl
                  case hops =>
                    refine ⟨?_, ⟨?_, ⟨?_, ⟨?_, ⟨?_, ⟨?_, ⟨?_, ⟨?_, ⟨?_, ⟨?_, ⟨?_, ⟨?_, ⟨?_, ⟨?_, trivial⟩⟩⟩⟩⟩⟩⟩⟩⟩⟩⟩⟩⟩⟩
                    · intro c hc; cases c
                      · exact ropw_of (rop_pure rfl (pu_move (OT.tmp rfl)))
                      · exact Bool.noConfusion (hc.symm.trans (by kernel_rfl : okFlag _ _ _ _ = false))
                    · intro c hc; cases c
                      · exact ropw_of (rop_pure rfl (pu_move (OT.tmp rfl)))
                      · exact Bool.noConfusion (hc.symm.trans (by kernel_rfl : okFlag _ _ _ _ = false))
                    · intro c hc; cases c
                      · exact ropw_of (rop_pure rfl (pu_move (OT.tmp rfl)))
                      · exact ropw_of (rop_pure rfl (pu_move (OT.tmp rfl)))
                    · intro c hc; cases c
                      · exact ropw_of (rop_pure rfl (pu_move (OT.tmp rfl)))
                      · exact ropw_of (rop_pure rfl (pu_move (OT.tmp rfl)))
                    · intro c hc; cases c
                      · exact ropw_of (rop_pure rfl (pu_move (OT.tmp rfl)))
                      · exact Bool.noConfusion (hc.symm.trans (by kernel_rfl : okFlag _ _ _ _ = false))
                    · intro c hc; cases c
                      · exact ropw_of (rop_pure rfl (pu_move (OT.tmp rfl)))
                      · exact Bool.noConfusion (hc.symm.trans (by kernel_rfl : okFlag _ _ _ _ = false))
                    · intro c hc; cases c
                      · exact ropw_of (rop_pure rfl (pu_index_own (OT.tmp rfl) (by exact mem_at 0 rfl) (OT.tmp rfl) Try.underlying35 (show tyOk Try.prog 45 false 1 = true from by decide +kernel) (by omega) (by omega)))
                      · exact Bool.noConfusion (hc.symm.trans (by kernel_rfl : okFlag _ _ _ _ = false))
                    · intro c hc; cases c
                      · exact ropw_of (rop_pure rfl (pu_load_own0 (OT.tmp rfl) (by exact mem_at 0 rfl) (by omega) (by omega) (show tyOk Try.prog 45 false 1 = true from by decide +kernel)))
                      · exact Bool.noConfusion (hc.symm.trans (by kernel_rfl : okFlag _ _ _ _ = false))
                    · intro c hc; cases c
                      · exact ropw_of (rop_pure rfl (pu_move (OT.tmp rfl)))
                      · exact Bool.noConfusion (hc.symm.trans (by kernel_rfl : okFlag _ _ _ _ = false))
                    · intro c hc; cases c
                      · exact ropw_of (rop_pure rfl (pu_move (OT.tmp rfl)))
                      · exact Bool.noConfusion (hc.symm.trans (by kernel_rfl : okFlag _ _ _ _ = false))
                    · intro c hc; cases c
                      · exact ropw_of (rop_pure rfl (pu_index_own (OT.tmp rfl) (by exact mem_at 0 rfl) (OT.tmp rfl) Try.underlying35 (show tyOk Try.prog 45 false 1 = true from by decide +kernel) (by omega) (by omega)))
                      · exact Bool.noConfusion (hc.symm.trans (by kernel_rfl : okFlag _ _ _ _ = false))
                    · intro c hc; cases c
                      · exact ropw_of (rop_pure rfl (pu_load_own0 (OT.tmp rfl) (by exact mem_at 0 rfl) (by omega) (by omega) (show tyOk Try.prog 45 false 1 = true from by decide +kernel)))
                      · exact Bool.noConfusion (hc.symm.trans (by kernel_rfl : okFlag _ _ _ _ = false))
                    · intro c hc; cases c
                      · exact ropw_of (rop_pure rfl (pu_index_own (OT.tmp rfl) (by exact mem_at 0 rfl) (OT.tmp rfl) Try.underlying35 (show tyOk Try.prog 45 false 1 = true from by decide +kernel) (by omega) (by omega)))
                      · exact Bool.noConfusion (hc.symm.trans (by kernel_rfl : okFlag _ _ _ _ = false))
                    · intro c hc; cases c
                      · exact ropw_acts rfl (acts_store_own0 (OT.tmp rfl) (OT.tmp rfl) (by exact perm_at 0 rfl) (by omega) (by omega) (show tyOk Try.prog 45 false 1 = true from by decide +kernel)) (by exact perm_at 0 rfl) (fun _ => (by exact perm_at 0 rfl)) (fun _ _ _ _ h => h)
                      · exact Bool.noConfusion (hc.symm.trans (by kernel_rfl : okFlag _ _ _ _ = false))
                  case h =>
                    refine op_pure (pu_index_own (OT.tmp rfl) (by exact mem_at 0 rfl) (OT.tmp rfl) Try.underlying35 (show tyOk Try.prog 45 false 1 = true from by decide +kernel) (by omega) (by (simp; omega))) rfl rfl ?_
                    refine op_acts (acts_store_own0 (OT.tmp rfl) (OT.tmp rfl) (by exact perm_at 0 rfl) (by omega) (by (simp; omega)) (show tyOk Try.prog 45 false 1 = true from by decide +kernel)) (by exact perm_at 0 rfl) rfl rfl (fun _ _ => ?_)
                    refine tr_nil ?_
                    refine then_normal ?_
                    refine tr_seq ?_
                    -- region 11
                    refine tr_env (es_cons (t := 0) (OT.tmp rfl) (es_cons (t := 1) (OT.tmp rfl) (es_cons (t := 4) (OT.tmp rfl) (es_cons (t := 12) (OT.tmp rfl) (es_cons (t := 13) (OT.tmp rfl) es_nil))))) ?_
                    have hij : i ≤ j := by omega
                    have hne : i ≠ j := fun e => by have h8 := hue (by omega); have h9 := hde hij; rw [← e] at h9; exact absurd (h8.symm.trans h9) (by simp)
                    rw [sw (by omega) (by omega)]
                    have hres : (Sort.partition (ltc c) d a b pv) = ((Sort.partLoop (ltc c) a (i + 1) (j - 1) (Sort.swp d0 i j)).1, false, Sort.swp (Sort.partLoop (ltc c) a (i + 1) (j - 1) (Sort.swp d0 i j)).2 (Sort.partLoop (ltc c) a (i + 1) (j - 1) (Sort.swp d0 i j)).1 a) := by subst hd0; exact partition_two hup hdn (by omega)
                    have hs1 : (Sort.swp d0 i j).size = d.size := swp_size.trans hs0
                    refine tr_region ?_
                    refine op_pure (pu_move (OT.tmp rfl)) rfl rfl ?_
                    refine op_pure (pu_add' (OT.tmp rfl) OT.const (by omega)) rfl rfl ?_
                    refine op_pure (pu_assign (OT.tmp rfl)) rfl rfl ?_
                    refine tr_nil ?_
                    refine then_normal ?_
                    refine tr_seq ?_
                    -- region 12
                    refine tr_env (es_cons (t := 0) (OT.tmp rfl) (es_cons (t := 1) (OT.tmp rfl) (es_cons (t := 4) (OT.tmp rfl) (es_cons (t := 12) (OT.tmp rfl) (es_cons (t := 13) (OT.tmp rfl) es_nil))))) ?_
                    refine tr_region ?_
                    refine op_pure (pu_move (OT.tmp rfl)) rfl rfl ?_
                    refine op_pure (pu_sub' (OT.tmp rfl) OT.const (by omega)) rfl rfl ?_
                    refine op_pure (pu_assign (OT.tmp rfl)) rfl rfl ?_
                    refine tr_nil ?_
                    refine then_normal ?_
                    refine tr_seq ?_
                    refine tr_block ?_
                    refine tr_loopK (σ := Nat × Nat × DA) (es_cons (t := 0) (OT.tmp rfl) (es_cons (t := 1) (OT.tmp rfl) (es_cons (t := 4) (OT.tmp rfl) es_nil))) (fun s => [(12, I64 (s.1 : Int)), (13, I64 (s.2.1 : Int))]) (fun s => [OwnI 45 (kG Z) v s.2.2.toList]) (fun s => s.2.2.size = d.size ∧ a + 1 ≤ s.1 ∧ s.1 ≤ s.2.1 + 1 ∧ s.2.1 < b ∧ Sort.partLoop (ltc c) a s.1 s.2.1 s.2.2 = Sort.partLoop (ltc c) a (i + 1) (j - 1) (Sort.swp d0 i j)) (fun s => s.2.1 + 1 - s.1) (i + 1, j - 1, Sort.swp d0 i j) ⟨hs1, by show a + 1 ≤ i + 1; omega, by show i + 1 ≤ j - 1 + 1; omega, by show j - 1 < b; omega, rfl⟩ ?_ (own_picks (by repeat (first | exact picks_nil | refine picks_cons 0 rfl ?_ | refine picks_cons 1 rfl ?_ | refine picks_cons 2 rfl ?_ | refine picks_cons 3 rfl ?_ | refine picks_cons 4 rfl ?_ | refine picks_cons 5 rfl ?_ | refine picks_cons 6 rfl ?_))) ?_
                    · exact (es_cons (t := 12) (by exact OT.tmp rfl) (es_cons (t := 13) (by exact OT.val (OT.tmp rfl) (congrArg (Value.int _) (by (simp; omega)))) es_nil))
                    · rintro ⟨i1, j1, d1⟩ ⟨hs2, hi2, hij1, hjb, hr⟩
                      dsimp only at hs2 hi2 hij1 hjb hr ⊢
                      have hl1 : d1.toList.length = d1.size := Array.length_toList
                      refine tr_block ?_
                      refine tr_seq ?_
                      refine tr_block ?_
                      refine tr_loopK (σ := Nat) (es_cons (t := 0) (OT.tmp rfl) (es_cons (t := 1) (OT.tmp rfl) (es_cons (t := 4) (OT.tmp rfl) (es_cons (t := 13) (OT.tmp rfl) es_nil)))) (fun s => [(12, I64 (s : Int))]) (fun s => [OwnI 45 (kG Z) v d1.toList]) (fun s => i1 ≤ s ∧ s ≤ j1 + 1 ∧ Sort.scanUp (fun x => ltc c x d1[a]!) d1 (j1) s = Sort.scanUp (fun x => ltc c x d1[a]!) d1 (j1) (i1)) (fun s => j1 + 1 - s) i1 ⟨by omega, by omega, rfl⟩ ?_ (own_picks (by repeat (first | exact picks_nil | refine picks_cons 0 rfl ?_ | refine picks_cons 1 rfl ?_ | refine picks_cons 2 rfl ?_ | refine picks_cons 3 rfl ?_ | refine picks_cons 4 rfl ?_ | refine picks_cons 5 rfl ?_ | refine picks_cons 6 rfl ?_))) ?_
                      · exact (es_cons (t := 12) (by exact OT.tmp rfl) es_nil)
                      · rintro i2 ⟨hi30, hi31, hi3⟩
                        refine tr_seq ?_
                        refine tr_seq ?_
                        -- region 13
                        refine tr_env (es_cons (t := 0) (OT.tmp rfl) (es_cons (t := 1) (OT.tmp rfl) (es_cons (t := 4) (OT.tmp rfl) (es_cons (t := 12) (OT.tmp rfl) (es_cons (t := 13) (OT.tmp rfl) es_nil))))) ?_
                        apply tr_any (m := 13) (ns := [[(12, none)], [(13, none)], [(105, some 0), (106, some 1)], [(107, some 2)], [(4, none), (108, some 3)], [(0, none), (108, some 3)], [(12, none), (108, some 3)], [(108, some 3), (110, some 5), (111, some 6)], [(108, some 3), (112, some 7)], [(0, none), (108, some 3)], [(1, none), (108, some 3)], [(108, some 3), (114, some 9), (115, some 10)], [(108, some 3), (116, some 11)]]) (by kernel_rfl) (by kernel_rfl) (Ts := [_, _, _, _, _, _, _, _, _, _, _, _, _]) rfl
                        case hops =>
                          refine ⟨?_, ⟨?_, ⟨?_, ⟨?_, ⟨?_, ⟨?_, ⟨?_, ⟨?_, ⟨?_, ⟨?_, ⟨?_, ⟨?_, ⟨?_, trivial⟩⟩⟩⟩⟩⟩⟩⟩⟩⟩⟩⟩⟩
                          · exact rop_pure rfl (pu_move (OT.tmp rfl))
                          · exact rop_pure rfl (pu_move (OT.tmp rfl))
                          · exact rop_pure rfl (pu_leq (OT.tmp rfl) (OT.tmp rfl))
                          · exact rop_pure rfl (pu_move (OT.tmp rfl))
                          · exact rop_gu rfl rfl rfl (OT.gu_mk (OT.tmp rfl)) (fun hg => by (have hg1 := hg.2; exact rop_pure rfl (pu_move (by exact OT.tmp rfl))))
                          · exact rop_gu rfl rfl rfl (OT.gu_mk (OT.tmp rfl)) (fun hg => by (have hg1 := hg.2; exact rop_pure rfl (pu_move (by exact OT.tmp rfl))))
                          · exact rop_gu rfl rfl rfl (OT.gu_mk (OT.tmp rfl)) (fun hg => by (have hg1 := hg.2; exact rop_pure rfl (pu_move (by exact OT.tmp rfl))))
                          · exact rop_gu rfl rfl rfl (OT.gu_mk (OT.tmp rfl)) (fun hg => by (have hg1 := hg.2; exact rop_pure rfl (pu_index_own (by exact OT.gu (OT.tmp rfl) hg) (by exact mem_at 0 rfl) (by exact OT.gu (OT.tmp rfl) hg) Try.underlying35 (show tyOk Try.prog 45 false 1 = true from by decide +kernel) (by omega) (by (simp [maxLen] at *; omega)))))
                          · exact rop_gu rfl rfl rfl (OT.gu_mk (OT.tmp rfl)) (fun hg => by (have hg1 := hg.2; exact rop_pure rfl (pu_load_own0 (by exact OT.gu (OT.tmp rfl) hg) (by exact mem_at 0 rfl) (by omega) (by (simp [maxLen] at *; omega)) (show tyOk Try.prog 45 false 1 = true from by decide +kernel))))
                          · exact rop_gu rfl rfl rfl (OT.gu_mk (OT.tmp rfl)) (fun hg => by (have hg1 := hg.2; exact rop_pure rfl (pu_move (by exact OT.tmp rfl))))
                          · exact rop_gu rfl rfl rfl (OT.gu_mk (OT.tmp rfl)) (fun hg => by (have hg1 := hg.2; exact rop_pure rfl (pu_move (by exact OT.tmp rfl))))
                          · exact rop_gu rfl rfl rfl (OT.gu_mk (OT.tmp rfl)) (fun hg => by (have hg1 := hg.2; exact rop_pure rfl (pu_index_own (by exact OT.gu (OT.tmp rfl) hg) (by exact mem_at 0 rfl) (by exact OT.gu (OT.tmp rfl) hg) Try.underlying35 (show tyOk Try.prog 45 false 1 = true from by decide +kernel) (by omega) (by omega))))
                          · exact rop_gu rfl rfl rfl (OT.gu_mk (OT.tmp rfl)) (fun hg => by (have hg1 := hg.2; exact rop_pure rfl (pu_load_own0 (by exact OT.gu (OT.tmp rfl) hg) (by exact mem_at 0 rfl) (by omega) (by omega) (show tyOk Try.prog 45 false 1 = true from by decide +kernel))))
                        case h =>
                          refine op_gu_acts () rfl rfl rfl (OT.gu_mk (OT.tmp rfl)) (fun hg => by (have hg1 := hg.2; (try simp only [decide_eq_true_eq, decide_eq_false_iff_not] at hg1); exact acts_callv (by exact OT.gu (OT.tmp rfl) hg) (hfv _ _) (OTs.cons (by exact OT.gu (OT.tmp rfl) hg) (OTs.cons (by exact OT.gu (OT.tmp rfl) hg) OTs.nil)) (List.Perm.refl _))) rfl (fun _ _ => ?_)
                          refine op_gu rfl rfl rfl (OT.gu_mk (OT.tmp rfl)) (fun hg => by (have hg1 := hg.2; (try simp only [decide_eq_true_eq, decide_eq_false_iff_not] at hg1); exact pu_lss (by exact OT.gu (OT.tmp rfl) hg) OT.const)) rfl ?_
                          refine op_pure (pu_pick_and (OT.tmp rfl) (by exact OT.tmp rfl)) rfl rfl ?_
                          refine tr_nil ?_
                          refine then_normal ?_
                          refine tr_cond (OT.tmp rfl) (fun c120 => ?_) (fun c120 => ?_)
                          · try simp only [decide_eq_true_eq, decide_eq_false_iff_not, Bool.or_eq_true, Bool.and_eq_true, Bool.or_eq_false_iff, Bool.and_eq_false_iff, Bool.not_eq_true', Bool.not_eq_false', ne_eq, Classical.not_not] at c120
                            have hnx := (up_step (p := (fun x => ltc c x d1[a]!)) (d := d1) (j := j1) (i := i2) (by omega) (by show ltc c _ _ = true; rw [ltc_at (by omega) (by omega)]; simpa using c120.2)).symm.trans hi3
                            refine tr_skip ?_
                            refine then_normal ?_
                            refine tr_block ?_
                            -- region 14
                            refine tr_env (es_cons (t := 0) (OT.tmp rfl) (es_cons (t := 1) (OT.tmp rfl) (es_cons (t := 4) (OT.tmp rfl) (es_cons (t := 12) (OT.tmp rfl) (es_cons (t := 13) (OT.tmp rfl) es_nil))))) ?_
                            refine tr_region ?_
                            refine op_pure (pu_move (OT.tmp rfl)) rfl rfl ?_
                            refine op_pure (pu_add' (OT.tmp rfl) OT.const (by omega)) rfl rfl ?_
                            refine op_pure (pu_assign (OT.tmp rfl)) rfl rfl ?_
                            refine tr_nil ?_
                            refine block_normal ?_
                            refine then_normal ?_
                            exact tr_again (i2 + 1) ⟨by omega, by omega, hnx⟩ (by omega) (es_append (es_cons (t := 12) (by exact OT.tmp rfl) es_nil) (es_cons (t := 0) (OT.tmp rfl) (es_cons (t := 1) (OT.tmp rfl) (es_cons (t := 4) (OT.tmp rfl) (es_cons (t := 13) (OT.tmp rfl) es_nil))))) (own_picks (by repeat (first | exact picks_nil | refine picks_cons 0 rfl ?_ | refine picks_cons 1 rfl ?_ | refine picks_cons 2 rfl ?_ | refine picks_cons 3 rfl ?_ | refine picks_cons 4 rfl ?_ | refine picks_cons 5 rfl ?_ | refine picks_cons 6 rfl ?_)))
                          · try simp only [decide_eq_true_eq, decide_eq_false_iff_not, Bool.or_eq_true, Bool.and_eq_true, Bool.or_eq_false_iff, Bool.and_eq_false_iff, Bool.not_eq_true', Bool.not_eq_false', ne_eq, Classical.not_not] at c120
                            have hue1 : i2 ≤ j1 → ltc c d1[i2]! d1[a]! = false := fun h => by
                              rw [ltc_at (by omega) (by omega)]
                              rcases c120 with h9 | h9
                              · omega
                              · simpa using h9
                            have hup1 := hi3.symm.trans (up_end hue1)
                            refine tr_exit ?_
                            refine then_exit ?_
                            refine then_exit ?_
                            refine block_hit ?_
                            refine then_normal ?_
                            refine tr_seq ?_
                            refine tr_block ?_
                            refine tr_loopK (σ := Nat) (es_cons (t := 0) (OT.tmp rfl) (es_cons (t := 1) (OT.tmp rfl) (es_cons (t := 4) (OT.tmp rfl) (es_cons (t := 12) (OT.tmp rfl) es_nil)))) (fun s => [(13, I64 (s : Int))]) (fun s => [OwnI 45 (kG Z) v d1.toList]) (fun s => s ≤ j1 ∧ i2 ≤ s + 1 ∧ Sort.scanDown (fun x => !ltc c x d1[a]!) d1 i2 s = Sort.scanDown (fun x => !ltc c x d1[a]!) d1 i2 j1) (fun s => s) j1 ⟨by omega, by omega, rfl⟩ ?_ (own_picks (by repeat (first | exact picks_nil | refine picks_cons 0 rfl ?_ | refine picks_cons 1 rfl ?_ | refine picks_cons 2 rfl ?_ | refine picks_cons 3 rfl ?_ | refine picks_cons 4 rfl ?_ | refine picks_cons 5 rfl ?_ | refine picks_cons 6 rfl ?_))) ?_
                            · exact (es_cons (t := 13) (by exact OT.tmp rfl) es_nil)
                            · rintro j2 ⟨hj40, hj41, hj4⟩
                              refine tr_seq ?_
                              refine tr_seq ?_
                              -- region 15
                              refine tr_env (es_cons (t := 0) (OT.tmp rfl) (es_cons (t := 1) (OT.tmp rfl) (es_cons (t := 4) (OT.tmp rfl) (es_cons (t := 12) (OT.tmp rfl) (es_cons (t := 13) (OT.tmp rfl) es_nil))))) ?_
                              apply tr_any (m := 13) (ns := [[(12, none)], [(13, none)], [(123, some 0), (124, some 1)], [(125, some 2)], [(4, none), (126, some 3)], [(0, none), (126, some 3)], [(13, none), (126, some 3)], [(126, some 3), (128, some 5), (129, some 6)], [(126, some 3), (130, some 7)], [(0, none), (126, some 3)], [(1, none), (126, some 3)], [(126, some 3), (132, some 9), (133, some 10)], [(126, some 3), (134, some 11)]]) (by kernel_rfl) (by kernel_rfl) (Ts := [_, _, _, _, _, _, _, _, _, _, _, _, _]) rfl
                              case hops =>
                                refine ⟨?_, ⟨?_, ⟨?_, ⟨?_, ⟨?_, ⟨?_, ⟨?_, ⟨?_, ⟨?_, ⟨?_, ⟨?_, ⟨?_, ⟨?_, trivial⟩⟩⟩⟩⟩⟩⟩⟩⟩⟩⟩⟩⟩
                                · exact rop_pure rfl (pu_move (OT.tmp rfl))
                                · exact rop_pure rfl (pu_move (OT.tmp rfl))
                                · exact rop_pure rfl (pu_leq (OT.tmp rfl) (OT.tmp rfl))
                                · exact rop_pure rfl (pu_move (OT.tmp rfl))
                                · exact rop_gu rfl rfl rfl (OT.gu_mk (OT.tmp rfl)) (fun hg => by (have hg1 := hg.2; exact rop_pure rfl (pu_move (by exact OT.tmp rfl))))
                                · exact rop_gu rfl rfl rfl (OT.gu_mk (OT.tmp rfl)) (fun hg => by (have hg1 := hg.2; exact rop_pure rfl (pu_move (by exact OT.tmp rfl))))
                                · exact rop_gu rfl rfl rfl (OT.gu_mk (OT.tmp rfl)) (fun hg => by (have hg1 := hg.2; exact rop_pure rfl (pu_move (by exact OT.tmp rfl))))
                                · exact rop_gu rfl rfl rfl (OT.gu_mk (OT.tmp rfl)) (fun hg => by (have hg1 := hg.2; exact rop_pure rfl (pu_index_own (by exact OT.gu (OT.tmp rfl) hg) (by exact mem_at 0 rfl) (by exact OT.gu (OT.tmp rfl) hg) Try.underlying35 (show tyOk Try.prog 45 false 1 = true from by decide +kernel) (by omega) (by omega))))
                                · exact rop_gu rfl rfl rfl (OT.gu_mk (OT.tmp rfl)) (fun hg => by (have hg1 := hg.2; exact rop_pure rfl (pu_load_own0 (by exact OT.gu (OT.tmp rfl) hg) (by exact mem_at 0 rfl) (by omega) (by omega) (show tyOk Try.prog 45 false 1 = true from by decide +kernel))))
                                · exact rop_gu rfl rfl rfl (OT.gu_mk (OT.tmp rfl)) (fun hg => by (have hg1 := hg.2; exact rop_pure rfl (pu_move (by exact OT.tmp rfl))))
                                · exact rop_gu rfl rfl rfl (OT.gu_mk (OT.tmp rfl)) (fun hg => by (have hg1 := hg.2; exact rop_pure rfl (pu_move (by exact OT.tmp rfl))))
                                · exact rop_gu rfl rfl rfl (OT.gu_mk (OT.tmp rfl)) (fun hg => by (have hg1 := hg.2; exact rop_pure rfl (pu_index_own (by exact OT.gu (OT.tmp rfl) hg) (by exact mem_at 0 rfl) (by exact OT.gu (OT.tmp rfl) hg) Try.underlying35 (show tyOk Try.prog 45 false 1 = true from by decide +kernel) (by omega) (by omega))))
                                · exact rop_gu rfl rfl rfl (OT.gu_mk (OT.tmp rfl)) (fun hg => by (have hg1 := hg.2; exact rop_pure rfl (pu_load_own0 (by exact OT.gu (OT.tmp rfl) hg) (by exact mem_at 0 rfl) (by omega) (by omega) (show tyOk Try.prog 45 false 1 = true from by decide +kernel))))
                              case h =>
                                refine op_gu_acts () rfl rfl rfl (OT.gu_mk (OT.tmp rfl)) (fun hg => by (have hg1 := hg.2; (try simp only [decide_eq_true_eq, decide_eq_false_iff_not] at hg1); exact acts_callv (by exact OT.gu (OT.tmp rfl) hg) (hfv _ _) (OTs.cons (by exact OT.gu (OT.tmp rfl) hg) (OTs.cons (by exact OT.gu (OT.tmp rfl) hg) OTs.nil)) (List.Perm.refl _))) rfl (fun _ _ => ?_)
                                refine op_gu rfl rfl rfl (OT.gu_mk (OT.tmp rfl)) (fun hg => by (have hg1 := hg.2; (try simp only [decide_eq_true_eq, decide_eq_false_iff_not] at hg1); exact pu_lss (by exact OT.gu (OT.tmp rfl) hg) OT.const)) rfl ?_
                                refine op_gu rfl rfl rfl (OT.gu_mk (OT.tmp rfl)) (fun hg => by (have hg1 := hg.2; (try simp only [decide_eq_true_eq, decide_eq_false_iff_not] at hg1); exact pu_not (by exact OT.gu (OT.tmp rfl) hg))) rfl ?_
                                refine op_pure (pu_pick_and (OT.tmp rfl) (by exact OT.tmp rfl)) rfl rfl ?_
                                refine tr_nil ?_
                                refine then_normal ?_
                                refine tr_cond (OT.tmp rfl) (fun c139 => ?_) (fun c139 => ?_)
                                · try simp only [decide_eq_true_eq, decide_eq_false_iff_not, Bool.or_eq_true, Bool.and_eq_true, Bool.or_eq_false_iff, Bool.and_eq_false_iff, Bool.not_eq_true', Bool.not_eq_false', ne_eq, Classical.not_not] at c139
                                  have hnx := (down_step (p := (fun x => !ltc c x d1[a]!)) (d := d1) (i := i2) (j := j2) (by omega) (by omega) (by show (!ltc c _ _) = true; rw [ltc_at (by omega) (by omega)]; simpa using c139.2)).symm.trans hj4
                                  refine tr_skip ?_
                                  refine then_normal ?_
                                  refine tr_block ?_
                                  -- region 16
                                  refine tr_env (es_cons (t := 0) (OT.tmp rfl) (es_cons (t := 1) (OT.tmp rfl) (es_cons (t := 4) (OT.tmp rfl) (es_cons (t := 12) (OT.tmp rfl) (es_cons (t := 13) (OT.tmp rfl) es_nil))))) ?_
                                  refine tr_region ?_
                                  refine op_pure (pu_move (OT.tmp rfl)) rfl rfl ?_
                                  refine op_pure (pu_sub' (OT.tmp rfl) OT.const (by omega)) rfl rfl ?_
                                  refine op_pure (pu_assign (OT.tmp rfl)) rfl rfl ?_
                                  refine tr_nil ?_
                                  refine block_normal ?_
                                  refine then_normal ?_
                                  exact tr_again (j2 - 1) ⟨by omega, by omega, hnx⟩ (by omega) (es_append (es_cons (t := 13) (by exact OT.val (OT.tmp rfl) (congrArg (Value.int _) (by omega))) es_nil) (es_cons (t := 0) (OT.tmp rfl) (es_cons (t := 1) (OT.tmp rfl) (es_cons (t := 4) (OT.tmp rfl) (es_cons (t := 12) (OT.tmp rfl) es_nil))))) (own_picks (by repeat (first | exact picks_nil | refine picks_cons 0 rfl ?_ | refine picks_cons 1 rfl ?_ | refine picks_cons 2 rfl ?_ | refine picks_cons 3 rfl ?_ | refine picks_cons 4 rfl ?_ | refine picks_cons 5 rfl ?_ | refine picks_cons 6 rfl ?_)))
                                · try simp only [decide_eq_true_eq, decide_eq_false_iff_not, Bool.or_eq_true, Bool.and_eq_true, Bool.or_eq_false_iff, Bool.and_eq_false_iff, Bool.not_eq_true', Bool.not_eq_false', ne_eq, Classical.not_not] at c139
                                  have hde1 : i2 ≤ j2 → ltc c d1[j2]! d1[a]! = true := fun h => by
                                    rw [ltc_at (by omega) (by omega)]
                                    rcases c139 with h9 | h9
                                    · omega
                                    · simpa using h9
                                  have hdn1 := hj4.symm.trans (down_end (p := (fun x => !ltc c x d1[a]!)) (fun h => by show (!ltc c _ _) = false; rw [hde1 h]; rfl))
                                  refine tr_exit ?_
                                  refine then_exit ?_
                                  refine then_exit ?_
                                  refine block_hit ?_
                                  refine then_normal ?_
                                  refine tr_seq ?_
                                  refine tr_seq ?_
                                  -- region 17
                                  refine tr_env (es_cons (t := 0) (OT.tmp rfl) (es_cons (t := 1) (OT.tmp rfl) (es_cons (t := 4) (OT.tmp rfl) (es_cons (t := 12) (OT.tmp rfl) (es_cons (t := 13) (OT.tmp rfl) es_nil))))) ?_
                                  refine tr_region ?_
                                  refine op_pure (pu_move (OT.tmp rfl)) rfl rfl ?_
                                  refine op_pure (pu_move (OT.tmp rfl)) rfl rfl ?_
                                  refine op_pure (pu_gtr (OT.tmp rfl) (OT.tmp rfl)) rfl rfl ?_
                                  refine tr_nil ?_
                                  refine then_normal ?_
                                  refine tr_cond (OT.tmp rfl) (fun c144 => ?_) (fun c144 => ?_)
                                  · try simp only [decide_eq_true_eq, decide_eq_false_iff_not, Bool.or_eq_true, Bool.and_eq_true, Bool.or_eq_false_iff, Bool.and_eq_false_iff, Bool.not_eq_true', Bool.not_eq_false', ne_eq, Classical.not_not] at c144
                                    have hR := hr.symm.trans (part_end hup1 hdn1 (by omega))
                                    refine tr_exit ?_
                                    refine then_exit ?_
                                    refine block_pass rfl ?_
                                    refine then_exit ?_
                                    refine block_hit ?_
                                    refine then_normal ?_
                                    refine tr_seq ?_
                                    -- region 21
                                    refine tr_env (es_cons (t := 0) (OT.tmp rfl) (es_cons (t := 1) (OT.tmp rfl) (es_cons (t := 13) (OT.tmp rfl) es_nil))) ?_
                                    apply tr_anyW (p := 13) (Lf := fun c => cond c ([OwnI 45 (kG Z) v (d1.toList.set (j2 : Int).toNat (at' d1.toList (a : Int)))]) ([OwnI 45 (kG Z) v d1.toList])) (by kernel_rfl) (m := 14) (ns := [[(0, none)], [(13, none)], [(0, none)], [(1, none)], [(0, none)], [(1, none)], [(167, some 4), (168, some 5)], [(169, some 6)], [(0, none)], [(13, none)], [(171, some 8), (172, some 9)], [(173, some 10)], [(163, some 0), (164, some 1)], [(170, some 7), (175, some 12)]]) (by kernel_rfl) (by kernel_rfl) (Ts := [_, _, _, _, _, _, _, _, _, _, _, _, _, _]) rfl
                                    case hops =>
                                      refine ⟨?_, ⟨?_, ⟨?_, ⟨?_, ⟨?_, ⟨?_, ⟨?_, ⟨?_, ⟨?_, ⟨?_, ⟨?_, ⟨?_, ⟨?_, ⟨?_, trivial⟩⟩⟩⟩⟩⟩⟩⟩⟩⟩⟩⟩⟩⟩
                                      · intro c hc; cases c
                                        · exact ropw_of (rop_pure rfl (pu_move (OT.tmp rfl)))
                                        · exact Bool.noConfusion (hc.symm.trans (by kernel_rfl : okFlag _ _ _ _ = false))
                                      · intro c hc; cases c
                                        · exact ropw_of (rop_pure rfl (pu_move (OT.tmp rfl)))
                                        · exact Bool.noConfusion (hc.symm.trans (by kernel_rfl : okFlag _ _ _ _ = false))
                                      · intro c hc; cases c
                                        · exact ropw_of (rop_pure rfl (pu_move (OT.tmp rfl)))
                                        · exact ropw_of (rop_pure rfl (pu_move (OT.tmp rfl)))
                                      · intro c hc; cases c
                                        · exact ropw_of (rop_pure rfl (pu_move (OT.tmp rfl)))
                                        · exact ropw_of (rop_pure rfl (pu_move (OT.tmp rfl)))
                                      · intro c hc; cases c
                                        · exact ropw_of (rop_pure rfl (pu_move (OT.tmp rfl)))
                                        · exact Bool.noConfusion (hc.symm.trans (by kernel_rfl : okFlag _ _ _ _ = false))
                                      · intro c hc; cases c
                                        · exact ropw_of (rop_pure rfl (pu_move (OT.tmp rfl)))
                                        · exact Bool.noConfusion (hc.symm.trans (by kernel_rfl : okFlag _ _ _ _ = false))
                                      · intro c hc; cases c
                                        · exact ropw_of (rop_pure rfl (pu_index_own (OT.tmp rfl) (by exact mem_at 0 rfl) (OT.tmp rfl) Try.underlying35 (show tyOk Try.prog 45 false 1 = true from by decide +kernel) (by omega) (by omega)))
                                        · exact Bool.noConfusion (hc.symm.trans (by kernel_rfl : okFlag _ _ _ _ = false))
                                      · intro c hc; cases c
                                        · exact ropw_of (rop_pure rfl (pu_load_own0 (OT.tmp rfl) (by exact mem_at 0 rfl) (by omega) (by omega) (show tyOk Try.prog 45 false 1 = true from by decide +kernel)))
                                        · exact Bool.noConfusion (hc.symm.trans (by kernel_rfl : okFlag _ _ _ _ = false))
                                      · intro c hc; cases c
                                        · exact ropw_of (rop_pure rfl (pu_move (OT.tmp rfl)))
                                        · exact Bool.noConfusion (hc.symm.trans (by kernel_rfl : okFlag _ _ _ _ = false))
                                      · intro c hc; cases c
                                        · exact ropw_of (rop_pure rfl (pu_move (OT.tmp rfl)))
                                        · exact Bool.noConfusion (hc.symm.trans (by kernel_rfl : okFlag _ _ _ _ = false))
                                      · intro c hc; cases c
                                        · exact ropw_of (rop_pure rfl (pu_index_own (OT.tmp rfl) (by exact mem_at 0 rfl) (OT.tmp rfl) Try.underlying35 (show tyOk Try.prog 45 false 1 = true from by decide +kernel) (by omega) (by omega)))
                                        · exact Bool.noConfusion (hc.symm.trans (by kernel_rfl : okFlag _ _ _ _ = false))
                                      · intro c hc; cases c
                                        · exact ropw_of (rop_pure rfl (pu_load_own0 (OT.tmp rfl) (by exact mem_at 0 rfl) (by omega) (by omega) (show tyOk Try.prog 45 false 1 = true from by decide +kernel)))
                                        · exact Bool.noConfusion (hc.symm.trans (by kernel_rfl : okFlag _ _ _ _ = false))
                                      · intro c hc; cases c
                                        · exact ropw_of (rop_pure rfl (pu_index_own (OT.tmp rfl) (by exact mem_at 0 rfl) (OT.tmp rfl) Try.underlying35 (show tyOk Try.prog 45 false 1 = true from by decide +kernel) (by omega) (by omega)))
                                        · exact Bool.noConfusion (hc.symm.trans (by kernel_rfl : okFlag _ _ _ _ = false))
                                      · intro c hc; cases c
                                        · exact ropw_acts rfl (acts_store_own0 (OT.tmp rfl) (OT.tmp rfl) (by exact perm_at 0 rfl) (by omega) (by omega) (show tyOk Try.prog 45 false 1 = true from by decide +kernel)) (by exact perm_at 0 rfl) (fun _ => (by exact perm_at 0 rfl)) (fun _ _ _ _ h => h)
                                        · exact Bool.noConfusion (hc.symm.trans (by kernel_rfl : okFlag _ _ _ _ = false))
                                    case h =>
                                      refine op_pure (pu_index_own (OT.tmp rfl) (by exact mem_at 0 rfl) (OT.tmp rfl) Try.underlying35 (show tyOk Try.prog 45 false 1 = true from by decide +kernel) (by omega) (by (simp; omega))) rfl rfl ?_
                                      refine op_acts (acts_store_own0 (OT.tmp rfl) (OT.tmp rfl) (by exact perm_at 0 rfl) (by omega) (by (simp; omega)) (show tyOk Try.prog 45 false 1 = true from by decide +kernel)) (by exact perm_at 0 rfl) rfl rfl (fun _ _ => ?_)
                                      refine tr_nil ?_
                                      refine then_normal ?_
                                      refine tr_seq ?_
                                      -- region 22
                                      refine tr_env (es_cons (t := 13) (OT.tmp rfl) es_nil) ?_
                                      rw [sw (by omega) (by omega)]
                                      rw [hR] at hres
                                      refine tr_region ?_
                                      refine op_pure (pu_move (OT.tmp rfl)) rfl rfl ?_
                                      refine op_pure (pu_assign (OT.tmp rfl)) rfl rfl ?_
                                      refine op_pure (pu_assign OT.const) rfl rfl ?_
                                      refine tr_nil ?_
                                      refine then_normal ?_
                                      refine tr_ret ?_
                                      exact ret_two .ret (.inl rfl) rfl () (OT.val (OT.tmp rfl) (congrArg (Value.int _) (by rw [hres]))) (OT.val (OT.tmp rfl) (congrArg Value.bool (by rw [hres]))) (fun _ _ h => h) trivial (by rw [hres]; exact picks_cons 0 rfl picks_nil)
                                  · try simp only [decide_eq_true_eq, decide_eq_false_iff_not, Bool.or_eq_true, Bool.and_eq_true, Bool.or_eq_false_iff, Bool.and_eq_false_iff, Bool.not_eq_true', Bool.not_eq_false', ne_eq, Classical.not_not] at c144
                                    have hij2 : i2 ≤ j2 := by omega
                                    have hne2 : i2 ≠ j2 := fun e => by have h8 := hue1 (by omega); have h9 := hde1 hij2; rw [← e] at h9; exact absurd (h8.symm.trans h9) (by simp)
                                    have hnx := (part_step hup1 hdn1 (by omega) (by omega)).symm.trans hr
                                    refine tr_skip ?_
                                    refine then_normal ?_
                                    refine tr_seq ?_
                                    -- region 18
                                    refine tr_env (es_cons (t := 0) (OT.tmp rfl) (es_cons (t := 1) (OT.tmp rfl) (es_cons (t := 4) (OT.tmp rfl) (es_cons (t := 12) (OT.tmp rfl) (es_cons (t := 13) (OT.tmp rfl) es_nil))))) ?_
                                    apply tr_anyW (p := 13) (Lf := fun c => cond c ([OwnI 45 (kG Z) v (d1.toList.set (i2 : Int).toNat (at' d1.toList (j2 : Int)))]) ([OwnI 45 (kG Z) v d1.toList])) (by kernel_rfl) (m := 14) (ns := [[(0, none)], [(12, none)], [(0, none)], [(13, none)], [(0, none)], [(13, none)], [(149, some 4), (150, some 5)], [(151, some 6)], [(0, none)], [(12, none)], [(153, some 8), (154, some 9)], [(155, some 10)], [(145, some 0), (146, some 1)], [(152, some 7), (157, some 12)]]) (by kernel_rfl) (by kernel_rfl) (Ts := [_, _, _, _, _, _, _, _, _, _, _, _, _, _]) rfl
                                    case hops =>
                                      refine ⟨?_, ⟨?_, ⟨?_, ⟨?_, ⟨?_, ⟨?_, ⟨?_, ⟨?_, ⟨?_, ⟨?_, ⟨?_, ⟨?_, ⟨?_, ⟨?_, trivial⟩⟩⟩⟩⟩⟩⟩⟩⟩⟩⟩⟩⟩⟩
                                      · intro c hc; cases c
                                        · exact ropw_of (rop_pure rfl (pu_move (OT.tmp rfl)))
                                        · exact Bool.noConfusion (hc.symm.trans (by kernel_rfl : okFlag _ _ _ _ = false))
                                      · intro c hc; cases c
                                        · exact ropw_of (rop_pure rfl (pu_move (OT.tmp rfl)))
                                        · exact Bool.noConfusion (hc.symm.trans (by kernel_rfl : okFlag _ _ _ _ = false))
                                      · intro c hc; cases c
                                        · exact ropw_of (rop_pure rfl (pu_move (OT.tmp rfl)))
                                        · exact ropw_of (rop_pure rfl (pu_move (OT.tmp rfl)))
                                      · intro c hc; cases c
                                        · exact ropw_of (rop_pure rfl (pu_move (OT.tmp rfl)))
                                        · exact ropw_of (rop_pure rfl (pu_move (OT.tmp rfl)))
                                      · intro c hc; cases c
                                        · exact ropw_of (rop_pure rfl (pu_move (OT.tmp rfl)))
                                        · exact Bool.noConfusion (hc.symm.trans (by kernel_rfl : okFlag _ _ _ _ = false))
                                      · intro c hc; cases c
                                        · exact ropw_of (rop_pure rfl (pu_move (OT.tmp rfl)))
                                        · exact Bool.noConfusion (hc.symm.trans (by kernel_rfl : okFlag _ _ _ _ = false))
                                      · intro c hc; cases c
                                        · exact ropw_of (rop_pure rfl (pu_index_own (OT.tmp rfl) (by exact mem_at 0 rfl) (OT.tmp rfl) Try.underlying35 (show tyOk Try.prog 45 false 1 = true from by decide +kernel) (by omega) (by omega)))
                                        · exact Bool.noConfusion (hc.symm.trans (by kernel_rfl : okFlag _ _ _ _ = false))
                                      · intro c hc; cases c
                                        · exact ropw_of (rop_pure rfl (pu_load_own0 (OT.tmp rfl) (by exact mem_at 0 rfl) (by omega) (by omega) (show tyOk Try.prog 45 false 1 = true from by decide +kernel)))
                                        · exact Bool.noConfusion (hc.symm.trans (by kernel_rfl : okFlag _ _ _ _ = false))
                                      · intro c hc; cases c
                                        · exact ropw_of (rop_pure rfl (pu_move (OT.tmp rfl)))
                                        · exact Bool.noConfusion (hc.symm.trans (by kernel_rfl : okFlag _ _ _ _ = false))
                                      · intro c hc; cases c
                                        · exact ropw_of (rop_pure rfl (pu_move (OT.tmp rfl)))
                                        · exact Bool.noConfusion (hc.symm.trans (by kernel_rfl : okFlag _ _ _ _ = false))
                                      · intro c hc; cases c
                                        · exact ropw_of (rop_pure rfl (pu_index_own (OT.tmp rfl) (by exact mem_at 0 rfl) (OT.tmp rfl) Try.underlying35 (show tyOk Try.prog 45 false 1 = true from by decide +kernel) (by omega) (by omega)))
                                        · exact Bool.noConfusion (hc.symm.trans (by kernel_rfl : okFlag _ _ _ _ = false))
                                      · intro c hc; cases c
                                        · exact ropw_of (rop_pure rfl (pu_load_own0 (OT.tmp rfl) (by exact mem_at 0 rfl) (by omega) (by omega) (show tyOk Try.prog 45 false 1 = true from by decide +kernel)))
                                        · exact Bool.noConfusion (hc.symm.trans (by kernel_rfl : okFlag _ _ _ _ = false))
                                      · intro c hc; cases c
                                        · exact ropw_of (rop_pure rfl (pu_index_own (OT.tmp rfl) (by exact mem_at 0 rfl) (OT.tmp rfl) Try.underlying35 (show tyOk Try.prog 45 false 1 = true from by decide +kernel) (by omega) (by omega)))
                                        · exact Bool.noConfusion (hc.symm.trans (by kernel_rfl : okFlag _ _ _ _ = false))
                                      · intro c hc; cases c
                                        · exact ropw_acts rfl (acts_store_own0 (OT.tmp rfl) (OT.tmp rfl) (by exact perm_at 0 rfl) (by omega) (by omega) (show tyOk Try.prog 45 false 1 = true from by decide +kernel)) (by exact perm_at 0 rfl) (fun _ => (by exact perm_at 0 rfl)) (fun _ _ _ _ h => h)
                                        · exact Bool.noConfusion (hc.symm.trans (by kernel_rfl : okFlag _ _ _ _ = false))
                                    case h =>
                                      refine op_pure (pu_index_own (OT.tmp rfl) (by exact mem_at 0 rfl) (OT.tmp rfl) Try.underlying35 (show tyOk Try.prog 45 false 1 = true from by decide +kernel) (by omega) (by (simp; omega))) rfl rfl ?_
                                      refine op_acts (acts_store_own0 (OT.tmp rfl) (OT.tmp rfl) (by exact perm_at 0 rfl) (by omega) (by (simp; omega)) (show tyOk Try.prog 45 false 1 = true from by decide +kernel)) (by exact perm_at 0 rfl) rfl rfl (fun _ _ => ?_)
                                      refine tr_nil ?_
                                      refine then_normal ?_
                                      refine tr_seq ?_
                                      -- region 19
                                      refine tr_env (es_cons (t := 0) (OT.tmp rfl) (es_cons (t := 1) (OT.tmp rfl) (es_cons (t := 4) (OT.tmp rfl) (es_cons (t := 12) (OT.tmp rfl) (es_cons (t := 13) (OT.tmp rfl) es_nil))))) ?_
                                      rw [sw (by omega) (by omega)]
                                      refine tr_region ?_
                                      refine op_pure (pu_move (OT.tmp rfl)) rfl rfl ?_
                                      refine op_pure (pu_add' (OT.tmp rfl) OT.const (by omega)) rfl rfl ?_
                                      refine op_pure (pu_assign (OT.tmp rfl)) rfl rfl ?_
                                      refine tr_nil ?_
                                      refine then_normal ?_
                                      -- region 20
                                      refine tr_env (es_cons (t := 0) (OT.tmp rfl) (es_cons (t := 1) (OT.tmp rfl) (es_cons (t := 4) (OT.tmp rfl) (es_cons (t := 12) (OT.tmp rfl) (es_cons (t := 13) (OT.tmp rfl) es_nil))))) ?_
                                      refine tr_region ?_
                                      refine op_pure (pu_move (OT.tmp rfl)) rfl rfl ?_
                                      refine op_pure (pu_sub' (OT.tmp rfl) OT.const (by omega)) rfl rfl ?_
                                      refine op_pure (pu_assign (OT.tmp rfl)) rfl rfl ?_
                                      refine tr_nil ?_
                                      refine block_normal ?_
                                      refine then_normal ?_
                                      exact tr_again (i2 + 1, j2 - 1, Sort.swp d1 i2 j2) ⟨swp_size.trans hs2, by show a + 1 ≤ i2 + 1; omega, by show i2 + 1 ≤ j2 - 1 + 1; omega, by show j2 - 1 < b; omega, hnx⟩ (by show j2 - 1 + 1 - (i2 + 1) < j1 + 1 - i1; omega) (es_append (es_cons (t := 12) (by exact OT.tmp rfl) (es_cons (t := 13) (by exact OT.val (OT.tmp rfl) (congrArg (Value.int _) (by (simp; omega)))) es_nil)) (es_cons (t := 0) (OT.tmp rfl) (es_cons (t := 1) (OT.tmp rfl) (es_cons (t := 4) (OT.tmp rfl) es_nil)))) (own_picks (by repeat (first | exact picks_nil | refine picks_cons 0 rfl ?_ | refine picks_cons 1 rfl ?_ | refine picks_cons 2 rfl ?_ | refine picks_cons 3 rfl ?_ | refine picks_cons 4 rfl ?_ | refine picks_cons 5 rfl ?_ | refine picks_cons 6 rfl ?_)))
end Go.Proofs.Ytakkjljhjfkkbaa
/- Walks through the Go functions api.Tuple], as typed contracts. -/
namespace Go.Proofs.Ytakkjljhjfkkbaa
open Go Go.Gw Go.So
set_option linter.unusedVariables false
set_option linter.unusedSimpArgs false
variable {Z : SlTy}

set_option maxHeartbeats 1000000 in
set_option maxRecDepth 20000 in
/-- slices.partitionEqualCmpFunc[rhizome/api.Tuple] -/
theorem parteq_fn (v fv : Value) (d : DA) (a b pv : Nat) (c : List Int → List Int → Int) (hm : d.size < 4611686018427387904) (hap : a ≤ pv) (hpb : pv < b) (hb : b ≤ d.size) (hfv : ∀ x y, CtV Try.prog fv [(kG Z).T x, (kG Z).T y] [] Unit (fun _ => I64 (c x y)) (fun _ => []) (fun _ => True)) : Ct Try.prog 46 [IsV v, I64 (a : Int), I64 (b : Int), I64 (pv : Int), IsV fv] ([OwnI 45 (kG Z) v d.toList]) Unit (fun _ => I64 ((Sort.partitionEqual (ltc c) d a b pv).1 : Int)) (fun _ => [OwnI 45 (kG Z) v (Sort.partitionEqual (ltc c) d a b pv).2.toList]) (fun _ => True) := by
  refine fn_intro Try.func46 rfl rfl ?_
  intro H w
  have hl : d.toList.length = d.size := Array.length_toList
  refine tr_seq ?_
  -- region 0
  refine tr_env (es_cons (t := 0) (OT.tmp rfl) (es_cons (t := 1) (OT.tmp rfl) (es_cons (t := 2) (OT.tmp rfl) (es_cons (t := 3) (OT.tmp rfl) (es_cons (t := 4) (OT.tmp rfl) es_nil))))) ?_
  refine tr_region ?_
  refine op_pure (pu_assign OT.const) rfl rfl ?_
  refine tr_nil ?_
  refine then_normal ?_
  refine tr_seq ?_
  -- region 1
  refine tr_env (es_cons (t := 0) (OT.tmp rfl) (es_cons (t := 1) (OT.tmp rfl) (es_cons (t := 2) (OT.tmp rfl) (es_cons (t := 3) (OT.tmp rfl) (es_cons (t := 4) (OT.tmp rfl) es_nil))))) ?_
  apply tr_anyW (p := 13) (Lf := fun c => cond c ([OwnI 45 (kG Z) v (d.toList.set (a : Int).toNat (at' d.toList (pv : Int)))]) ([OwnI 45 (kG Z) v d.toList])) (by kernel_rfl) (m := 14) (ns := [[(0, none)], [(1, none)], [(0, none)], [(3, none)], [(0, none)], [(3, none)], [(17, some 4), (18, some 5)], [(19, some 6)], [(0, none)], [(1, none)], [(21, some 8), (22, some 9)], [(23, some 10)], [(13, some 0), (14, some 1)], [(20, some 7), (25, some 12)]]) (by kernel_rfl) (by kernel_rfl) (Ts := [_, _, _, _, _, _, _, _, _, _, _, _, _, _]) rfl
  case hops =>
    refine ⟨?_, ⟨?_, ⟨?_, ⟨?_, ⟨?_, ⟨?_, ⟨?_, ⟨?_, ⟨?_, ⟨?_, ⟨?_, ⟨?_, ⟨?_, ⟨?_, trivial⟩⟩⟩⟩⟩⟩⟩⟩⟩⟩⟩⟩⟩⟩
    · intro c hc; cases c
      · exact ropw_of (rop_pure rfl (pu_move (OT.tmp rfl)))
      · exact Bool.noConfusion (hc.symm.trans (by kernel_rfl : okFlag _ _ _ _ = false))
    · intro c hc; cases c
      · exact ropw_of (rop_pure rfl (pu_move (OT.tmp rfl)))
      · exact Bool.noConfusion (hc.symm.trans (by kernel_rfl : okFlag _ _ _ _ = false))
    · intro c hc; cases c
      · exact ropw_of (rop_pure rfl (pu_move (OT.tmp rfl)))
      · exact ropw_of (rop_pure rfl (pu_move (OT.tmp rfl)))
    · intro c hc; cases c
      · exact ropw_of (rop_pure rfl (pu_move (OT.tmp rfl)))
      · exact ropw_of (rop_pure rfl (pu_move (OT.tmp rfl)))
    · intro c hc; cases c
      · exact ropw_of (rop_pure rfl (pu_move (OT.tmp rfl)))
      · exact Bool.noConfusion (hc.symm.trans (by kernel_rfl : okFlag _ _ _ _ = false))
    · intro c hc; cases c
      · exact ropw_of (rop_pure rfl (pu_move (OT.tmp rfl)))
      · exact Bool.noConfusion (hc.symm.trans (by kernel_rfl : okFlag _ _ _ _ = false))
    · intro c hc; cases c
      · exact ropw_of (rop_pure rfl (pu_index_own (OT.tmp rfl) (by exact mem_at 0 rfl) (OT.tmp rfl) Try.underlying35 (show tyOk Try.prog 45 false 1 = true from by decide +kernel) (by omega) (by omega)))
      · exact Bool.noConfusion (hc.symm.trans (by kernel_rfl : okFlag _ _ _ _ = false))
    · intro c hc; cases c
      · exact ropw_of (rop_pure rfl (pu_load_own0 (OT.tmp rfl) (by exact mem_at 0 rfl) (by omega) (by omega) (show tyOk Try.prog 45 false 1 = true from by decide +kernel)))
      · exact Bool.noConfusion (hc.symm.trans (by kernel_rfl : okFlag _ _ _ _ = false))
    · intro c hc; cases c
      · exact ropw_of (rop_pure rfl (pu_move (OT.tmp rfl)))
      · exact Bool.noConfusion (hc.symm.trans (by kernel_rfl : okFlag _ _ _ _ = false))
    · intro c hc; cases c
      · exact ropw_of (rop_pure rfl (pu_move (OT.tmp rfl)))
      · exact Bool.noConfusion (hc.symm.trans (by kernel_rfl : okFlag _ _ _ _ = false))
    · intro c hc; cases c
      · exact ropw_of (rop_pure rfl (pu_index_own (OT.tmp rfl) (by exact mem_at 0 rfl) (OT.tmp rfl) Try.underlying35 (show tyOk Try.prog 45 false 1 = true from by decide +kernel) (by omega) (by omega)))
      · exact Bool.noConfusion (hc.symm.trans (by kernel_rfl : okFlag _ _ _ _ = false))
    · intro c hc; cases c
      · exact ropw_of (rop_pure rfl (pu_load_own0 (OT.tmp rfl) (by exact mem_at 0 rfl) (by omega) (by omega) (show tyOk Try.prog 45 false 1 = true from by decide +kernel)))
      · exact Bool.noConfusion (hc.symm.trans (by kernel_rfl : okFlag _ _ _ _ = false))
    · intro c hc; cases c
      · exact ropw_of (rop_pure rfl (pu_index_own (OT.tmp rfl) (by exact mem_at 0 rfl) (OT.tmp rfl) Try.underlying35 (show tyOk Try.prog 45 false 1 = true from by decide +kernel) (by omega) (by omega)))
      · exact Bool.noConfusion (hc.symm.trans (by kernel_rfl : okFlag _ _ _ _ = false))
    · intro c hc; cases c
      · exact ropw_acts rfl (acts_store_own0 (OT.tmp rfl) (OT.tmp rfl) (by exact perm_at 0 rfl) (by omega) (by omega) (show tyOk Try.prog 45 false 1 = true from by decide +kernel)) (by exact perm_at 0 rfl) (fun _ => (by exact perm_at 0 rfl)) (fun _ _ _ _ h => h)
      · exact Bool.noConfusion (hc.symm.trans (by kernel_rfl : okFlag _ _ _ _ = false))
  case h =>
    refine op_pure (pu_index_own (OT.tmp rfl) (by exact mem_at 0 rfl) (OT.tmp rfl) Try.underlying35 (show tyOk Try.prog 45 false 1 = true from by decide +kernel) (by omega) (by (simp; omega))) rfl rfl ?_
    refine op_acts (acts_store_own0 (OT.tmp rfl) (OT.tmp rfl) (by exact perm_at 0 rfl) (by omega) (by (simp; omega)) (show tyOk Try.prog 45 false 1 = true from by decide +kernel)) (by exact perm_at 0 rfl) rfl rfl (fun _ _ => ?_)
    refine tr_nil ?_
    refine then_normal ?_
    refine tr_seq ?_
    -- region 2
    refine tr_env (es_cons (t := 0) (OT.tmp rfl) (es_cons (t := 1) (OT.tmp rfl) (es_cons (t := 2) (OT.tmp rfl) (es_cons (t := 4) (OT.tmp rfl) es_nil)))) ?_
    rw [sw (by omega) (by omega)]
    have hs0 : (Sort.swp d a pv).size = d.size := swp_size
    refine tr_region ?_
    refine op_pure (pu_move (OT.tmp rfl)) rfl rfl ?_
    refine op_pure (pu_add' (OT.tmp rfl) OT.const (by omega)) rfl rfl ?_
    refine op_pure (pu_move (OT.tmp rfl)) rfl rfl ?_
    refine op_pure (pu_sub' (OT.tmp rfl) OT.const (by omega)) rfl rfl ?_
    refine op_pure (pu_assign (OT.tmp rfl)) rfl rfl ?_
    refine op_pure (pu_assign (OT.tmp rfl)) rfl rfl ?_
    refine tr_nil ?_
    refine then_normal ?_
    refine tr_seq ?_
    refine tr_block ?_
    rw [show (b : Int) - 1 = ((b - 1 : Nat) : Int) from by omega]
    refine tr_loopK (σ := Nat × Nat × DA) (es_cons (t := 0) (OT.tmp rfl) (es_cons (t := 1) (OT.tmp rfl) (es_cons (t := 4) (OT.tmp rfl) es_nil))) (fun s => [(11, I64 (s.1 : Int)), (12, I64 (s.2.1 : Int))]) (fun s => [OwnI 45 (kG Z) v s.2.2.toList]) (fun s => s.2.2.size = d.size ∧ a + 1 ≤ s.1 ∧ s.1 ≤ s.2.1 + 1 ∧ s.2.1 < b ∧ Sort.partEqLoop (ltc c) a s.1 s.2.1 s.2.2 = (Sort.partitionEqual (ltc c) d a b pv)) (fun s => s.2.1 + 1 - s.1) (a + 1, b - 1, Sort.swp d a pv) ⟨hs0, Nat.le_refl _, by show a + 1 ≤ b - 1 + 1; omega, by show b - 1 < b; omega, rfl⟩ ?_ (own_picks (by repeat (first | exact picks_nil | refine picks_cons 0 rfl ?_ | refine picks_cons 1 rfl ?_ | refine picks_cons 2 rfl ?_ | refine picks_cons 3 rfl ?_ | refine picks_cons 4 rfl ?_ | refine picks_cons 5 rfl ?_ | refine picks_cons 6 rfl ?_))) ?_
    · exact (es_cons (t := 11) (by exact OT.tmp rfl) (es_cons (t := 12) (by exact OT.tmp rfl) es_nil))
    · rintro ⟨i1, j1, d1⟩ ⟨hs2, hi2, hij1, hjb, hr⟩
      dsimp only at hs2 hi2 hij1 hjb hr ⊢
      have hl1 : d1.toList.length = d1.size := Array.length_toList
      refine tr_block ?_
      refine tr_seq ?_
      refine tr_block ?_
      refine tr_loopK (σ := Nat) (es_cons (t := 0) (OT.tmp rfl) (es_cons (t := 1) (OT.tmp rfl) (es_cons (t := 4) (OT.tmp rfl) (es_cons (t := 12) (OT.tmp rfl) es_nil)))) (fun s => [(11, I64 (s : Int))]) (fun s => [OwnI 45 (kG Z) v d1.toList]) (fun s => i1 ≤ s ∧ s ≤ j1 + 1 ∧ Sort.scanUp (fun x => !ltc c d1[a]! x) d1 (j1) s = Sort.scanUp (fun x => !ltc c d1[a]! x) d1 (j1) (i1)) (fun s => j1 + 1 - s) i1 ⟨by omega, by omega, rfl⟩ ?_ (own_picks (by repeat (first | exact picks_nil | refine picks_cons 0 rfl ?_ | refine picks_cons 1 rfl ?_ | refine picks_cons 2 rfl ?_ | refine picks_cons 3 rfl ?_ | refine picks_cons 4 rfl ?_ | refine picks_cons 5 rfl ?_ | refine picks_cons 6 rfl ?_))) ?_
      · exact (es_cons (t := 11) (by exact OT.tmp rfl) es_nil)
      · rintro i2 ⟨hi30, hi31, hi3⟩
        refine tr_seq ?_
        refine tr_seq ?_
        -- region 3
        refine tr_env (es_cons (t := 0) (OT.tmp rfl) (es_cons (t := 1) (OT.tmp rfl) (es_cons (t := 4) (OT.tmp rfl) (es_cons (t := 11) (OT.tmp rfl) (es_cons (t := 12) (OT.tmp rfl) es_nil))))) ?_
        apply tr_any (m := 13) (ns := [[(11, none)], [(12, none)], [(31, some 0), (32, some 1)], [(33, some 2)], [(4, none), (34, some 3)], [(0, none), (34, some 3)], [(1, none), (34, some 3)], [(34, some 3), (36, some 5), (37, some 6)], [(34, some 3), (38, some 7)], [(0, none), (34, some 3)], [(11, none), (34, some 3)], [(34, some 3), (40, some 9), (41, some 10)], [(34, some 3), (42, some 11)]]) (by kernel_rfl) (by kernel_rfl) (Ts := [_, _, _, _, _, _, _, _, _, _, _, _, _]) rfl
        case hops =>
          refine ⟨?_, ⟨?_, ⟨?_, ⟨?_, ⟨?_, ⟨?_, ⟨?_, ⟨?_, ⟨?_, ⟨?_, ⟨?_, ⟨?_, ⟨?_, trivial⟩⟩⟩⟩⟩⟩⟩⟩⟩⟩⟩⟩⟩
          · exact rop_pure rfl (pu_move (OT.tmp rfl))
          · exact rop_pure rfl (pu_move (OT.tmp rfl))
          · exact rop_pure rfl (pu_leq (OT.tmp rfl) (OT.tmp rfl))
          · exact rop_pure rfl (pu_move (OT.tmp rfl))
          · exact rop_gu rfl rfl rfl (OT.gu_mk (OT.tmp rfl)) (fun hg => by (have hg1 := hg.2; exact rop_pure rfl (pu_move (by exact OT.tmp rfl))))
          · exact rop_gu rfl rfl rfl (OT.gu_mk (OT.tmp rfl)) (fun hg => by (have hg1 := hg.2; exact rop_pure rfl (pu_move (by exact OT.tmp rfl))))
          · exact rop_gu rfl rfl rfl (OT.gu_mk (OT.tmp rfl)) (fun hg => by (have hg1 := hg.2; exact rop_pure rfl (pu_move (by exact OT.tmp rfl))))
          · exact rop_gu rfl rfl rfl (OT.gu_mk (OT.tmp rfl)) (fun hg => by (have hg1 := hg.2; exact rop_pure rfl (pu_index_own (by exact OT.gu (OT.tmp rfl) hg) (by exact mem_at 0 rfl) (by exact OT.gu (OT.tmp rfl) hg) Try.underlying35 (show tyOk Try.prog 45 false 1 = true from by decide +kernel) (by omega) (by omega))))
          · exact rop_gu rfl rfl rfl (OT.gu_mk (OT.tmp rfl)) (fun hg => by (have hg1 := hg.2; exact rop_pure rfl (pu_load_own0 (by exact OT.gu (OT.tmp rfl) hg) (by exact mem_at 0 rfl) (by omega) (by omega) (show tyOk Try.prog 45 false 1 = true from by decide +kernel))))
          · exact rop_gu rfl rfl rfl (OT.gu_mk (OT.tmp rfl)) (fun hg => by (have hg1 := hg.2; exact rop_pure rfl (pu_move (by exact OT.tmp rfl))))
          · exact rop_gu rfl rfl rfl (OT.gu_mk (OT.tmp rfl)) (fun hg => by (have hg1 := hg.2; exact rop_pure rfl (pu_move (by exact OT.tmp rfl))))
          · exact rop_gu rfl rfl rfl (OT.gu_mk (OT.tmp rfl)) (fun hg => by (have hg1 := hg.2; exact rop_pure rfl (pu_index_own (by exact OT.gu (OT.tmp rfl) hg) (by exact mem_at 0 rfl) (by exact OT.gu (OT.tmp rfl) hg) Try.underlying35 (show tyOk Try.prog 45 false 1 = true from by decide +kernel) (by omega) (by (simp [maxLen] at *; omega)))))
          · exact rop_gu rfl rfl rfl (OT.gu_mk (OT.tmp rfl)) (fun hg => by (have hg1 := hg.2; exact rop_pure rfl (pu_load_own0 (by exact OT.gu (OT.tmp rfl) hg) (by exact mem_at 0 rfl) (by omega) (by (simp [maxLen] at *; omega)) (show tyOk Try.prog 45 false 1 = true from by decide +kernel))))
        case h =>
          refine op_gu_acts () rfl rfl rfl (OT.gu_mk (OT.tmp rfl)) (fun hg => by (have hg1 := hg.2; (try simp only [decide_eq_true_eq, decide_eq_false_iff_not] at hg1); exact acts_callv (by exact OT.gu (OT.tmp rfl) hg) (hfv _ _) (OTs.cons (by exact OT.gu (OT.tmp rfl) hg) (OTs.cons (by exact OT.gu (OT.tmp rfl) hg) OTs.nil)) (List.Perm.refl _))) rfl (fun _ _ => ?_)
          refine op_gu rfl rfl rfl (OT.gu_mk (OT.tmp rfl)) (fun hg => by (have hg1 := hg.2; (try simp only [decide_eq_true_eq, decide_eq_false_iff_not] at hg1); exact pu_lss (by exact OT.gu (OT.tmp rfl) hg) OT.const)) rfl ?_
          refine op_gu rfl rfl rfl (OT.gu_mk (OT.tmp rfl)) (fun hg => by (have hg1 := hg.2; (try simp only [decide_eq_true_eq, decide_eq_false_iff_not] at hg1); exact pu_not (by exact OT.gu (OT.tmp rfl) hg))) rfl ?_
          refine op_pure (pu_pick_and (OT.tmp rfl) (by exact OT.tmp rfl)) rfl rfl ?_
          refine tr_nil ?_
          refine then_normal ?_
          refine tr_cond (OT.tmp rfl) (fun c47 => ?_) (fun c47 => ?_)
          · try simp only [decide_eq_true_eq, decide_eq_false_iff_not, Bool.or_eq_true, Bool.and_eq_true, Bool.or_eq_false_iff, Bool.and_eq_false_iff, Bool.not_eq_true', Bool.not_eq_false', ne_eq, Classical.not_not] at c47
            have hnx := (up_step (p := (fun x => !ltc c d1[a]! x)) (d := d1) (j := j1) (i := i2) (by omega) (by show (!ltc c _ _) = true; rw [ltc_at (by omega) (by omega)]; simpa using c47.2)).symm.trans hi3
            refine tr_skip ?_
            refine then_normal ?_
            refine tr_block ?_
            -- region 4
            refine tr_env (es_cons (t := 0) (OT.tmp rfl) (es_cons (t := 1) (OT.tmp rfl) (es_cons (t := 4) (OT.tmp rfl) (es_cons (t := 11) (OT.tmp rfl) (es_cons (t := 12) (OT.tmp rfl) es_nil))))) ?_
            refine tr_region ?_
            refine op_pure (pu_move (OT.tmp rfl)) rfl rfl ?_
            refine op_pure (pu_add' (OT.tmp rfl) OT.const (by omega)) rfl rfl ?_
            refine op_pure (pu_assign (OT.tmp rfl)) rfl rfl ?_
            refine tr_nil ?_
            refine block_normal ?_
            refine then_normal ?_
            exact tr_again (i2 + 1) ⟨by omega, by omega, hnx⟩ (by omega) (es_append (es_cons (t := 11) (by exact OT.tmp rfl) es_nil) (es_cons (t := 0) (OT.tmp rfl) (es_cons (t := 1) (OT.tmp rfl) (es_cons (t := 4) (OT.tmp rfl) (es_cons (t := 12) (OT.tmp rfl) es_nil))))) (own_picks (by repeat (first | exact picks_nil | refine picks_cons 0 rfl ?_ | refine picks_cons 1 rfl ?_ | refine picks_cons 2 rfl ?_ | refine picks_cons 3 rfl ?_ | refine picks_cons 4 rfl ?_ | refine picks_cons 5 rfl ?_ | refine picks_cons 6 rfl ?_)))
          · try simp only [decide_eq_true_eq, decide_eq_false_iff_not, Bool.or_eq_true, Bool.and_eq_true, Bool.or_eq_false_iff, Bool.and_eq_false_iff, Bool.not_eq_true', Bool.not_eq_false', ne_eq, Classical.not_not] at c47
            have hue1 : i2 ≤ j1 → ltc c d1[a]! d1[i2]! = true := fun h => by
              rw [ltc_at (by omega) (by omega)]
              rcases c47 with h9 | h9
              · omega
              · simpa using h9
            have hup1 := hi3.symm.trans (up_end (p := (fun x => !ltc c d1[a]! x)) (fun h => by show (!ltc c _ _) = false; rw [hue1 h]; rfl))
            refine tr_exit ?_
            refine then_exit ?_
            refine then_exit ?_
            refine block_hit ?_
            refine then_normal ?_
            refine tr_seq ?_
            refine tr_block ?_
            refine tr_loopK (σ := Nat) (es_cons (t := 0) (OT.tmp rfl) (es_cons (t := 1) (OT.tmp rfl) (es_cons (t := 4) (OT.tmp rfl) (es_cons (t := 11) (OT.tmp rfl) es_nil)))) (fun s => [(12, I64 (s : Int))]) (fun s => [OwnI 45 (kG Z) v d1.toList]) (fun s => s ≤ j1 ∧ i2 ≤ s + 1 ∧ Sort.scanDown (fun x => ltc c d1[a]! x) d1 i2 s = Sort.scanDown (fun x => ltc c d1[a]! x) d1 i2 j1) (fun s => s) j1 ⟨by omega, by omega, rfl⟩ ?_ (own_picks (by repeat (first | exact picks_nil | refine picks_cons 0 rfl ?_ | refine picks_cons 1 rfl ?_ | refine picks_cons 2 rfl ?_ | refine picks_cons 3 rfl ?_ | refine picks_cons 4 rfl ?_ | refine picks_cons 5 rfl ?_ | refine picks_cons 6 rfl ?_))) ?_
            · exact (es_cons (t := 12) (by exact OT.tmp rfl) es_nil)
            · rintro j2 ⟨hj40, hj41, hj4⟩
              refine tr_seq ?_
              refine tr_seq ?_
              -- region 5
              refine tr_env (es_cons (t := 0) (OT.tmp rfl) (es_cons (t := 1) (OT.tmp rfl) (es_cons (t := 4) (OT.tmp rfl) (es_cons (t := 11) (OT.tmp rfl) (es_cons (t := 12) (OT.tmp rfl) es_nil))))) ?_
              apply tr_any (m := 13) (ns := [[(11, none)], [(12, none)], [(50, some 0), (51, some 1)], [(52, some 2)], [(4, none), (53, some 3)], [(0, none), (53, some 3)], [(1, none), (53, some 3)], [(53, some 3), (55, some 5), (56, some 6)], [(53, some 3), (57, some 7)], [(0, none), (53, some 3)], [(12, none), (53, some 3)], [(53, some 3), (59, some 9), (60, some 10)], [(53, some 3), (61, some 11)]]) (by kernel_rfl) (by kernel_rfl) (Ts := [_, _, _, _, _, _, _, _, _, _, _, _, _]) rfl
              case hops =>
                refine ⟨?_, ⟨?_, ⟨?_, ⟨?_, ⟨?_, ⟨?_, ⟨?_, ⟨?_, ⟨?_, ⟨?_, ⟨?_, ⟨?_, ⟨?_, trivial⟩⟩⟩⟩⟩⟩⟩⟩⟩⟩⟩⟩⟩
                · exact rop_pure rfl (pu_move (OT.tmp rfl))
                · exact rop_pure rfl (pu_move (OT.tmp rfl))
                · exact rop_pure rfl (pu_leq (OT.tmp rfl) (OT.tmp rfl))
                · exact rop_pure rfl (pu_move (OT.tmp rfl))
                · exact rop_gu rfl rfl rfl (OT.gu_mk (OT.tmp rfl)) (fun hg => by (have hg1 := hg.2; exact rop_pure rfl (pu_move (by exact OT.tmp rfl))))
                · exact rop_gu rfl rfl rfl (OT.gu_mk (OT.tmp rfl)) (fun hg => by (have hg1 := hg.2; exact rop_pure rfl (pu_move (by exact OT.tmp rfl))))
                · exact rop_gu rfl rfl rfl (OT.gu_mk (OT.tmp rfl)) (fun hg => by (have hg1 := hg.2; exact rop_pure rfl (pu_move (by exact OT.tmp rfl))))
                · exact rop_gu rfl rfl rfl (OT.gu_mk (OT.tmp rfl)) (fun hg => by (have hg1 := hg.2; exact rop_pure rfl (pu_index_own (by exact OT.gu (OT.tmp rfl) hg) (by exact mem_at 0 rfl) (by exact OT.gu (OT.tmp rfl) hg) Try.underlying35 (show tyOk Try.prog 45 false 1 = true from by decide +kernel) (by omega) (by omega))))
                · exact rop_gu rfl rfl rfl (OT.gu_mk (OT.tmp rfl)) (fun hg => by (have hg1 := hg.2; exact rop_pure rfl (pu_load_own0 (by exact OT.gu (OT.tmp rfl) hg) (by exact mem_at 0 rfl) (by omega) (by omega) (show tyOk Try.prog 45 false 1 = true from by decide +kernel))))
                · exact rop_gu rfl rfl rfl (OT.gu_mk (OT.tmp rfl)) (fun hg => by (have hg1 := hg.2; exact rop_pure rfl (pu_move (by exact OT.tmp rfl))))
                · exact rop_gu rfl rfl rfl (OT.gu_mk (OT.tmp rfl)) (fun hg => by (have hg1 := hg.2; exact rop_pure rfl (pu_move (by exact OT.tmp rfl))))
                · exact rop_gu rfl rfl rfl (OT.gu_mk (OT.tmp rfl)) (fun hg => by (have hg1 := hg.2; exact rop_pure rfl (pu_index_own (by exact OT.gu (OT.tmp rfl) hg) (by exact mem_at 0 rfl) (by exact OT.gu (OT.tmp rfl) hg) Try.underlying35 (show tyOk Try.prog 45 false 1 = true from by decide +kernel) (by omega) (by omega))))
                · exact rop_gu rfl rfl rfl (OT.gu_mk (OT.tmp rfl)) (fun hg => by (have hg1 := hg.2; exact rop_pure rfl (pu_load_own0 (by exact OT.gu (OT.tmp rfl) hg) (by exact mem_at 0 rfl) (by omega) (by omega) (show tyOk Try.prog 45 false 1 = true from by decide +kernel))))
              case h =>
                refine op_gu_acts () rfl rfl rfl (OT.gu_mk (OT.tmp rfl)) (fun hg => by (have hg1 := hg.2; (try simp only [decide_eq_true_eq, decide_eq_false_iff_not] at hg1); exact acts_callv (by exact OT.gu (OT.tmp rfl) hg) (hfv _ _) (OTs.cons (by exact OT.gu (OT.tmp rfl) hg) (OTs.cons (by exact OT.gu (OT.tmp rfl) hg) OTs.nil)) (List.Perm.refl _))) rfl (fun _ _ => ?_)
                refine op_gu rfl rfl rfl (OT.gu_mk (OT.tmp rfl)) (fun hg => by (have hg1 := hg.2; (try simp only [decide_eq_true_eq, decide_eq_false_iff_not] at hg1); exact pu_lss (by exact OT.gu (OT.tmp rfl) hg) OT.const)) rfl ?_
                refine op_pure (pu_pick_and (OT.tmp rfl) (by exact OT.tmp rfl)) rfl rfl ?_
                refine tr_nil ?_
                refine then_normal ?_
                refine tr_cond (OT.tmp rfl) (fun c65 => ?_) (fun c65 => ?_)
                · try simp only [decide_eq_true_eq, decide_eq_false_iff_not, Bool.or_eq_true, Bool.and_eq_true, Bool.or_eq_false_iff, Bool.and_eq_false_iff, Bool.not_eq_true', Bool.not_eq_false', ne_eq, Classical.not_not] at c65
                  have hnx := (down_step (p := (fun x => ltc c d1[a]! x)) (d := d1) (i := i2) (j := j2) (by omega) (by omega) (by show ltc c _ _ = true; rw [ltc_at (by omega) (by omega)]; simpa using c65.2)).symm.trans hj4
                  refine tr_skip ?_
                  refine then_normal ?_
                  refine tr_block ?_
                  -- region 6
                  refine tr_env (es_cons (t := 0) (OT.tmp rfl) (es_cons (t := 1) (OT.tmp rfl) (es_cons (t := 4) (OT.tmp rfl) (es_cons (t := 11) (OT.tmp rfl) (es_cons (t := 12) (OT.tmp rfl) es_nil))))) ?_
                  refine tr_region ?_
                  refine op_pure (pu_move (OT.tmp rfl)) rfl rfl ?_
                  refine op_pure (pu_sub' (OT.tmp rfl) OT.const (by omega)) rfl rfl ?_
                  refine op_pure (pu_assign (OT.tmp rfl)) rfl rfl ?_
                  refine tr_nil ?_
                  refine block_normal ?_
                  refine then_normal ?_
                  exact tr_again (j2 - 1) ⟨by omega, by omega, hnx⟩ (by omega) (es_append (es_cons (t := 12) (by exact OT.val (OT.tmp rfl) (congrArg (Value.int _) (by omega))) es_nil) (es_cons (t := 0) (OT.tmp rfl) (es_cons (t := 1) (OT.tmp rfl) (es_cons (t := 4) (OT.tmp rfl) (es_cons (t := 11) (OT.tmp rfl) es_nil))))) (own_picks (by repeat (first | exact picks_nil | refine picks_cons 0 rfl ?_ | refine picks_cons 1 rfl ?_ | refine picks_cons 2 rfl ?_ | refine picks_cons 3 rfl ?_ | refine picks_cons 4 rfl ?_ | refine picks_cons 5 rfl ?_ | refine picks_cons 6 rfl ?_)))
                · try simp only [decide_eq_true_eq, decide_eq_false_iff_not, Bool.or_eq_true, Bool.and_eq_true, Bool.or_eq_false_iff, Bool.and_eq_false_iff, Bool.not_eq_true', Bool.not_eq_false', ne_eq, Classical.not_not] at c65
                  have hde1 : i2 ≤ j2 → ltc c d1[a]! d1[j2]! = false := fun h => by
                    rw [ltc_at (by omega) (by omega)]
                    rcases c65 with h9 | h9
                    · omega
                    · simpa using h9
                  have hdn1 := hj4.symm.trans (down_end (p := (fun x => ltc c d1[a]! x)) hde1)
                  refine tr_exit ?_
                  refine then_exit ?_
                  refine then_exit ?_
                  refine block_hit ?_
                  refine then_normal ?_
                  refine tr_seq ?_
                  refine tr_seq ?_
                  -- region 7
                  refine tr_env (es_cons (t := 0) (OT.tmp rfl) (es_cons (t := 1) (OT.tmp rfl) (es_cons (t := 4) (OT.tmp rfl) (es_cons (t := 11) (OT.tmp rfl) (es_cons (t := 12) (OT.tmp rfl) es_nil))))) ?_
                  refine tr_region ?_
                  refine op_pure (pu_move (OT.tmp rfl)) rfl rfl ?_
                  refine op_pure (pu_move (OT.tmp rfl)) rfl rfl ?_
                  refine op_pure (pu_gtr (OT.tmp rfl) (OT.tmp rfl)) rfl rfl ?_
                  refine tr_nil ?_
                  refine then_normal ?_
                  refine tr_cond (OT.tmp rfl) (fun c70 => ?_) (fun c70 => ?_)
                  · try simp only [decide_eq_true_eq, decide_eq_false_iff_not, Bool.or_eq_true, Bool.and_eq_true, Bool.or_eq_false_iff, Bool.and_eq_false_iff, Bool.not_eq_true', Bool.not_eq_false', ne_eq, Classical.not_not] at c70
                    have hres := hr.symm.trans (partE_end hup1 hdn1 (by omega))
                    refine tr_exit ?_
                    refine then_exit ?_
                    refine block_pass rfl ?_
                    refine then_exit ?_
                    refine block_hit ?_
                    refine then_normal ?_
                    refine tr_seq ?_
                    -- region 11
                    refine tr_env (es_cons (t := 11) (OT.tmp rfl) es_nil) ?_
                    refine tr_region ?_
                    refine op_pure (pu_move (OT.tmp rfl)) rfl rfl ?_
                    refine op_pure (pu_assign (OT.tmp rfl)) rfl rfl ?_
                    refine tr_nil ?_
                    refine then_normal ?_
                    refine tr_ret ?_
                    exact ret_one .ret (.inl rfl) rfl () (OT.val (OT.tmp rfl) (congrArg (Value.int _) (by rw [hres]))) trivial (by rw [hres]; exact picks_cons 0 rfl picks_nil)
                  · try simp only [decide_eq_true_eq, decide_eq_false_iff_not, Bool.or_eq_true, Bool.and_eq_true, Bool.or_eq_false_iff, Bool.and_eq_false_iff, Bool.not_eq_true', Bool.not_eq_false', ne_eq, Classical.not_not] at c70
                    have hij2 : i2 ≤ j2 := by omega
                    have hne2 : i2 ≠ j2 := fun e => by have h8 := hue1 (by omega); have h9 := hde1 hij2; rw [← e] at h9; exact absurd (h8.symm.trans h9) (by simp)
                    have hnx := (partE_step hup1 hdn1 (by omega) (by omega)).symm.trans hr
                    refine tr_skip ?_
                    refine then_normal ?_
                    refine tr_seq ?_
                    -- region 8
                    refine tr_env (es_cons (t := 0) (OT.tmp rfl) (es_cons (t := 1) (OT.tmp rfl) (es_cons (t := 4) (OT.tmp rfl) (es_cons (t := 11) (OT.tmp rfl) (es_cons (t := 12) (OT.tmp rfl) es_nil))))) ?_
                    apply tr_anyW (p := 13) (Lf := fun c => cond c ([OwnI 45 (kG Z) v (d1.toList.set (i2 : Int).toNat (at' d1.toList (j2 : Int)))]) ([OwnI 45 (kG Z) v d1.toList])) (by kernel_rfl) (m := 14) (ns := [[(0, none)], [(11, none)], [(0, none)], [(12, none)], [(0, none)], [(12, none)], [(75, some 4), (76, some 5)], [(77, some 6)], [(0, none)], [(11, none)], [(79, some 8), (80, some 9)], [(81, some 10)], [(71, some 0), (72, some 1)], [(78, some 7), (83, some 12)]]) (by kernel_rfl) (by kernel_rfl) (Ts := [_, _, _, _, _, _, _, _, _, _, _, _, _, _]) rfl
                    case hops =>
                      refine ⟨?_, ⟨?_, ⟨?_, ⟨?_, ⟨?_, ⟨?_, ⟨?_, ⟨?_, ⟨?_, ⟨?_, ⟨?_, ⟨?_, ⟨?_, ⟨?_, trivial⟩⟩⟩⟩⟩⟩⟩⟩⟩⟩⟩⟩⟩⟩
                      · intro c hc; cases c
                        · exact ropw_of (rop_pure rfl (pu_move (OT.tmp rfl)))
                        · exact Bool.noConfusion (hc.symm.trans (by kernel_rfl : okFlag _ _ _ _ = false))
                      · intro c hc; cases c
                        · exact ropw_of (rop_pure rfl (pu_move (OT.tmp rfl)))
                        · exact Bool.noConfusion (hc.symm.trans (by kernel_rfl : okFlag _ _ _ _ = false))
                      · intro c hc; cases c
                        · exact ropw_of (rop_pure rfl (pu_move (OT.tmp rfl)))
                        · exact ropw_of (rop_pure rfl (pu_move (OT.tmp rfl)))
                      · intro c hc; cases c
                        · exact ropw_of (rop_pure rfl (pu_move (OT.tmp rfl)))
                        · exact ropw_of (rop_pure rfl (pu_move (OT.tmp rfl)))
                      · intro c hc; cases c
                        · exact ropw_of (rop_pure rfl (pu_move (OT.tmp rfl)))
                        · exact Bool.noConfusion (hc.symm.trans (by kernel_rfl : okFlag _ _ _ _ = false))
                      · intro c hc; cases c
                        · exact ropw_of (rop_pure rfl (pu_move (OT.tmp rfl)))
                        · exact Bool.noConfusion (hc.symm.trans (by kernel_rfl : okFlag _ _ _ _ = false))
                      · intro c hc; cases c
                        · exact ropw_of (rop_pure rfl (pu_index_own (OT.tmp rfl) (by exact mem_at 0 rfl) (OT.tmp rfl) Try.underlying35 (show tyOk Try.prog 45 false 1 = true from by decide +kernel) (by omega) (by omega)))
                        · exact Bool.noConfusion (hc.symm.trans (by kernel_rfl : okFlag _ _ _ _ = false))
                      · intro c hc; cases c
                        · exact ropw_of (rop_pure rfl (pu_load_own0 (OT.tmp rfl) (by exact mem_at 0 rfl) (by omega) (by omega) (show tyOk Try.prog 45 false 1 = true from by decide +kernel)))
                        · exact Bool.noConfusion (hc.symm.trans (by kernel_rfl : okFlag _ _ _ _ = false))
                      · intro c hc; cases c
                        · exact ropw_of (rop_pure rfl (pu_move (OT.tmp rfl)))
                        · exact Bool.noConfusion (hc.symm.trans (by kernel_rfl : okFlag _ _ _ _ = false))
                      · intro c hc; cases c
                        · exact ropw_of (rop_pure rfl (pu_move (OT.tmp rfl)))
                        · exact Bool.noConfusion (hc.symm.trans (by kernel_rfl : okFlag _ _ _ _ = false))
                      · intro c hc; cases c
                        · exact ropw_of (rop_pure rfl (pu_index_own (OT.tmp rfl) (by exact mem_at 0 rfl) (OT.tmp rfl) Try.underlying35 (show tyOk Try.prog 45 false 1 = true from by decide +kernel) (by omega) (by omega)))
                        · exact Bool.noConfusion (hc.symm.trans (by kernel_rfl : okFlag _ _ _ _ = false))
                      · intro c hc; cases c
                        · exact ropw_of (rop_pure rfl (pu_load_own0 (OT.tmp rfl) (by exact mem_at 0 rfl) (by omega) (by omega) (show tyOk Try.prog 45 false 1 = true from by decide +kernel)))
                        · exact Bool.noConfusion (hc.symm.trans (by kernel_rfl : okFlag _ _ _ _ = false))
                      · intro c hc; cases c
                        · exact ropw_of (rop_pure rfl (pu_index_own (OT.tmp rfl) (by exact mem_at 0 rfl) (OT.tmp rfl) Try.underlying35 (show tyOk Try.prog 45 false 1 = true from by decide +kernel) (by omega) (by omega)))
                        · exact Bool.noConfusion (hc.symm.trans (by kernel_rfl : okFlag _ _ _ _ = false))
                      · intro c hc; cases c
                        · exact ropw_acts rfl (acts_store_own0 (OT.tmp rfl) (OT.tmp rfl) (by exact perm_at 0 rfl) (by omega) (by omega) (show tyOk Try.prog 45 false 1 = true from by decide +kernel)) (by exact perm_at 0 rfl) (fun _ => (by exact perm_at 0 rfl)) (fun _ _ _ _ h => h)
                        · exact Bool.noConfusion (hc.symm.trans (by kernel_rfl : okFlag _ _ _ _ = false))
                    case h =>
                      refine op_pure (pu_index_own (OT.tmp rfl) (by exact mem_at 0 rfl) (OT.tmp rfl) Try.underlying35 (show tyOk Try.prog 45 false 1 = true from by decide +kernel) (by omega) (by (simp; omega))) rfl rfl ?_
                      refine op_acts (acts_store_own0 (OT.tmp rfl) (OT.tmp rfl) (by exact perm_at 0 rfl) (by omega) (by (simp; omega)) (show tyOk Try.prog 45 false 1 = true from by decide +kernel)) (by exact perm_at 0 rfl) rfl rfl (fun _ _ => ?_)
                      refine tr_nil ?_
                      refine then_normal ?_
                      refine tr_seq ?_
                      -- region 9
                      refine tr_env (es_cons (t := 0) (OT.tmp rfl) (es_cons (t := 1) (OT.tmp rfl) (es_cons (t := 4) (OT.tmp rfl) (es_cons (t := 11) (OT.tmp rfl) (es_cons (t := 12) (OT.tmp rfl) es_nil))))) ?_
                      rw [sw (by omega) (by omega)]
                      refine tr_region ?_
                      refine op_pure (pu_move (OT.tmp rfl)) rfl rfl ?_
                      refine op_pure (pu_add' (OT.tmp rfl) OT.const (by omega)) rfl rfl ?_
                      refine op_pure (pu_assign (OT.tmp rfl)) rfl rfl ?_
                      refine tr_nil ?_
                      refine then_normal ?_
                      -- region 10
                      refine tr_env (es_cons (t := 0) (OT.tmp rfl) (es_cons (t := 1) (OT.tmp rfl) (es_cons (t := 4) (OT.tmp rfl) (es_cons (t := 11) (OT.tmp rfl) (es_cons (t := 12) (OT.tmp rfl) es_nil))))) ?_
                      refine tr_region ?_
                      refine op_pure (pu_move (OT.tmp rfl)) rfl rfl ?_
                      refine op_pure (pu_sub' (OT.tmp rfl) OT.const (by omega)) rfl rfl ?_
                      refine op_pure (pu_assign (OT.tmp rfl)) rfl rfl ?_
                      refine tr_nil ?_
                      refine block_normal ?_
                      refine then_normal ?_
                      exact tr_again (i2 + 1, j2 - 1, Sort.swp d1 i2 j2) ⟨swp_size.trans hs2, by show a + 1 ≤ i2 + 1; omega, by show i2 + 1 ≤ j2 - 1 + 1; omega, by show j2 - 1 < b; omega, hnx⟩ (by show j2 - 1 + 1 - (i2 + 1) < j1 + 1 - i1; omega) (es_append (es_cons (t := 11) (by exact OT.tmp rfl) (es_cons (t := 12) (by exact OT.val (OT.tmp rfl) (congrArg (Value.int _) (by (simp; omega)))) es_nil)) (es_cons (t := 0) (OT.tmp rfl) (es_cons (t := 1) (OT.tmp rfl) (es_cons (t := 4) (OT.tmp rfl) es_nil)))) (own_picks (by repeat (first | exact picks_nil | refine picks_cons 0 rfl ?_ | refine picks_cons 1 rfl ?_ | refine picks_cons 2 rfl ?_ | refine picks_cons 3 rfl ?_ | refine picks_cons 4 rfl ?_ | refine picks_cons 5 rfl ?_ | refine picks_cons 6 rfl ?_)))
end Go.Proofs.Ytakkjljhjfkkbaa
/- Sorts of tuples: the steps of the insertion in part. -/
namespace Go.So
open Go Go.Gw
set_option linter.unusedVariables false
set_option linter.unusedSimpArgs false
section
variable {c : List Int → List Int → Int} {d : DA} {a b i j s : Nat}
theorem ss_step (h : i < b) (hp : ltc c d[i]! d[i - 1]! = false) : Sort.scanSorted (ltc c) d b i = Sort.scanSorted (ltc c) d b (i + 1) := by
  rw [Sort.scanSorted, if_pos (by simp [h, hp])]
theorem ss_end (h : i < b → ltc c d[i]! d[i - 1]! = true) : Sort.scanSorted (ltc c) d b i = i := by
  rw [Sort.scanSorted, if_neg (by
    rw [Bool.and_eq_true, decide_eq_true_eq]; rintro ⟨h1, h2⟩; rw [h h1] at h2; cases h2)]
theorem sd_step (h : 0 < j) (hp : ltc c d[j]! d[j - 1]! = true) : Sort.shiftDown (ltc c) j d = Sort.shiftDown (ltc c) (j - 1) (Sort.swp d j (j - 1)) := by
  obtain ⟨k, rfl⟩ : ∃ k, j = k + 1 := ⟨j - 1, by omega⟩
  rw [Nat.add_sub_cancel] at hp ⊢
  rw [Sort.shiftDown, if_neg (by simp [hp])]
theorem sd_end (h : 0 < j → ltc c d[j]! d[j - 1]! = false) : Sort.shiftDown (ltc c) j d = d := by
  cases j with
  | zero => rfl
  | succ k =>
    have := h (by omega)
    rw [Nat.add_sub_cancel] at this
    rw [Sort.shiftDown, if_pos (by simp [this])]
theorem su_step (h : j < b) (hp : ltc c d[j]! d[j - 1]! = true) : Sort.shiftUp (ltc c) b j d = Sort.shiftUp (ltc c) b (j + 1) (Sort.swp d j (j - 1)) := by
  rw [Sort.shiftUp, if_pos h, if_neg (by simp [hp])]
theorem su_end (h : j < b → ltc c d[j]! d[j - 1]! = false) : Sort.shiftUp (ltc c) b j d = d := by
  rw [Sort.shiftUp]
  split
  · rename_i hj
    rw [if_pos (by simp [h hj])]
  · rfl
theorem pi_zero : Sort.partialIns (ltc c) a b 0 i d = (d, false) := rfl
theorem pi_yes (hi : Sort.scanSorted (ltc c) d b i = b) : Sort.partialIns (ltc c) a b (s + 1) i d = (d, true) := by
  rw [Sort.partialIns]; simp only [hi, if_true]
theorem pi_few (hi : Sort.scanSorted (ltc c) d b i = j) (hj : j ≠ b) (h : b - a < 50) : Sort.partialIns (ltc c) a b (s + 1) i d = (d, false) := by
  rw [Sort.partialIns]; simp only [hi]; rw [if_neg hj, if_pos h]
theorem pi_on (hi : Sort.scanSorted (ltc c) d b i = j) (hj : j ≠ b) (h : ¬ b - a < 50) : Sort.partialIns (ltc c) a b (s + 1) i d =
    Sort.partialIns (ltc c) a b s j (if b - j ≥ 2 then Sort.shiftUp (ltc c) b (j + 1) (if j - a ≥ 2 then Sort.shiftDown (ltc c) (j - 1) (Sort.swp d j (j - 1)) else Sort.swp d j (j - 1)) else (if j - a ≥ 2 then Sort.shiftDown (ltc c) (j - 1) (Sort.swp d j (j - 1)) else Sort.swp d j (j - 1))) := by
  rw [Sort.partialIns]; simp only [hi]; rw [if_neg hj, if_neg h]
theorem sw1 (h0 : 0 < i) (h : i < d.size) : (d.toList.set (i : Int).toNat (at' d.toList ((i : Int) - 1))).set ((i : Int) - 1).toNat (at' d.toList (i : Int)) = (Sort.swp d i (i - 1)).toList := by
  rw [show (i : Int) - 1 = ((i - 1 : Nat) : Int) from by omega]
  exact sw h (by omega)
end
end Go.So
