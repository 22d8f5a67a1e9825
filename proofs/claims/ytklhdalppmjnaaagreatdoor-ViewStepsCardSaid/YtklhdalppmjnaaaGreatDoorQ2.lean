/- The texts G27, SoA, Sq, SqF, So1, So2, SoB, So3, So4, SoC, So5 of this claim, put together in their order. No condition of their own. -/
import Derived.Test.YtklhdalppmjnaaaGreatDoorQ1
import Derived.Lib.ConvBytes
import Derived.Laws.BytesString
import Derived.Laws.BytesArg
import Derived.Below
import Derived.Sort.AssemblyPlain
import Derived.Test.YtklhdalppmjnaaaGreatDoorProg
/- Typed walks: texts as lists of bytes: joined, compared, read byte by byte, cut, converted; error values that are nil or not; library contracts that only make memory. Over any program. -/
namespace Go.Gw
open Go
set_option linter.unusedVariables false
set_option linter.unusedSimpArgs false
abbrev bs (l : List UInt8) : ByteArray := ⟨l.toArray⟩
abbrev BsT (l : List UInt8) : Ty := StrT (bs l)
theorem bs_of (s : ByteArray) : bs s.data.toList = s := by cases s; simp [bs]
theorem bs_size (l : List UInt8) : (bs l).size = l.length := by simp [bs, ByteArray.size]
abbrev kS : Kd (List UInt8) := scalar (fun l => Value.string (bs l)) fun _ => rfl
section
variable {C : Cx} {Γ : Env} {L R : List It} {dst : Option Tmp} {ty : TypeId} {pos : String} {after : Array Edge} {guard : Option (Nat × Bool)} {x y z : Operand}
theorem beq_bs (u v : List UInt8) : ((bs u).toList == (bs v).toList) = decide (u = v) := by
 rw [ByteArray.toList_eq, ByteArray.toList_eq]
 simp only [bs]
 by_cases h : u = v <;> simp [h]
theorem pu_bs_eql {t t2 : TypeId} {u v : List UInt8} (hx : OT C.N Γ x (BsT u)) (hy : OT C.N Γ y (BsT v)) : Pure C Γ L ⟨dst, .binOp .eql t x y t2, ty, pos, after, guard⟩ (BoolT (decide (u = v))) :=
 (pu_str_eql hx hy).val (by rw [beq_bs])
theorem pu_bs_neq {t t2 : TypeId} {u v : List UInt8} (hx : OT C.N Γ x (BsT u)) (hy : OT C.N Γ y (BsT v)) : Pure C Γ L ⟨dst, .binOp .neq t x y t2, ty, pos, after, guard⟩ (BoolT (decide (u ≠ v))) :=
 (pu_str_neq hx hy).val (by rw [beq_bs]; by_cases h : u = v <;> simp [h])
theorem pu_len_bs {t : TypeId} {u : List UInt8} (ht : C.P.underlying t = some .string) (hx : OT C.N Γ x (BsT u)) : Pure C Γ L ⟨dst, .call ⟨.builtin .len, #[x], #[t]⟩, ty, pos, after, guard⟩ (I64 u.length) :=
 (pu_len_str ht hx).val (by rw [bs_size])
end
open Go.RowKit in
theorem ct_below {K0 : FH} {n0 : Nat} {P : Program} {f : FuncId} {As : List Ty} {T : Ty}
 (h : ∀ (H : FH) (w : World) (args : List Value), Sub K0 H → On H w → AllP H As args → Calls P f args.toArray w fun e w' => ∃ v, e = .returned v ∧ T.p H v ∧ Below w.heap.size w w') :
 CtM K0 n0 P f As [] Unit (fun _ => T) (fun _ => []) (fun _ => True) := by
 intro H w args hK hn hon hA hO
 refine (h H w args hK hon hA).mono ?_
 rintro e w' ⟨v, rfl, hv, hb⟩
 exact ⟨(), v, H, rfl, trivial, ⟨Sub.refl _, fun k o e => (hb.block k (hon.lt e)).trans (hon k o e), hb.os, hb.tape, hb.output, hb.size, fun k hk _ => hb.block k hk, fun k o e => .inl e⟩, hv, Owns.nil⟩
end Go.Gw
/- Sorts of tuples: arrays of tuples as lists, the comparison. The plain layer of the sort is the kit's. -/
namespace Go.So
open Go Go.Gw
set_option linter.unusedVariables false
set_option linter.unusedSimpArgs false
abbrev kT : Kd (List Int) := ksl (kint .i64)
abbrev DA := Array (List Int)
structure SlTy where
 T : List Int → Ty
 h : ∀ {x H v}, (T x).p H v → ∃ A n c, v = .slice A n c
abbrev kG (Z : SlTy) : Kd (List Int) := kty Z.T Z.h
abbrev zC (K0 : FH) (n0 : Nat) : SlTy := ⟨fun xs => ClipT K0 n0 (kint .i64) xs, fun {x H v} h => let ⟨A, h1⟩ := h.2; ⟨A, _, _, h1⟩⟩
abbrev zS : SlTy := ⟨fun xs => SlT (kint .i64) xs, fun {x H v} h => let ⟨A, c, h1, _⟩ := h; ⟨A, _, c, h1⟩⟩
abbrev kF (K0 : FH) (n0 : Nat) : Kd (List Int) := kcl K0 n0 (kint .i64)
def ltc (c : List Int → List Int → Int) (x y : List Int) : Bool := decide (c x y < 0)
theorem at_arr {d : DA} {i : Int} (h0 : 0 ≤ i) (h1 : i < d.size) : at' d.toList i = d[i.toNat]! := by
 have h : i.toNat < d.size := by omega
 simp [at', List.getD_eq_getElem?_getD, h]
theorem at_nat {d : DA} {i : Nat} (h1 : i < d.size) : at' d.toList (i : Int) = d[i]! := by
 rw [at_arr (by omega) (by omega), Int.toNat_natCast]
theorem swp_list {d : DA} {i j : Nat} (hi : i < d.size) (hj : j < d.size) : ((d.toList.set i (at' d.toList (j : Int))).set j (at' d.toList (i : Int))) = (Sort.swp d i j).toList := by
 rw [at_nat hi, at_nat hj]
 simp [Sort.swp]
theorem swp_size {d : DA} {i j : Nat} : (Sort.swp d i j).size = d.size := by simp [Sort.swp]
theorem swp_items {d : DA} {i j : Int} (hi : 0 ≤ i) (hi1 : i < d.size) (hj : 0 ≤ j) (hj1 : j < d.size) : (d.toList.set i.toNat (at' d.toList j)).set j.toNat (at' d.toList i) = (Sort.swp d i.toNat j.toNat).toList := by
 have h1 := swp_list (d := d) (i := i.toNat) (j := j.toNat) (by omega) (by omega)
 rw [Int.toNat_of_nonneg hi, Int.toNat_of_nonneg hj] at h1
 exact h1
section
variable {c : List Int → List Int → Int} {d : DA} {a b i j : Nat}
theorem ltc_at (hi : i < d.size) (hj : j < d.size) : ltc c d[i]! d[j]! = decide (c (at' d.toList (i : Int)) (at' d.toList (j : Int)) < 0) := by
 rw [ltc, at_nat hi, at_nat hj]
theorem insIn_step (h : a < j) (hl : ltc c d[j]! d[j - 1]! = true) : Sort.insInner (ltc c) a j d = Sort.insInner (ltc c) a (j - 1) (Sort.swp d j (j - 1)) := by
 obtain ⟨k, rfl⟩ : ∃ k, j = k + 1 := ⟨j - 1, by omega⟩
 rw [Nat.add_sub_cancel] at hl ⊢
 rw [Sort.insInner, if_pos (by simp [hl]; omega)]
theorem insIn_stop (h : a < j → ltc c d[j]! d[j - 1]! = false) : Sort.insInner (ltc c) a j d = d := by
 cases j with
 | zero => rfl
 | succ k =>
  rw [Sort.insInner]
  split
  · rename_i hc
    simp only [Bool.and_eq_true, decide_eq_true_eq] at hc
    have := h hc.1
    rw [Nat.add_sub_cancel] at this
    rw [this] at hc; exact absurd hc.2 (by simp)
  · rfl
theorem insOut_step (h : i < b) : Sort.insOuter (ltc c) a b i d = Sort.insOuter (ltc c) a b (i + 1) (Sort.insInner (ltc c) a i d) := by
 rw [Sort.insOuter, if_pos h]
theorem insOut_end (h : ¬ i < b) : Sort.insOuter (ltc c) a b i d = d := by
 rw [Sort.insOuter, if_neg h]
theorem rev_step (h : i < j) : Sort.reverseLoop i j d = Sort.reverseLoop (i + 1) (j - 1) (Sort.swp d i j) := by
 rw [Sort.reverseLoop, if_pos h]
theorem rev_end (h : ¬ i < j) : Sort.reverseLoop i j d = d := by
 rw [Sort.reverseLoop, if_neg h]
variable {hi first root : Nat}
theorem sift_end (h : 2 * root + 1 ≥ hi) : Sort.siftDown (ltc c) hi first root d = d := by
 rw [Sort.siftDown, dif_pos h]
theorem sift_two (h : ¬ 2 * root + 1 ≥ hi) (h2 : 2 * root + 1 + 1 < hi) (h3 : ltc c d[first + (2 * root + 1)]! d[first + (2 * root + 1) + 1]! = true) :
 Sort.siftDown (ltc c) hi first root d = if !ltc c d[first + root]! d[first + (2 * root + 2)]! then d else Sort.siftDown (ltc c) hi first (2 * root + 2) (Sort.swp d (first + root) (first + (2 * root + 2))) := by
 rw [Sort.siftDown, dif_neg h, if_pos (by simp [h2, h3])]
 split <;> first | rfl | rw [dif_pos (by omega)]
theorem sift_one (h : ¬ 2 * root + 1 ≥ hi) (h3 : 2 * root + 1 + 1 < hi → ltc c d[first + (2 * root + 1)]! d[first + (2 * root + 1) + 1]! = false) :
 Sort.siftDown (ltc c) hi first root d = if !ltc c d[first + root]! d[first + (2 * root + 1)]! then d else Sort.siftDown (ltc c) hi first (2 * root + 1) (Sort.swp d (first + root) (first + (2 * root + 1))) := by
 rw [Sort.siftDown, dif_neg h, if_neg (by
  rw [Bool.and_eq_true, decide_eq_true_eq]; rintro ⟨h4, h5⟩; rw [h3 h4] at h5; cases h5)]
theorem sift_size (hi first root : Nat) (d : DA) : (Sort.siftDown (ltc c) hi first root d).size = d.size := by
 fun_induction Sort.siftDown (ltc c) hi first root d <;> simp_all [Sort.swp]
theorem heap_eq (h : a < b) : Sort.heapSort (ltc c) d a b = Sort.heapPop (ltc c) a (b - a) (Sort.heapBuild (ltc c) (b - a) a ((b - a - 1) / 2 + 1) d) := rfl
end
end Go.So
/- Short names for the steps of the walks; over any program. -/
namespace Go.Gw
open Go
set_option linter.unusedVariables false
abbrev pc := @picks_cons
abbrev pn := @picks_nil
theorem pl {L : List It} : Picks L L := ⟨[], by simp⟩
theorem pd {L M : List It} {x : It} (h : Picks L M) : Picks (x :: L) M := let ⟨R, hR⟩ := h; ⟨x :: R, (hR.cons x).trans List.perm_middle.symm⟩
abbrev op := @own_picks
abbrev oc := @OTs.cons
abbrev oN := @OTs.nil
abbrev ot := @OT.const
abbrev pad := @pu_add'
abbrev pls := @pu_len_sl
abbrev plb := @pu_load_blk
abbrev aC := @acts_call
abbrev tg := @tr_again
abbrev ea := @es_append
abbrev bh := @block_hit
abbrev tR := @tr_ret
abbrev pL := @pu_load
abbrev rw_ := @ropw_of
abbrev rgo := @ropg_of
abbrev rG := @rop_gu
abbrev tn := @tr_nil
abbrev nn := @then_normal
abbrev sq := @tr_seq
abbrev rg := @tr_region
abbrev te := @tr_env
abbrev tc := @tr_cond
abbrev sk := @tr_skip
abbrev tb := @tr_block
abbrev bn := @block_normal
abbrev tx := @then_exit
abbrev tt := @then_ret
abbrev en := @es_nil
abbrev oA := @op_acts
abbrev asv := @acts_store_var
abbrev plv := @pu_load_var
abbrev plo := @pu_load_own0
abbrev pio := @pu_index_own
abbrev oG := @op_gu
abbrev gm := @OT.gu_mk
abbrev gu := @OT.gu
abbrev pf := @pu_faddr
abbrev oT := @OT.tmp
abbrev mA := @mem_at
abbrev pA := @perm_at
theorem ec (t : Nat) {N : Nat} {Γ Δ : Env} {T : Ty} (h : find Γ t = some T) (hs : EnvSub N Γ Δ) : EnvSub N Γ ((t, T) :: Δ) := es_cons (OT.tmp h) hs
theorem pR {L : List It} : List.Perm L L := List.Perm.refl _
theorem nf {b : Bool} {p : Prop} (h : b = true) (e : b = false) : p := Bool.noConfusion (h.symm.trans e)
theorem cA {A B : Bool → Prop} (h0 : A false → B false) (h1 : A true → B true) : ∀ c, A c → B c := fun c => by cases c; exact h0; exact h1
theorem cB {ρ : Type} {A : Bool → Prop} {B : Bool → ρ → Prop} (h0 : ∀ r, A false → B false r) (h1 : ∀ r, A true → B true r) : ∀ c r, A c → B c r := fun c => by cases c; exact h0; exact h1
theorem cAf {f : Bool → Bool} {B : Bool → Prop} (e : f true = false) (h : f false = true → B false) : ∀ c, f c = true → B c := cA h fun hc => nf hc e
theorem cAt {f : Bool → Bool} {B : Bool → Prop} (e : f false = false) (h : f true = true → B true) : ∀ c, f c = true → B c := cA (fun hc => nf hc e) h
theorem cBf {ρ : Type} {f : Bool → Bool} {B : Bool → ρ → Prop} (e : f true = false) (h : ∀ r, f false = true → B false r) : ∀ c r, f c = true → B c r := cB h fun r hc => nf hc e
theorem cBt {ρ : Type} {f : Bool → Bool} {B : Bool → ρ → Prop} (e : f false = false) (h : ∀ r, f true = true → B true r) : ∀ c r, f c = true → B c r := cB (fun r hc => nf hc e) h
theorem cq : (∀ (p : Prop) [Decidable p], (decide p = true) = p) ∧ (∀ (p : Prop) [Decidable p], (decide p = false) = ¬ p) ∧ (∀ a b : Bool, ((a || b) = true) = (a = true ∨ b = true)) ∧ (∀ a b : Bool, ((a && b) = true) = (a = true ∧ b = true)) ∧
    (∀ a b : Bool, ((a || b) = false) = (a = false ∧ b = false)) ∧ (∀ a b : Bool, ((a && b) = false) = (a = false ∨ b = false)) ∧ (∀ a : Bool, ((!a) = true) = (a = false)) ∧ (∀ a : Bool, ((!a) = false) = (a = true)) ∧ (∀ p : Prop, (¬ ¬ p) = p) :=
  ⟨fun p _ => by simp, fun p _ => by simp, by simp, by simp, by simp, by simp, by simp, by simp, fun p => propext Classical.not_not⟩
theorem cq2 : (∀ (p : Prop) [Decidable p], (decide p = true) = p) ∧ (∀ (p : Prop) [Decidable p], (decide p = false) = ¬ p) := ⟨fun p _ => by simp, fun p _ => by simp⟩
section
variable {C : Cx} {Γ : Env} {L : List It} {Q : Exit → Act → World → Prop} {ops : Array Oper} {rest : List Oper} {dst : Option Tmp} {e : Op} {ty : TypeId} {pos : String} {after : Array Edge}
theorem oP {T : Ty} (h : Pure C Γ L ⟨dst, e, ty, pos, after, none⟩ T) (hd : dstOk C.N dst = true) (k : Tr C (upd dst T Γ) L (wpList C.P ops Q rest)) : Tr C Γ L (wpList C.P ops Q (⟨dst, e, ty, pos, after, none⟩ :: rest)) := op_pure h rfl hd k
theorem mv {t : Nat} {T : Ty} (h : find Γ t = some T) (hd : dstOk C.N dst = true) (k : Tr C (upd dst T Γ) L (wpList C.P ops Q rest)) : Tr C Γ L (wpList C.P ops Q (⟨dst, .move (.tmp t), ty, pos, after, none⟩ :: rest)) := oP (pu_move (OT.tmp h)) hd k
theorem av {t : Nat} {T : Ty} (h : find Γ t = some T) (hd : dstOk C.N dst = true) (k : Tr C (upd dst T Γ) L (wpList C.P ops Q rest)) : Tr C Γ L (wpList C.P ops Q (⟨dst, .assign (.tmp t), ty, pos, after, none⟩ :: rest)) := oP (pu_assign (OT.tmp h)) hd k
theorem ak {v : Value} (hd : dstOk C.N dst = true) (k : Tr C (upd dst (IsV v) Γ) L (wpList C.P ops Q rest)) : Tr C Γ L (wpList C.P ops Q (⟨dst, .assign (.const v), ty, pos, after, none⟩ :: rest)) := oP (pu_assign OT.const) hd k
theorem rP {T : Ty} (h : Pure C Γ L ⟨dst, e, ty, pos, after, none⟩ T) : ROp C Γ L ops ⟨dst, e, ty, pos, after, none⟩ T := rop_pure rfl h
theorem rmv {t : Nat} {T : Ty} (h : find Γ t = some T) : ROp C Γ L ops ⟨dst, .move (.tmp t), ty, pos, after, none⟩ T := rP (pu_move (OT.tmp h))
end
end Go.Gw
/- Facts of the program that the walks name. -/
namespace Go.Proofs.YtklhdalppmjnaaaGreatDoor
open Go Go.Gw
theorem y0 : tyOk Tryz.prog 51 false 1 = true := by decide +kernel
theorem y1 : enters Tryz.prog 143 = true := by decide +kernel
theorem y2 : tyOk Tryz.prog 3 false 1 = true := by decide +kernel
theorem y3 : enters Tryz.prog 154 = true := by decide +kernel
theorem y4 : enters Tryz.prog 147 = true := by decide +kernel
theorem y5 : enters Tryz.prog 146 = true := by decide +kernel
theorem y6 : tyOk Tryz.prog 229 false 1 = true := by decide +kernel
theorem y7 : enters Tryz.prog 99 = true := by decide +kernel
theorem y8 : enters Tryz.prog 144 = true := by decide +kernel
theorem y9 : enters Tryz.prog 145 = true := by decide +kernel
theorem y10 : enters Tryz.prog 118 = true := by decide +kernel
theorem y11 : enters Tryz.prog 119 = true := by decide +kernel
theorem y12 : enters Tryz.prog 120 = true := by decide +kernel
theorem y13 : enters Tryz.prog 121 = true := by decide +kernel
theorem y14 : enters Tryz.prog 122 = true := by decide +kernel
theorem y15 : enters Tryz.prog 123 = true := by decide +kernel
theorem y16 : enters Tryz.prog 124 = true := by decide +kernel
theorem y17 : enters Tryz.prog 125 = true := by decide +kernel
theorem y18 : enters Tryz.prog 98 = true := by decide +kernel
theorem y19 : enters Tryz.prog 148 = true := by decide +kernel
theorem y20 : enters Tryz.prog 128 = true := by decide +kernel
theorem y21 : enters Tryz.prog 100 = true := by decide +kernel
theorem y22 : enters Tryz.prog 63 = true := by decide +kernel
theorem y23 : enters Tryz.prog 33 = true := by decide +kernel
theorem y24 : fieldOk Tryz.prog 38 0 0 false 1 = true := by decide +kernel
theorem y25 : tyOk Tryz.prog 36 false 1 = true := by decide +kernel
theorem y27 : fieldOk Tryz.prog 38 1 1 false 1 = true := by decide +kernel
theorem y28 : enters Tryz.prog 15 = true := by decide +kernel
theorem y29 : slTy Tryz.prog 36 51 1 24 = true := by decide +kernel
theorem y31 : tyOk Tryz.prog 38 true 2 = true := by decide +kernel
theorem y33 : slTy Tryz.prog 51 3 1 8 = true := by decide +kernel
theorem y34 : enters Tryz.prog 66 = true := by decide +kernel
theorem y35 : enters Tryz.prog 65 = true := by decide +kernel
theorem y36 : enters Tryz.prog 37 = true := by decide +kernel
theorem y37 : enters Tryz.prog 62 = true := by decide +kernel
theorem y38 : enters Tryz.prog 92 = true := by decide +kernel
theorem y39 : enters Tryz.prog 91 = true := by decide +kernel
theorem y40 : tyOk Tryz.prog 9 false 1 = true := by decide +kernel
theorem y41 : enters Tryz.prog 50 = true := by decide +kernel
theorem y42 : enters Tryz.prog 83 = true := by decide +kernel
theorem y43 : fieldOk Tryz.prog 25 3 3 false 1 = true := by decide +kernel
theorem y44 : tyOk Tryz.prog 23 false 1 = true := by decide +kernel
theorem y45 : tyOk Tryz.prog 49 true 3 = true := by decide +kernel
theorem y46 : fieldOk Tryz.prog 49 0 0 false 1 = true := by decide +kernel
theorem y47 : fieldOk Tryz.prog 49 2 2 false 1 = true := by decide +kernel
theorem y48 : slTy Tryz.prog 22 9 1 16 = true := by decide +kernel
theorem y49 : enters Tryz.prog 54 = true := by decide +kernel
theorem y51 : fieldOk Tryz.prog 25 0 0 false 1 = true := by decide +kernel
theorem y52 : enters Tryz.prog 53 = true := by decide +kernel
theorem y53 : fieldOk Tryz.prog 25 1 1 false 1 = true := by decide +kernel
theorem y54 : fieldOk Tryz.prog 25 4 4 false 1 = true := by decide +kernel
theorem y55 : fieldOk Tryz.prog 25 2 2 false 1 = true := by decide +kernel
theorem y56 : tyOk Tryz.prog 22 false 1 = true := by decide +kernel
theorem y57 : fieldOk Tryz.prog 49 1 1 false 1 = true := by decide +kernel
theorem y58 : tyOk Tryz.prog 25 true 5 = true := by decide +kernel
theorem y59 : enters Tryz.prog 49 = true := by decide +kernel
theorem y60 : enters Tryz.prog 34 = true := by decide +kernel
theorem y61 : tyOk Tryz.prog 42 true 3 = true := by decide +kernel
theorem y62 : fieldOk Tryz.prog 42 1 1 false 1 = true := by decide +kernel
theorem y63 : fieldOk Tryz.prog 42 0 0 false 1 = true := by decide +kernel
theorem y64 : fieldOk Tryz.prog 42 2 2 false 1 = true := by decide +kernel
theorem y65 : tyOk Tryz.prog 108 true 2 = true := by decide +kernel
theorem y66 : fieldOk Tryz.prog 204 2 2 false 1 = true := by decide +kernel
theorem y67 : tyOk Tryz.prog 202 false 1 = true := by decide +kernel
theorem y68 : fieldOk Tryz.prog 204 1 1 false 1 = true := by decide +kernel
theorem y69 : tyOk Tryz.prog 160 false 1 = true := by decide +kernel
theorem y70 : slTy Tryz.prog 160 108 2 16 = true := by decide +kernel
theorem y71 : fieldOk Tryz.prog 204 0 0 false 1 = true := by decide +kernel
theorem y72 : tyOk Tryz.prog 120 false 1 = true := by decide +kernel
theorem y73 : slTy Tryz.prog 50 3 1 8 = true := by decide +kernel
theorem y74 : enters Tryz.prog 94 = true := by decide +kernel
theorem y75 : enters Tryz.prog 95 = true := by decide +kernel
theorem y76 : enters Tryz.prog 97 = true := by decide +kernel
theorem y77 : enters Tryz.prog 60 = true := by decide +kernel
theorem y78 : enters Tryz.prog 61 = true := by decide +kernel
theorem y79 : enters Tryz.prog 64 = true := by decide +kernel
theorem y80 : enters Tryz.prog 74 = true := by decide +kernel
theorem y81 : enters Tryz.prog 109 = true := by decide +kernel
theorem y82 : enters Tryz.prog 72 = true := by decide +kernel
theorem y83 : slTy Tryz.prog 146 36 1 24 = true := by decide +kernel
theorem y84 : enters Tryz.prog 42 = true := by decide +kernel
theorem y85 : enters Tryz.prog 43 = true := by decide +kernel
theorem y86 : enters Tryz.prog 110 = true := by decide +kernel
theorem y87 : enters Tryz.prog 75 = true := by decide +kernel
theorem y88 : enters Tryz.prog 44 = true := by decide +kernel
theorem y89 : tyOk Tryz.prog 127 true 2 = true := by decide +kernel
theorem y90 : fieldOk Tryz.prog 151 0 0 false 1 = true := by decide +kernel
theorem y91 : tyOk Tryz.prog 149 false 1 = true := by decide +kernel
theorem y92 : tyOk Tryz.prog 109 true 2 = true := by decide +kernel
theorem y93 : enters Tryz.prog 76 = true := by decide +kernel
theorem y94 : fieldOk Tryz.prog 151 1 1 false 1 = true := by decide +kernel
theorem y95 : slTy Tryz.prog 153 152 3 24 = true := by decide +kernel
theorem y96 : tyOk Tryz.prog 152 true 3 = true := by decide +kernel
theorem y97 : fieldOk Tryz.prog 152 0 0 false 1 = true := by decide +kernel
theorem y98 : fieldOk Tryz.prog 152 1 1 false 1 = true := by decide +kernel
theorem y99 : fieldOk Tryz.prog 152 2 2 false 1 = true := by decide +kernel
theorem y100 : fieldOk Tryz.prog 151 2 2 false 1 = true := by decide +kernel
theorem y101 : enters Tryz.prog 204 = true := by decide +kernel
theorem y102 : enters Tryz.prog 88 = true := by decide +kernel
theorem y103 : tyOk Tryz.prog 75 false 1 = true := by decide +kernel
theorem y104 : fieldOk Tryz.prog 106 2 2 false 1 = true := by decide +kernel
theorem y105 : tyOk Tryz.prog 103 false 1 = true := by decide +kernel
theorem y106 : enters Tryz.prog 48 = true := by decide +kernel
theorem y107 : enters Tryz.prog 196 = true := by decide +kernel
theorem y108 : enters Tryz.prog 205 = true := by decide +kernel
theorem y109 : enters Tryz.prog 197 = true := by decide +kernel
theorem y110 : fieldOk Tryz.prog 106 1 1 false 1 = true := by decide +kernel
theorem y111 : enters Tryz.prog 198 = true := by decide +kernel
theorem y112 : slTy Tryz.prog 273 109 2 16 = true := by decide +kernel
theorem y113 : enters Tryz.prog 199 = true := by decide +kernel
theorem y114 : enters Tryz.prog 201 = true := by decide +kernel
theorem y115 : enters Tryz.prog 202 = true := by decide +kernel
theorem y116 : fieldOk Tryz.prog 106 3 3 false 1 = true := by decide +kernel
theorem y117 : fieldOk Tryz.prog 106 0 0 false 1 = true := by decide +kernel
theorem y118 : enters Tryz.prog 192 = true := by decide +kernel
theorem y119 : enters Tryz.prog 194 = true := by decide +kernel
theorem y120 : enters Tryz.prog 193 = true := by decide +kernel
theorem y121 : enters Tryz.prog 195 = true := by decide +kernel
theorem y122 : enters Tryz.prog 86 = true := by decide +kernel
theorem y123 : enters Tryz.prog 87 = true := by decide +kernel
theorem y124 : enters Tryz.prog 90 = true := by decide +kernel
theorem y125 : enters Tryz.prog 55 = true := by decide +kernel
theorem y126 : enters Tryz.prog 56 = true := by decide +kernel
theorem y127 : enters Tryz.prog 58 = true := by decide +kernel
theorem y128 : enters Tryz.prog 57 = true := by decide +kernel
theorem y129 : enters Tryz.prog 59 = true := by decide +kernel
theorem y130 : enters Tryz.prog 35 = true := by decide +kernel
theorem y131 : enters Tryz.prog 47 = true := by decide +kernel
theorem y132 : enters Tryz.prog 36 = true := by decide +kernel
theorem y133 : slTy Tryz.prog 23 49 3 48 = true := by decide +kernel
theorem y134 : enters Tryz.prog 45 = true := by decide +kernel
theorem y135 : enters Tryz.prog 46 = true := by decide +kernel
theorem y136 : enters Tryz.prog 14 = true := by decide +kernel
theorem y137 : enters Tryz.prog 28 = true := by decide +kernel
theorem y138 : fieldOk Tryz.prog 74 2 6 false 1 = true := by decide +kernel
theorem y139 : tyOk Tryz.prog 70 false 1 = true := by decide +kernel
theorem y140 : enters Tryz.prog 29 = true := by decide +kernel
theorem y141 : fieldOk Tryz.prog 74 1 5 false 1 = true := by decide +kernel
theorem y142 : tyOk Tryz.prog 72 false 1 = true := by decide +kernel
theorem y143 : enters Tryz.prog 191 = true := by decide +kernel
theorem y144 : enters Tryz.prog 31 = true := by decide +kernel
theorem y145 : enters Tryz.prog 189 = true := by decide +kernel
theorem y146 : enters Tryz.prog 32 = true := by decide +kernel
theorem y147 : slTy Tryz.prog 26 42 3 32 = true := by decide +kernel
theorem y148 : enters Tryz.prog 10 = true := by decide +kernel
theorem y149 : enters Tryz.prog 11 = true := by decide +kernel
theorem y150 : enters Tryz.prog 13 = true := by decide +kernel
theorem y151 : enters Tryz.prog 8 = true := by decide +kernel
theorem y152 : enters Tryz.prog 16 = true := by decide +kernel
end Go.Proofs.YtklhdalppmjnaaaGreatDoor
/- Walks through the Go functions api.Tuple], api.Tuple], api.Tuple], api.Tuple], as typed contracts. -/
namespace Go.Proofs.YtklhdalppmjnaaaGreatDoor
open Go Go.Gw Go.So
set_option linter.unusedVariables false
set_option linter.unusedSimpArgs false
variable {Z : SlTy}

set_option maxHeartbeats 1000000 in
set_option maxRecDepth 20000 in
/-- slices.insertionSortCmpFunc[rhizome/api.Tuple] -/
theorem ins_fn (v fv : Value) (d : DA) (a b : Nat) (c : List Int → List Int → Int) (hm : d.size < 4611686018427387904) (hab : a ≤ b) (hb : b ≤ d.size) (hfv : ∀ x y, CtV Tryz.prog fv [(kG Z).T x, (kG Z).T y] [] Unit (fun _ => I64 (c x y)) (fun _ => []) (fun _ => True)) : Ct Tryz.prog 118 [IsV v, I64 (a : Int), I64 (b : Int), IsV fv] ([OwnI 51 (kG Z) v d.toList]) Unit (fun _ => AnyT) (fun _ => [OwnI 51 (kG Z) v (Sort.insertionSort (ltc c) d a b).toList]) (fun _ => True) := by
 refine fn_intro Tryz.func118 rfl rfl ?_
 intro H w
 refine sq (te (ec 0 rfl (ec 1 rfl (ec 2 rfl (ec 3 rfl en)))) (rg (mv rfl rfl (oP (pad (oT rfl) ot (by omega)) rfl (av rfl rfl (tn (nn (tb (tr_loopK (σ := Nat × DA) (ec 0 rfl (ec 1 rfl (ec 2 rfl (ec 3 rfl en)))) (fun s => [(8, I64 (s.1 : Int))]) (fun s => [OwnI 51 (kG Z) v s.2.toList]) (fun s => a + 1 ≤ s.1 ∧ s.2.size = d.size ∧ Sort.insOuter (ltc c) a b s.1 s.2 = Sort.insertionSort (ltc c) d a b) (fun s => b - s.1) (a + 1, d) ⟨by simp, rfl, rfl⟩ ?_ (op (by repeat first | exact pn | refine pc 0 rfl ?_)) ?_)))))))))
 · exact (ec 8 rfl en)
 · rintro ⟨i, d1⟩ ⟨hi0, hs1, hi⟩
   dsimp only at hi0 hs1 hi ⊢
   refine sq (sq (te (ec 0 rfl (ec 1 rfl (ec 2 rfl (ec 3 rfl (ec 8 rfl en))))) (rg (mv rfl rfl (mv rfl rfl (oP (pu_lss (oT rfl) (oT rfl)) rfl (tn (nn (tc (oT rfl) (fun c14 => ?_) (fun c14 => ?_))))))))))
   · try simp only [cq] at c14
     refine sk (nn (sq (tb (sq (te (ec 0 rfl (ec 1 rfl (ec 2 rfl (ec 3 rfl (ec 8 rfl en))))) (rg (mv rfl rfl (av rfl rfl (tn (nn (tb (tr_loopK (σ := Nat × DA) (ec 0 rfl (ec 1 rfl (ec 2 rfl (ec 3 rfl (ec 8 rfl en))))) (fun s => [(9, I64 (s.1 : Int))]) (fun s => [OwnI 51 (kG Z) v s.2.toList]) (fun s => a ≤ s.1 ∧ s.1 ≤ i ∧ s.2.size = d.size ∧ Sort.insInner (ltc c) a s.1 s.2 = Sort.insInner (ltc c) a i d1) (fun s => s.1) (i, d1) ⟨by omega, by simp, hs1, rfl⟩ ?_ (op (by repeat first | exact pn | refine pc 0 rfl ?_)) ?_))))))))))))
     · exact (ec 9 rfl en)
     · rintro ⟨j, d2⟩ ⟨hj0, hj1, hs2, hj⟩
       dsimp only at hj0 hj1 hs2 hj ⊢
       have hl2 : d2.toList.length = d2.size := Array.length_toList
       refine sq (sq (te (ec 0 rfl (ec 1 rfl (ec 2 rfl (ec 3 rfl (ec 8 rfl (ec 9 rfl en)))))) ?_))
       have hlt1 : i < d2.size := by omega
       apply tr_any (m := 14) (ns := [[(9, none)], [(1, none)], [(18, some 0), (19, some 1)], [(20, some 2)], [(3, none), (21, some 3)], [(0, none), (21, some 3)], [(9, none), (21, some 3)], [(21, some 3), (23, some 5), (24, some 6)], [(21, some 3), (25, some 7)], [(0, none), (21, some 3)], [(9, none), (21, some 3)], [(21, some 3), (28, some 10)], [(21, some 3), (27, some 9), (29, some 11)], [(21, some 3), (30, some 12)]]) (by kernel_rfl) (by kernel_rfl) (Ts := [_, _, _, _, _, _, _, _, _, _, _, _, _, _]) rfl
       case hops =>
        refine ⟨?_, ?_, ?_, ?_, ?_, ?_, ?_, ?_, ?_, ?_, ?_, ?_, ?_, ?_, trivial⟩
        · exact rmv rfl
        · exact rmv rfl
        · exact rP (pu_gtr (oT rfl) (oT rfl))
        · exact rmv rfl
        · exact rG rfl rfl rfl (gm (oT rfl)) (fun hg => by (have hg1 := hg.2; exact rmv rfl))
        · exact rG rfl rfl rfl (gm (oT rfl)) (fun hg => by (have hg1 := hg.2; exact rmv rfl))
        · exact rG rfl rfl rfl (gm (oT rfl)) (fun hg => by (have hg1 := hg.2; exact rmv rfl))
        · exact rG rfl rfl rfl (gm (oT rfl)) (fun hg => by (have hg1 := hg.2; exact rP (pio (by exact gu (oT rfl) hg) (by exact mA 0 rfl) (by exact gu (oT rfl) hg) Tryz.underlying36 y0 (by omega) (by omega))))
        · exact rG rfl rfl rfl (gm (oT rfl)) (fun hg => by (have hg1 := hg.2; exact rP (plo (by exact gu (oT rfl) hg) (by exact mA 0 rfl) (by omega) (by omega) y0)))
        · exact rG rfl rfl rfl (gm (oT rfl)) (fun hg => by (have hg1 := hg.2; exact rmv rfl))
        · exact rG rfl rfl rfl (gm (oT rfl)) (fun hg => by (have hg1 := hg.2; exact rmv rfl))
        · exact rG rfl rfl rfl (gm (oT rfl)) (fun hg => by (have hg1 := hg.2; exact rP (pu_sub' (by exact gu (oT rfl) hg) ot (by omega))))
        · exact rG rfl rfl rfl (gm (oT rfl)) (fun hg => by (have hg1 := hg.2; exact rP (pio (by exact gu (oT rfl) hg) (by exact mA 0 rfl) (by exact gu (oT rfl) hg) Tryz.underlying36 y0 (by (simp [maxLen] at *; omega)) (by omega))))
        · exact rG rfl rfl rfl (gm (oT rfl)) (fun hg => by (have hg1 := hg.2; exact rP (plo (by exact gu (oT rfl) hg) (by exact mA 0 rfl) (by (simp [maxLen] at *; omega)) (by omega) y0)))
       case h =>
        refine op_gu_acts () rfl rfl rfl (gm (oT rfl)) (fun hg => by (have hg1 := hg.2; (try simp only [cq2] at hg1); exact acts_callv (by exact gu (oT rfl) hg) (hfv _ _) (oc (by exact gu (oT rfl) hg) (oc (by exact gu (oT rfl) hg) oN)) pR)) rfl (fun _ _ => ?_)
        refine oG rfl rfl rfl (gm (oT rfl)) (fun hg => by (have hg1 := hg.2; (try simp only [cq2] at hg1); exact pu_lss (by exact gu (oT rfl) hg) ot)) rfl ?_
        refine oP (pu_pick_and (oT rfl) (oT rfl)) rfl (tn (nn (tc (oT rfl) (fun c34 => ?_) (fun c34 => ?_))))
        · try simp only [cq] at c34
          obtain ⟨hc1, hc2⟩ := c34
          have hj1' : ((j : Int) - 1) = ((j - 1 : Nat) : Int) := by omega
          have hgo : Sort.insInner (ltc c) a (j - 1) (Sort.swp d2 j (j - 1)) = Sort.insInner (ltc c) a i d1 := (insIn_step (c := c) (d := d2) (a := a) (j := j) (by omega) (by rw [ltc_at (by omega) (by omega), ← hj1']; simpa using hc2)).symm.trans hj
          have hsw : (Sort.swp d2 j (j - 1)).toList = (d2.toList.set (j : Int).toNat (at' d2.toList ((j : Int) - 1))).set ((j : Int) - 1).toNat (at' d2.toList (j : Int)) := by rw [swp_items (by omega) (by omega) (by omega) (by omega)]; simp [hj1']
          refine sk (nn (sq (tb (te (ec 0 rfl (ec 1 rfl (ec 2 rfl (ec 3 rfl (ec 8 rfl (ec 9 rfl en)))))) ?_))))
          apply tr_anyW (p := 15) (Lf := fun c => cond c ([OwnI 51 (kG Z) v (d2.toList.set (j : Int).toNat (at' d2.toList ((j : Int) - 1)))]) ([OwnI 51 (kG Z) v d2.toList])) (by kernel_rfl) (m := 16) (ns := [[(0, none)], [(9, none)], [(0, none)], [(9, none)], [(40, some 3)], [(0, none)], [(9, none)], [(43, some 6)], [(42, some 5), (44, some 7)], [(45, some 8)], [(0, none)], [(9, none)], [(47, some 10), (48, some 11)], [(49, some 12)], [(37, some 0), (38, some 1)], [(46, some 9), (51, some 14)]]) (by kernel_rfl) (by kernel_rfl) (Ts := [_, _, _, _, _, _, _, _, _, _, _, _, _, _, _, _]) rfl
          case hops =>
           refine ⟨?_, ?_, ?_, ?_, ?_, ?_, ?_, ?_, ?_, ?_, ?_, ?_, ?_, ?_, ?_, ?_, trivial⟩
           · exact cAf (by kernel_rfl) fun _ => rw_ (rmv rfl)
           · exact cAf (by kernel_rfl) fun _ => rw_ (rmv rfl)
           · intro c hc; cases c <;> exact rw_ (rmv rfl)
           · intro c hc; cases c <;> exact rw_ (rmv rfl)
           · intro c hc; cases c <;> exact rw_ (rP (pu_sub' (oT rfl) ot (by omega)))
           · exact cAf (by kernel_rfl) fun _ => rw_ (rmv rfl)
           · exact cAf (by kernel_rfl) fun _ => rw_ (rmv rfl)
           · exact cAf (by kernel_rfl) fun _ => rw_ (rP (pu_sub' (oT rfl) ot (by omega)))
           · exact cAf (by kernel_rfl) fun _ => rw_ (rP (pio (oT rfl) (by exact mA 0 rfl) (oT rfl) Tryz.underlying36 y0 (by omega) (by omega)))
           · exact cAf (by kernel_rfl) fun _ => rw_ (rP (plo (oT rfl) (by exact mA 0 rfl) (by omega) (by omega) y0))
           · exact cAf (by kernel_rfl) fun _ => rw_ (rmv rfl)
           · exact cAf (by kernel_rfl) fun _ => rw_ (rmv rfl)
           · exact cAf (by kernel_rfl) fun _ => rw_ (rP (pio (oT rfl) (by exact mA 0 rfl) (oT rfl) Tryz.underlying36 y0 (by omega) (by omega)))
           · exact cAf (by kernel_rfl) fun _ => rw_ (rP (plo (oT rfl) (by exact mA 0 rfl) (by omega) (by omega) y0))
           · exact cAf (by kernel_rfl) fun _ => rw_ (rP (pio (oT rfl) (by exact mA 0 rfl) (oT rfl) Tryz.underlying36 y0 (by omega) (by omega)))
           · exact cAf (by kernel_rfl) fun _ => ropw_acts rfl (acts_store_own0 (oT rfl) (oT rfl) (by exact pA 0 rfl) (by omega) (by omega) y0) (by exact pA 0 rfl) (fun _ => (by exact pA 0 rfl)) (fun _ _ _ _ h => h)
          case h =>
           refine oP (pio (oT rfl) (by exact mA 0 rfl) (oT rfl) Tryz.underlying36 y0 (by omega) (by (simp; omega))) rfl ?_
           refine oA (acts_store_own0 (oT rfl) (oT rfl) (by exact pA 0 rfl) (by omega) (by (simp; omega)) y0) (by exact pA 0 rfl) rfl rfl (fun _ _ => ?_)
           refine tn (bn (nn (te (ec 0 rfl (ec 1 rfl (ec 2 rfl (ec 3 rfl (ec 8 rfl (ec 9 rfl en)))))) (rg (mv rfl rfl (oP (pu_sub' (oT rfl) ot (by omega)) rfl (av rfl rfl (tn (nn ?_)))))))))
           exact tg (j - 1, Sort.swp d2 j (j - 1)) ⟨by show a ≤ j - 1; omega, by show j - 1 ≤ i; omega, swp_size.trans hs2, hgo⟩ (by omega) (ea (es_cons (t := 9) (OT.val (oT rfl) (congrArg (Value.int _) (by omega))) en) (ec 0 rfl (ec 1 rfl (ec 2 rfl (ec 3 rfl (ec 8 rfl en)))))) (op (by rw [hsw]; exact (by repeat first | exact pn | refine pc 0 rfl ?_)))
        · try simp only [cq] at c34
          have hend : Sort.insInner (ltc c) a j d2 = d2 := insIn_stop (fun h => by rw [ltc_at (by omega) (by omega), show ((j - 1 : Nat) : Int) = (j : Int) - 1 from by omega]; rcases c34 with h9 | h9; omega; simpa using h9)
          have hnx : Sort.insOuter (ltc c) a b (i + 1) d2 = Sort.insertionSort (ltc c) d a b := by
           have h9 := insOut_step (c := c) (a := a) (d := d1) (i := i) (b := b) (by omega)
           rw [hi, ← hj, hend] at h9
           exact h9.symm
          refine tr_exit (tx (tx (bh (bn (nn (te (ec 0 rfl (ec 1 rfl (ec 2 rfl (ec 3 rfl (ec 8 rfl en))))) (rg (mv rfl rfl (oP (pad (oT rfl) ot (by omega)) rfl (av rfl rfl (tn (nn ?_))))))))))))
          exact tg (i + 1, d2) ⟨by show a + 1 ≤ i + 1; omega, hs2, hnx⟩ (by omega) (ea (ec 8 rfl en) (ec 0 rfl (ec 1 rfl (ec 2 rfl (ec 3 rfl en))))) (op (by repeat first | exact pn | refine pc 0 rfl ?_))
   · try simp only [cq] at c14
     have hfin : d1 = Sort.insertionSort (ltc c) d a b := by rw [← hi, insOut_end (by omega)]
     refine tr_exit (tx (tx (bh ?_)))
     exact ret_none .normal (.inr rfl) rfl () (fun _ => trivial) trivial (by rw [← hfin]; exact pc 0 rfl pn)
set_option maxHeartbeats 1000000 in
set_option maxRecDepth 20000 in
/-- slices.reverseRangeCmpFunc[rhizome/api.Tuple] -/
theorem rev_fn (v fv : Value) (d : DA) (a b : Nat) (hm : d.size < 4611686018427387904) (hab : a < b) (hb : b ≤ d.size) : Ct Tryz.prog 122 [IsV v, I64 (a : Int), I64 (b : Int), IsV fv] ([OwnI 51 (kG Z) v d.toList]) Unit (fun _ => AnyT) (fun _ => [OwnI 51 (kG Z) v (Sort.reverseRange d a b).toList]) (fun _ => True) := by
 refine fn_intro Tryz.func122 rfl rfl ?_
 intro H w
 refine sq (te (ec 0 rfl (ec 1 rfl (ec 2 rfl en))) (rg (mv rfl rfl (av rfl rfl (tn (nn (sq (te (ec 0 rfl (ec 2 rfl (ec 8 rfl en))) (rg (mv rfl rfl (oP (pu_sub' (oT rfl) ot (by omega)) rfl (av rfl rfl (tn (nn (tb (tr_loopK (σ := Nat × Nat × DA) (ec 0 rfl en) (fun s => [(8, I64 (s.1 : Int)), (9, I64 (s.2.1 : Int))]) (fun s => [OwnI 51 (kG Z) v s.2.2.toList]) (fun s => s.2.1 < d.size ∧ s.2.2.size = d.size ∧ Sort.reverseLoop s.1 s.2.1 s.2.2 = Sort.reverseRange d a b) (fun s => s.2.1 - s.1) (a, b - 1, d) ⟨by show b - 1 < d.size; omega, rfl, rfl⟩ ?_ (op (by repeat first | exact pn | refine pc 0 rfl ?_)) ?_))))))))))))))))
 · exact (ec 8 rfl (es_cons (t := 9) (by exact OT.val (oT rfl) (congrArg (Value.int _) (by (simp; omega)))) en))
 · rintro ⟨i, j, d1⟩ ⟨hj, hs1, hr⟩
   dsimp only at hj hs1 hr ⊢
   have hl1 : d1.toList.length = d1.size := Array.length_toList
   refine sq (sq (te (ec 0 rfl (ec 8 rfl (ec 9 rfl en))) (rg (mv rfl rfl (mv rfl rfl (oP (pu_lss (oT rfl) (oT rfl)) rfl (tn (nn (tc (oT rfl) (fun c15 => ?_) (fun c15 => ?_))))))))))
   · try simp only [cq] at c15
     have hsw : (Sort.swp d1 i j).toList = (d1.toList.set (i : Int).toNat (at' d1.toList (j : Int))).set (j : Int).toNat (at' d1.toList (i : Int)) := by rw [swp_items (by omega) (by omega) (by omega) (by omega)]; simp
     have hnx := (rev_step (d := d1) (i := i) (j := j) (by omega)).symm.trans hr
     refine sk (nn (tb (sq (te (ec 0 rfl (ec 8 rfl (ec 9 rfl en))) ?_))))
     apply tr_anyW (p := 13) (Lf := fun c => cond c ([OwnI 51 (kG Z) v (d1.toList.set (i : Int).toNat (at' d1.toList (j : Int)))]) ([OwnI 51 (kG Z) v d1.toList])) (by kernel_rfl) (m := 14) (ns := [[(0, none)], [(8, none)], [(0, none)], [(9, none)], [(0, none)], [(9, none)], [(20, some 4), (21, some 5)], [(22, some 6)], [(0, none)], [(8, none)], [(24, some 8), (25, some 9)], [(26, some 10)], [(16, some 0), (17, some 1)], [(23, some 7), (28, some 12)]]) (by kernel_rfl) (by kernel_rfl) (Ts := [_, _, _, _, _, _, _, _, _, _, _, _, _, _]) rfl
     case hops =>
      refine ⟨?_, ?_, ?_, ?_, ?_, ?_, ?_, ?_, ?_, ?_, ?_, ?_, ?_, ?_, trivial⟩
      · exact cAf (by kernel_rfl) fun _ => rw_ (rmv rfl)
      · exact cAf (by kernel_rfl) fun _ => rw_ (rmv rfl)
      · intro c hc; cases c <;> exact rw_ (rmv rfl)
      · intro c hc; cases c <;> exact rw_ (rmv rfl)
      · exact cAf (by kernel_rfl) fun _ => rw_ (rmv rfl)
      · exact cAf (by kernel_rfl) fun _ => rw_ (rmv rfl)
      · exact cAf (by kernel_rfl) fun _ => rw_ (rP (pio (oT rfl) (by exact mA 0 rfl) (oT rfl) Tryz.underlying36 y0 (by omega) (by omega)))
      · exact cAf (by kernel_rfl) fun _ => rw_ (rP (plo (oT rfl) (by exact mA 0 rfl) (by omega) (by omega) y0))
      · exact cAf (by kernel_rfl) fun _ => rw_ (rmv rfl)
      · exact cAf (by kernel_rfl) fun _ => rw_ (rmv rfl)
      · exact cAf (by kernel_rfl) fun _ => rw_ (rP (pio (oT rfl) (by exact mA 0 rfl) (oT rfl) Tryz.underlying36 y0 (by omega) (by omega)))
      · exact cAf (by kernel_rfl) fun _ => rw_ (rP (plo (oT rfl) (by exact mA 0 rfl) (by omega) (by omega) y0))
      · exact cAf (by kernel_rfl) fun _ => rw_ (rP (pio (oT rfl) (by exact mA 0 rfl) (oT rfl) Tryz.underlying36 y0 (by omega) (by omega)))
      · exact cAf (by kernel_rfl) fun _ => ropw_acts rfl (acts_store_own0 (oT rfl) (oT rfl) (by exact pA 0 rfl) (by omega) (by omega) y0) (by exact pA 0 rfl) (fun _ => (by exact pA 0 rfl)) (fun _ _ _ _ h => h)
     case h =>
      refine oP (pio (oT rfl) (by exact mA 0 rfl) (oT rfl) Tryz.underlying36 y0 (by omega) (by (simp; omega))) rfl ?_
      refine oA (acts_store_own0 (oT rfl) (oT rfl) (by exact pA 0 rfl) (by omega) (by (simp; omega)) y0) (by exact pA 0 rfl) rfl rfl (fun _ _ => ?_)
      refine tn (nn (sq (te (ec 0 rfl (ec 8 rfl (ec 9 rfl en))) (rg (mv rfl rfl (oP (pad (oT rfl) ot (by omega)) rfl (av rfl rfl (tn (nn (te (ec 0 rfl (ec 8 rfl (ec 9 rfl en))) (rg (mv rfl rfl (oP (pu_sub' (oT rfl) ot (by omega)) rfl (av rfl rfl (tn (bn (nn ?_)))))))))))))))))
      exact tg (i + 1, j - 1, Sort.swp d1 i j) ⟨by show j - 1 < d.size; omega, swp_size.trans hs1, hnx⟩ (by show j - 1 - (i + 1) < j - i; omega) (ea (ec 8 rfl (es_cons (t := 9) (by exact OT.val (oT rfl) (congrArg (Value.int _) (by (simp; omega)))) en)) (ec 0 rfl en)) (op (by rw [hsw]; exact (by repeat first | exact pn | refine pc 0 rfl ?_)))
   · try simp only [cq] at c15
     have hfin : d1 = Sort.reverseRange d a b := by rw [← hr, rev_end (by omega)]
     refine tr_exit (tx (tx (bh ?_)))
     exact ret_none .normal (.inr rfl) rfl () (fun _ => trivial) trivial (by rw [← hfin]; exact pc 0 rfl pn)
set_option maxHeartbeats 1000000 in
set_option maxRecDepth 20000 in
/-- slices.siftDownCmpFunc[rhizome/api.Tuple] -/
theorem sift_fn (v fv : Value) (d : DA) (lo hi first : Nat) (c : List Int → List Int → Int) (hm : d.size < 4611686018427387904) (hb : first + hi ≤ d.size) (hlo : lo ≤ hi) (hfv : ∀ x y, CtV Tryz.prog fv [(kG Z).T x, (kG Z).T y] [] Unit (fun _ => I64 (c x y)) (fun _ => []) (fun _ => True)) : Ct Tryz.prog 143 [IsV v, I64 (lo : Int), I64 (hi : Int), I64 (first : Int), IsV fv] ([OwnI 51 (kG Z) v d.toList]) Unit (fun _ => AnyT) (fun _ => [OwnI 51 (kG Z) v (Sort.siftDown (ltc c) hi first lo d).toList]) (fun _ => True) := by
 refine fn_intro Tryz.func143 rfl rfl ?_
 intro H w
 refine sq (te (ec 0 rfl (ec 1 rfl (ec 2 rfl (ec 3 rfl (ec 4 rfl en))))) (rg (mv rfl rfl (av rfl rfl (tn (nn (tb (tr_loopK (σ := Nat × DA) (ec 0 rfl (ec 2 rfl (ec 3 rfl (ec 4 rfl en)))) (fun s => [(10, I64 (s.1 : Int))]) (fun s => [OwnI 51 (kG Z) v s.2.toList]) (fun s => s.1 ≤ hi ∧ s.2.size = d.size ∧ Sort.siftDown (ltc c) hi first s.1 s.2 = Sort.siftDown (ltc c) hi first lo d) (fun s => hi - s.1) (lo, d) ⟨hlo, rfl, rfl⟩ ?_ (op (by repeat first | exact pn | refine pc 0 rfl ?_)) ?_))))))))
 · exact (ec 10 rfl en)
 · rintro ⟨root, d1⟩ ⟨hrh, hs1, hr⟩
   dsimp only at hrh hs1 hr ⊢
   have hl1 : d1.toList.length = d1.size := Array.length_toList
   refine tb (sq (te (ec 0 rfl (ec 2 rfl (ec 3 rfl (ec 4 rfl (ec 10 rfl en))))) (rg (mv rfl rfl (oP (pu_mul' ot (oT rfl) (by omega)) rfl (oP (pad (oT rfl) ot (by omega)) rfl (av rfl rfl (tn (nn (sq (sq (te (ec 0 rfl (ec 2 rfl (ec 3 rfl (ec 4 rfl (ec 10 rfl (ec 11 rfl en)))))) (rg (mv rfl rfl (mv rfl rfl (oP (pu_geq (oT rfl) (oT rfl)) rfl (tn (nn (tc (oT rfl) (fun c18 => ?_) (fun c18 => ?_))))))))))))))))))))
   · try simp only [cq] at c18
     have hfin : d1 = Sort.siftDown (ltc c) hi first lo d := by rw [← hr, sift_end (by omega)]
     refine tr_exit (tx (block_pass rfl (tx (bh ?_))))
     exact ret_none .normal (.inr rfl) rfl () (fun _ => trivial) trivial (by rw [← hfin]; exact pc 0 rfl pn)
   · try simp only [cq] at c18
     refine sk (nn (sq (sq (te (ec 0 rfl (ec 2 rfl (ec 3 rfl (ec 4 rfl (ec 10 rfl (ec 11 rfl en)))))) ?_))))
     apply tr_any (m := 19) (ns := [[(11, none)], [(19, some 0)], [(2, none)], [(20, some 1), (21, some 2)], [(22, some 3)], [(4, none), (23, some 4)], [(0, none), (23, some 4)], [(3, none), (23, some 4)], [(11, none), (23, some 4)], [(23, some 4), (26, some 7), (27, some 8)], [(23, some 4), (25, some 6), (28, some 9)], [(23, some 4), (29, some 10)], [(0, none), (23, some 4)], [(3, none), (23, some 4)], [(11, none), (23, some 4)], [(23, some 4), (32, some 13), (33, some 14)], [(23, some 4), (34, some 15)], [(23, some 4), (31, some 12), (35, some 16)], [(23, some 4), (36, some 17)]]) (by kernel_rfl) (by kernel_rfl) (Ts := [_, _, _, _, _, _, _, _, _, _, _, _, _, _, _, _, _, _, _]) rfl
     case hops =>
      refine ⟨?_, ?_, ?_, ?_, ?_, ?_, ?_, ?_, ?_, ?_, ?_, ?_, ?_, ?_, ?_, ?_, ?_, ?_, ?_, trivial⟩
      · exact rmv rfl
      · exact rP (pad (oT rfl) ot (by omega))
      · exact rmv rfl
      · exact rP (pu_lss (oT rfl) (oT rfl))
      · exact rmv rfl
      · exact rG rfl rfl rfl (gm (oT rfl)) (fun hg => by (have hg1 := hg.2; exact rmv rfl))
      · exact rG rfl rfl rfl (gm (oT rfl)) (fun hg => by (have hg1 := hg.2; exact rmv rfl))
      · exact rG rfl rfl rfl (gm (oT rfl)) (fun hg => by (have hg1 := hg.2; exact rmv rfl))
      · exact rG rfl rfl rfl (gm (oT rfl)) (fun hg => by (have hg1 := hg.2; exact rmv rfl))
      · exact rG rfl rfl rfl (gm (oT rfl)) (fun hg => by (have hg1 := hg.2; exact rP (pad (by exact gu (oT rfl) hg) (by exact gu (oT rfl) hg) (by omega))))
      · exact rG rfl rfl rfl (gm (oT rfl)) (fun hg => by (have hg1 := hg.2; exact rP (pio (by exact gu (oT rfl) hg) (by exact mA 0 rfl) (by exact gu (oT rfl) hg) Tryz.underlying36 y0 (by omega) (by omega))))
      · exact rG rfl rfl rfl (gm (oT rfl)) (fun hg => by (have hg1 := hg.2; exact rP (plo (by exact gu (oT rfl) hg) (by exact mA 0 rfl) (by omega) (by omega) y0)))
      · exact rG rfl rfl rfl (gm (oT rfl)) (fun hg => by (have hg1 := hg.2; exact rmv rfl))
      · exact rG rfl rfl rfl (gm (oT rfl)) (fun hg => by (have hg1 := hg.2; exact rmv rfl))
      · exact rG rfl rfl rfl (gm (oT rfl)) (fun hg => by (have hg1 := hg.2; exact rmv rfl))
      · exact rG rfl rfl rfl (gm (oT rfl)) (fun hg => by (have hg1 := hg.2; exact rP (pad (by exact gu (oT rfl) hg) (by exact gu (oT rfl) hg) (by omega))))
      · exact rG rfl rfl rfl (gm (oT rfl)) (fun hg => by (have hg1 := hg.2; exact rP (pad (by exact gu (oT rfl) hg) ot (by omega))))
      · exact rG rfl rfl rfl (gm (oT rfl)) (fun hg => by (have hg1 := hg.2; exact rP (pio (by exact gu (oT rfl) hg) (by exact mA 0 rfl) (by exact gu (oT rfl) hg) Tryz.underlying36 y0 (by omega) (by (simp [maxLen] at *; omega)))))
      · exact rG rfl rfl rfl (gm (oT rfl)) (fun hg => by (have hg1 := hg.2; exact rP (plo (by exact gu (oT rfl) hg) (by exact mA 0 rfl) (by omega) (by (simp [maxLen] at *; omega)) y0)))
     case h =>
      refine op_gu_acts () rfl rfl rfl (gm (oT rfl)) (fun hg => by (have hg1 := hg.2; (try simp only [cq2] at hg1); exact acts_callv (by exact gu (oT rfl) hg) (hfv _ _) (oc (by exact gu (oT rfl) hg) (oc (by exact gu (oT rfl) hg) oN)) pR)) rfl (fun _ _ => ?_)
      refine oG rfl rfl rfl (gm (oT rfl)) (fun hg => by (have hg1 := hg.2; (try simp only [cq2] at hg1); exact pu_lss (by exact gu (oT rfl) hg) ot)) rfl ?_
      refine oP (pu_pick_and (oT rfl) (oT rfl)) rfl (tn (nn (tc (oT rfl) (fun c40 => ?_) (fun c40 => ?_))))
      · try simp only [cq] at c40
        obtain ⟨ch, hch, hcl, hcr, hstep⟩ : ∃ ch : Nat, 2 * (root : Int) + 1 + 1 = ch ∧ ch < hi ∧ root < ch ∧ Sort.siftDown (ltc c) hi first root d1 = (if !ltc c d1[first + root]! d1[first + ch]! then d1 else Sort.siftDown (ltc c) hi first ch (Sort.swp d1 (first + root) (first + ch))) := ⟨2 * root + 2, by omega, by omega, by omega, sift_two (by omega) (by omega) (by rw [ltc_at (by omega) (by omega), show ((first + (2 * root + 1) : Nat) : Int) = (first : Int) + (2 * root + 1) from by omega, show ((first + (2 * root + 1) + 1 : Nat) : Int) = (first : Int) + (2 * root + 1) + 1 from by omega]; simpa using c40.2)⟩
        refine te (ec 0 rfl (ec 2 rfl (ec 3 rfl (ec 4 rfl (ec 10 rfl (ec 11 rfl en)))))) (rg (mv rfl rfl (oP (pad (oT rfl) ot (by omega)) rfl (av rfl rfl (tn (nn (sq (sq (te (ec 0 rfl (ec 2 rfl (ec 3 rfl (ec 4 rfl (ec 10 rfl (ec 11 rfl en)))))) ?_)))))))))
        rw [hch]
        apply tr_any (m := 13) (ns := [[(4, none)], [(0, none)], [(3, none)], [(10, none)], [(45, some 2), (46, some 3)], [(44, some 1), (47, some 4)], [(48, some 5)], [(0, none)], [(3, none)], [(11, none)], [(51, some 8), (52, some 9)], [(50, some 7), (53, some 10)], [(54, some 11)]]) (by kernel_rfl) (by kernel_rfl) (Ts := [_, _, _, _, _, _, _, _, _, _, _, _, _]) rfl
        case hops =>
         refine ⟨?_, ?_, ?_, ?_, ?_, ?_, ?_, ?_, ?_, ?_, ?_, ?_, ?_, trivial⟩
         · exact rmv rfl
         · exact rmv rfl
         · exact rmv rfl
         · exact rmv rfl
         · exact rP (pad (oT rfl) (oT rfl) (by omega))
         · exact rP (pio (oT rfl) (by exact mA 0 rfl) (oT rfl) Tryz.underlying36 y0 (by omega) (by omega))
         · exact rP (plo (oT rfl) (by exact mA 0 rfl) (by omega) (by omega) y0)
         · exact rmv rfl
         · exact rmv rfl
         · exact rmv rfl
         · exact rP (pad (oT rfl) (oT rfl) (by omega))
         · exact rP (pio (oT rfl) (by exact mA 0 rfl) (oT rfl) Tryz.underlying36 y0 (by omega) (by omega))
         · exact rP (plo (oT rfl) (by exact mA 0 rfl) (by omega) (by omega) y0)
        case h =>
         refine oA (acts_callv (oT rfl) (hfv _ _) (oc (oT rfl) (oc (oT rfl) oN)) pR) pR rfl rfl (fun _ _ => ?_)
         refine oP (pu_lss (oT rfl) ot) rfl (oP (pu_not (oT rfl)) rfl (tn (nn (tc (oT rfl) (fun c58 => ?_) (fun c58 => ?_)))))
         · try simp only [cq] at c58
           have hfin : d1 = Sort.siftDown (ltc c) hi first lo d := by
            rw [if_pos (by rw [ltc_at (by omega) (by omega), show ((first + root : Nat) : Int) = (first : Int) + root from by omega, show ((first + ch : Nat) : Int) = (first : Int) + ch from by omega]; simpa using c58)] at hstep
            exact hstep.symm.trans hr
           refine tR (tt (block_ret (tt (block_ret ?_))))
           exact ret_none .ret (.inl rfl) rfl () (fun _ => trivial) trivial (by rw [← hfin]; exact pc 0 rfl pn)
         · try simp only [cq] at c58
           have hnx : Sort.siftDown (ltc c) hi first ch (Sort.swp d1 (first + root) (first + ch)) = Sort.siftDown (ltc c) hi first lo d := by
            rw [if_neg (by rw [ltc_at (by omega) (by omega), show ((first + root : Nat) : Int) = (first : Int) + root from by omega, show ((first + ch : Nat) : Int) = (first : Int) + ch from by omega]; simpa using c58)] at hstep
            exact hstep.symm.trans hr
           have hsw : (Sort.swp d1 (first + root) (first + ch)).toList = (d1.toList.set ((first : Int) + root).toNat (at' d1.toList ((first : Int) + ch))).set ((first : Int) + ch).toNat (at' d1.toList ((first : Int) + root)) := by
            rw [swp_items (by omega) (by omega) (by omega) (by omega)]; congr 2
           refine sk (nn (sq (te (ec 0 rfl (ec 2 rfl (ec 3 rfl (ec 4 rfl (ec 10 rfl (ec 11 rfl en)))))) ?_)))
           apply tr_anyW (p := 21) (Lf := fun c => cond c ([OwnI 51 (kG Z) v (d1.toList.set ((first : Int) + root).toNat (at' d1.toList ((first : Int) + ch)))]) ([OwnI 51 (kG Z) v d1.toList])) (by kernel_rfl) (m := 22) (ns := [[(0, none)], [(3, none)], [(10, none)], [(60, some 1), (61, some 2)], [(0, none)], [(3, none)], [(11, none)], [(64, some 5), (65, some 6)], [(0, none)], [(3, none)], [(11, none)], [(68, some 9), (69, some 10)], [(67, some 8), (70, some 11)], [(71, some 12)], [(0, none)], [(3, none)], [(10, none)], [(74, some 15), (75, some 16)], [(73, some 14), (76, some 17)], [(77, some 18)], [(59, some 0), (62, some 3)], [(72, some 13), (79, some 20)]]) (by kernel_rfl) (by kernel_rfl) (Ts := [_, _, _, _, _, _, _, _, _, _, _, _, _, _, _, _, _, _, _, _, _, _]) rfl
           case hops =>
            refine ⟨?_, ?_, ?_, ?_, ?_, ?_, ?_, ?_, ?_, ?_, ?_, ?_, ?_, ?_, ?_, ?_, ?_, ?_, ?_, ?_, ?_, ?_, trivial⟩
            · exact cAf (by kernel_rfl) fun _ => rw_ (rmv rfl)
            · exact cAf (by kernel_rfl) fun _ => rw_ (rmv rfl)
            · exact cAf (by kernel_rfl) fun _ => rw_ (rmv rfl)
            · exact cAf (by kernel_rfl) fun _ => rw_ (rP (pad (oT rfl) (oT rfl) (by omega)))
            · intro c hc; cases c <;> exact rw_ (rmv rfl)
            · intro c hc; cases c <;> exact rw_ (rmv rfl)
            · intro c hc; cases c <;> exact rw_ (rmv rfl)
            · intro c hc; cases c <;> exact rw_ (rP (pad (oT rfl) (oT rfl) (by omega)))
            · exact cAf (by kernel_rfl) fun _ => rw_ (rmv rfl)
            · exact cAf (by kernel_rfl) fun _ => rw_ (rmv rfl)
            · exact cAf (by kernel_rfl) fun _ => rw_ (rmv rfl)
            · exact cAf (by kernel_rfl) fun _ => rw_ (rP (pad (oT rfl) (oT rfl) (by omega)))
            · exact cAf (by kernel_rfl) fun _ => rw_ (rP (pio (oT rfl) (by exact mA 0 rfl) (oT rfl) Tryz.underlying36 y0 (by omega) (by omega)))
            · exact cAf (by kernel_rfl) fun _ => rw_ (rP (plo (oT rfl) (by exact mA 0 rfl) (by omega) (by omega) y0))
            · exact cAf (by kernel_rfl) fun _ => rw_ (rmv rfl)
            · exact cAf (by kernel_rfl) fun _ => rw_ (rmv rfl)
            · exact cAf (by kernel_rfl) fun _ => rw_ (rmv rfl)
            · exact cAf (by kernel_rfl) fun _ => rw_ (rP (pad (oT rfl) (oT rfl) (by omega)))
            · exact cAf (by kernel_rfl) fun _ => rw_ (rP (pio (oT rfl) (by exact mA 0 rfl) (oT rfl) Tryz.underlying36 y0 (by omega) (by omega)))
            · exact cAf (by kernel_rfl) fun _ => rw_ (rP (plo (oT rfl) (by exact mA 0 rfl) (by omega) (by omega) y0))
            · exact cAf (by kernel_rfl) fun _ => rw_ (rP (pio (oT rfl) (by exact mA 0 rfl) (oT rfl) Tryz.underlying36 y0 (by omega) (by omega)))
            · exact cAf (by kernel_rfl) fun _ => ropw_acts rfl (acts_store_own0 (oT rfl) (oT rfl) (by exact pA 0 rfl) (by omega) (by omega) y0) (by exact pA 0 rfl) (fun _ => (by exact pA 0 rfl)) (fun _ _ _ _ h => h)
           case h =>
            refine oP (pio (oT rfl) (by exact mA 0 rfl) (oT rfl) Tryz.underlying36 y0 (by omega) (by (simp; omega))) rfl ?_
            refine oA (acts_store_own0 (oT rfl) (oT rfl) (by exact pA 0 rfl) (by omega) (by (simp; omega)) y0) (by exact pA 0 rfl) rfl rfl (fun _ _ => ?_)
            refine tn (nn (te (ec 0 rfl (ec 2 rfl (ec 3 rfl (ec 4 rfl (ec 11 rfl en))))) (rg (mv rfl rfl (av rfl rfl (tn (bn (nn ?_))))))))
            exact tg (ch, Sort.swp d1 (first + root) (first + ch)) ⟨by show ch ≤ hi; omega, swp_size.trans hs1, hnx⟩ (by show hi - ch < hi - root; omega) (ea (ec 10 rfl en) (ec 0 rfl (ec 2 rfl (ec 3 rfl (ec 4 rfl en))))) (op (by rw [hsw]; exact (by repeat first | exact pn | refine pc 0 rfl ?_)))
      · try simp only [cq] at c40
        obtain ⟨ch, hch, hcl, hcr, hstep⟩ : ∃ ch : Nat, 2 * (root : Int) + 1 = ch ∧ ch < hi ∧ root < ch ∧ Sort.siftDown (ltc c) hi first root d1 = (if !ltc c d1[first + root]! d1[first + ch]! then d1 else Sort.siftDown (ltc c) hi first ch (Sort.swp d1 (first + root) (first + ch))) := ⟨2 * root + 1, by omega, by omega, by omega, sift_one (by omega) (fun h8 => by rw [ltc_at (by omega) (by omega), show ((first + (2 * root + 1) : Nat) : Int) = (first : Int) + (2 * root + 1) from by omega, show ((first + (2 * root + 1) + 1 : Nat) : Int) = (first : Int) + (2 * root + 1) + 1 from by omega]; rcases c40 with h9 | h9; omega; simpa using h9)⟩
        refine sk (nn (sq (sq (te (ec 0 rfl (ec 2 rfl (ec 3 rfl (ec 4 rfl (ec 10 rfl (ec 11 rfl en)))))) ?_))))
        rw [hch]
        apply tr_any (m := 13) (ns := [[(4, none)], [(0, none)], [(3, none)], [(10, none)], [(45, some 2), (46, some 3)], [(44, some 1), (47, some 4)], [(48, some 5)], [(0, none)], [(3, none)], [(11, none)], [(51, some 8), (52, some 9)], [(50, some 7), (53, some 10)], [(54, some 11)]]) (by kernel_rfl) (by kernel_rfl) (Ts := [_, _, _, _, _, _, _, _, _, _, _, _, _]) rfl
        case hops =>
         refine ⟨?_, ?_, ?_, ?_, ?_, ?_, ?_, ?_, ?_, ?_, ?_, ?_, ?_, trivial⟩
         · exact rmv rfl
         · exact rmv rfl
         · exact rmv rfl
         · exact rmv rfl
         · exact rP (pad (oT rfl) (oT rfl) (by omega))
         · exact rP (pio (oT rfl) (by exact mA 0 rfl) (oT rfl) Tryz.underlying36 y0 (by omega) (by omega))
         · exact rP (plo (oT rfl) (by exact mA 0 rfl) (by omega) (by omega) y0)
         · exact rmv rfl
         · exact rmv rfl
         · exact rmv rfl
         · exact rP (pad (oT rfl) (oT rfl) (by omega))
         · exact rP (pio (oT rfl) (by exact mA 0 rfl) (oT rfl) Tryz.underlying36 y0 (by omega) (by omega))
         · exact rP (plo (oT rfl) (by exact mA 0 rfl) (by omega) (by omega) y0)
        case h =>
         refine oA (acts_callv (oT rfl) (hfv _ _) (oc (oT rfl) (oc (oT rfl) oN)) pR) pR rfl rfl (fun _ _ => ?_)
         refine oP (pu_lss (oT rfl) ot) rfl (oP (pu_not (oT rfl)) rfl (tn (nn (tc (oT rfl) (fun c58 => ?_) (fun c58 => ?_)))))
         · try simp only [cq] at c58
           have hfin : d1 = Sort.siftDown (ltc c) hi first lo d := by
            rw [if_pos (by rw [ltc_at (by omega) (by omega), show ((first + root : Nat) : Int) = (first : Int) + root from by omega, show ((first + ch : Nat) : Int) = (first : Int) + ch from by omega]; simpa using c58)] at hstep
            exact hstep.symm.trans hr
           refine tR (tt (block_ret (tt (block_ret ?_))))
           exact ret_none .ret (.inl rfl) rfl () (fun _ => trivial) trivial (by rw [← hfin]; exact pc 0 rfl pn)
         · try simp only [cq] at c58
           have hnx : Sort.siftDown (ltc c) hi first ch (Sort.swp d1 (first + root) (first + ch)) = Sort.siftDown (ltc c) hi first lo d := by
            rw [if_neg (by rw [ltc_at (by omega) (by omega), show ((first + root : Nat) : Int) = (first : Int) + root from by omega, show ((first + ch : Nat) : Int) = (first : Int) + ch from by omega]; simpa using c58)] at hstep
            exact hstep.symm.trans hr
           have hsw : (Sort.swp d1 (first + root) (first + ch)).toList = (d1.toList.set ((first : Int) + root).toNat (at' d1.toList ((first : Int) + ch))).set ((first : Int) + ch).toNat (at' d1.toList ((first : Int) + root)) := by
            rw [swp_items (by omega) (by omega) (by omega) (by omega)]; congr 2
           refine sk (nn (sq (te (ec 0 rfl (ec 2 rfl (ec 3 rfl (ec 4 rfl (ec 10 rfl (ec 11 rfl en)))))) ?_)))
           apply tr_anyW (p := 21) (Lf := fun c => cond c ([OwnI 51 (kG Z) v (d1.toList.set ((first : Int) + root).toNat (at' d1.toList ((first : Int) + ch)))]) ([OwnI 51 (kG Z) v d1.toList])) (by kernel_rfl) (m := 22) (ns := [[(0, none)], [(3, none)], [(10, none)], [(60, some 1), (61, some 2)], [(0, none)], [(3, none)], [(11, none)], [(64, some 5), (65, some 6)], [(0, none)], [(3, none)], [(11, none)], [(68, some 9), (69, some 10)], [(67, some 8), (70, some 11)], [(71, some 12)], [(0, none)], [(3, none)], [(10, none)], [(74, some 15), (75, some 16)], [(73, some 14), (76, some 17)], [(77, some 18)], [(59, some 0), (62, some 3)], [(72, some 13), (79, some 20)]]) (by kernel_rfl) (by kernel_rfl) (Ts := [_, _, _, _, _, _, _, _, _, _, _, _, _, _, _, _, _, _, _, _, _, _]) rfl
           case hops =>
            refine ⟨?_, ?_, ?_, ?_, ?_, ?_, ?_, ?_, ?_, ?_, ?_, ?_, ?_, ?_, ?_, ?_, ?_, ?_, ?_, ?_, ?_, ?_, trivial⟩
            · exact cAf (by kernel_rfl) fun _ => rw_ (rmv rfl)
            · exact cAf (by kernel_rfl) fun _ => rw_ (rmv rfl)
            · exact cAf (by kernel_rfl) fun _ => rw_ (rmv rfl)
            · exact cAf (by kernel_rfl) fun _ => rw_ (rP (pad (oT rfl) (oT rfl) (by omega)))
            · intro c hc; cases c <;> exact rw_ (rmv rfl)
            · intro c hc; cases c <;> exact rw_ (rmv rfl)
            · intro c hc; cases c <;> exact rw_ (rmv rfl)
            · intro c hc; cases c <;> exact rw_ (rP (pad (oT rfl) (oT rfl) (by omega)))
            · exact cAf (by kernel_rfl) fun _ => rw_ (rmv rfl)
            · exact cAf (by kernel_rfl) fun _ => rw_ (rmv rfl)
            · exact cAf (by kernel_rfl) fun _ => rw_ (rmv rfl)
            · exact cAf (by kernel_rfl) fun _ => rw_ (rP (pad (oT rfl) (oT rfl) (by omega)))
            · exact cAf (by kernel_rfl) fun _ => rw_ (rP (pio (oT rfl) (by exact mA 0 rfl) (oT rfl) Tryz.underlying36 y0 (by omega) (by omega)))
            · exact cAf (by kernel_rfl) fun _ => rw_ (rP (plo (oT rfl) (by exact mA 0 rfl) (by omega) (by omega) y0))
            · exact cAf (by kernel_rfl) fun _ => rw_ (rmv rfl)
            · exact cAf (by kernel_rfl) fun _ => rw_ (rmv rfl)
            · exact cAf (by kernel_rfl) fun _ => rw_ (rmv rfl)
            · exact cAf (by kernel_rfl) fun _ => rw_ (rP (pad (oT rfl) (oT rfl) (by omega)))
            · exact cAf (by kernel_rfl) fun _ => rw_ (rP (pio (oT rfl) (by exact mA 0 rfl) (oT rfl) Tryz.underlying36 y0 (by omega) (by omega)))
            · exact cAf (by kernel_rfl) fun _ => rw_ (rP (plo (oT rfl) (by exact mA 0 rfl) (by omega) (by omega) y0))
            · exact cAf (by kernel_rfl) fun _ => rw_ (rP (pio (oT rfl) (by exact mA 0 rfl) (oT rfl) Tryz.underlying36 y0 (by omega) (by omega)))
            · exact cAf (by kernel_rfl) fun _ => ropw_acts rfl (acts_store_own0 (oT rfl) (oT rfl) (by exact pA 0 rfl) (by omega) (by omega) y0) (by exact pA 0 rfl) (fun _ => (by exact pA 0 rfl)) (fun _ _ _ _ h => h)
           case h =>
            refine oP (pio (oT rfl) (by exact mA 0 rfl) (oT rfl) Tryz.underlying36 y0 (by omega) (by (simp; omega))) rfl ?_
            refine oA (acts_store_own0 (oT rfl) (oT rfl) (by exact pA 0 rfl) (by omega) (by (simp; omega)) y0) (by exact pA 0 rfl) rfl rfl (fun _ _ => ?_)
            refine tn (nn (te (ec 0 rfl (ec 2 rfl (ec 3 rfl (ec 4 rfl (ec 11 rfl en))))) (rg (mv rfl rfl (av rfl rfl (tn (bn (nn ?_))))))))
            exact tg (ch, Sort.swp d1 (first + root) (first + ch)) ⟨by show ch ≤ hi; omega, swp_size.trans hs1, hnx⟩ (by show hi - ch < hi - root; omega) (ea (ec 10 rfl en) (ec 0 rfl (ec 2 rfl (ec 3 rfl (ec 4 rfl en))))) (op (by rw [hsw]; exact (by repeat first | exact pn | refine pc 0 rfl ?_)))
set_option maxHeartbeats 1000000 in
set_option maxRecDepth 20000 in
/-- slices.heapSortCmpFunc[rhizome/api.Tuple] -/
theorem heap_fn (v fv : Value) (d : DA) (a b : Nat) (c : List Int → List Int → Int) (hm : d.size < 4611686018427387904) (hab : a < b) (hb : b ≤ d.size) (hfv : ∀ x y, CtV Tryz.prog fv [(kG Z).T x, (kG Z).T y] [] Unit (fun _ => I64 (c x y)) (fun _ => []) (fun _ => True)) : Ct Tryz.prog 119 [IsV v, I64 (a : Int), I64 (b : Int), IsV fv] ([OwnI 51 (kG Z) v d.toList]) Unit (fun _ => AnyT) (fun _ => [OwnI 51 (kG Z) v (Sort.heapSort (ltc c) d a b).toList]) (fun _ => True) := by
 refine fn_intro Tryz.func119 rfl rfl ?_
 intro H w
 refine sq (te (ec 0 rfl (ec 1 rfl (ec 2 rfl (ec 3 rfl en)))) (rg (mv rfl rfl (av rfl rfl (tn (nn (sq (te (ec 0 rfl (ec 1 rfl (ec 2 rfl (ec 3 rfl (ec 8 rfl en))))) (rg (ak rfl (tn (nn (sq (te (ec 0 rfl (ec 1 rfl (ec 2 rfl (ec 3 rfl (ec 8 rfl (ec 9 rfl en)))))) (rg (mv rfl rfl (mv rfl rfl (oP (pu_sub' (oT rfl) (oT rfl) (by omega)) rfl (av rfl rfl (tn (nn (sq (sq ?_)))))))))))))))))))))))
 refine te (ec 0 rfl (ec 3 rfl (ec 8 rfl (ec 9 rfl (ec 10 rfl en))))) ?_
 rw [show (b : Int) - a = ((b - a : Nat) : Int) from by omega]
 obtain ⟨n, hn⟩ : ∃ n : Nat, b - a = n := ⟨_, rfl⟩
 rw [hn]
 refine rg (mv rfl rfl (oP (pu_sub' (oT rfl) ot (by omega)) rfl (oP (pu_quo' (oT rfl) ot (by omega) (by omega)) rfl (av rfl rfl (tn (nn (tb (tr_loopK (σ := Nat × DA) (ec 0 rfl (ec 3 rfl (ec 8 rfl (ec 9 rfl (ec 10 rfl en))))) (fun s => [(11, I64 ((s.1 : Int) - 1))]) (fun s => [OwnI 51 (kG Z) v s.2.toList]) (fun s => s.1 ≤ n ∧ s.2.size = d.size ∧ Sort.heapBuild (ltc c) n a s.1 s.2 = Sort.heapBuild (ltc c) n a ((n - 1) / 2 + 1) d) (fun s => s.1) ((n - 1) / 2 + 1, d) ⟨by show (n - 1) / 2 + 1 ≤ n; omega, rfl, rfl⟩ ?_ (op (by repeat first | exact pn | refine pc 0 rfl ?_)) ?_))))))))
 · exact (es_cons (t := 11) (by exact OT.val (oT rfl) (congrArg (Value.int _) (by omega))) en)
 · rintro ⟨k, d1⟩ ⟨hk, hs1, hr⟩
   dsimp only at hk hs1 hr ⊢
   have hl1 : d1.toList.length = d1.size := Array.length_toList
   refine sq (sq (te (ec 0 rfl (ec 3 rfl (ec 8 rfl (ec 9 rfl (ec 10 rfl (ec 11 rfl en)))))) (rg (mv rfl rfl (oP (pu_geq (oT rfl) ot) rfl (tn (nn (tc (oT rfl) (fun c21 => ?_) (fun c21 => ?_)))))))))
   · try simp only [cq] at c21
     obtain ⟨k, rfl⟩ : ∃ k', k = k' + 1 := ⟨k - 1, by omega⟩
     rw [show ((k + 1 : Nat) : Int) - 1 = (k : Int) from by omega]
     refine sk (nn (sq (tb (te (ec 0 rfl (ec 3 rfl (ec 8 rfl (ec 9 rfl (ec 10 rfl (ec 11 rfl en)))))) (rg (mv rfl rfl (mv rfl rfl (mv rfl rfl (mv rfl rfl (mv rfl rfl (oA (aC (sift_fn v fv d1 k n a c (by omega) (by omega) (by omega) hfv) y1 (oc (oT rfl) (oc (oT rfl) (oc (oT rfl) (oc (oT rfl) (oc (oT rfl) oN))))) (by exact pA 0 rfl)) (by exact pA 0 rfl) rfl rfl (fun _ _ => ?_))))))))))))
     refine tn (bn (nn (te (ec 0 rfl (ec 3 rfl (ec 8 rfl (ec 9 rfl (ec 10 rfl (ec 11 rfl en)))))) (rg (mv rfl rfl (oP (pu_sub' (oT rfl) ot (by omega)) rfl (av rfl rfl (tn (nn ?_)))))))))
     exact tg (k, Sort.siftDown (ltc c) n a k d1) ⟨by show k ≤ n; omega, (sift_size _ _ _ _).trans hs1, hr⟩ (by omega) (ea (ec 11 rfl en) (ec 0 rfl (ec 3 rfl (ec 8 rfl (ec 9 rfl (ec 10 rfl en)))))) (op (by repeat first | exact pn | refine pc 0 rfl ?_))
   · try simp only [cq] at c21
     obtain rfl : k = 0 := by omega
     refine tr_exit (tx (tx (bh (nn (sq (te (ec 0 rfl (ec 3 rfl (ec 8 rfl (ec 9 rfl (ec 10 rfl en))))) (rg (mv rfl rfl (oP (pu_sub' (oT rfl) ot (by omega)) rfl (av rfl rfl (tn (nn (tb (tr_loopK (σ := Nat × DA) (ec 0 rfl (ec 3 rfl (ec 8 rfl (ec 9 rfl en)))) (fun s => [(12, I64 ((s.1 : Int) - 1))]) (fun s => [OwnI 51 (kG Z) v s.2.toList]) (fun s => s.1 ≤ n ∧ s.2.size = d.size ∧ Sort.heapPop (ltc c) a s.1 s.2 = Sort.heapSort (ltc c) d a b) (fun s => s.1) (n, d1) ⟨Nat.le_refl _, hs1, by show Sort.heapPop (ltc c) a n d1 = _; rw [heap_eq hab, hn, ← hr]; rfl⟩ ?_ (op (by repeat first | exact pn | refine pc 0 rfl ?_)) ?_))))))))))))))
     · exact (ec 12 rfl en)
     · rintro ⟨k2, d2⟩ ⟨hk2, hs2, hr2⟩
       dsimp only at hk2 hs2 hr2 ⊢
       have hl2 : d2.toList.length = d2.size := Array.length_toList
       refine sq (sq (te (ec 0 rfl (ec 3 rfl (ec 8 rfl (ec 9 rfl (ec 12 rfl en))))) (rg (mv rfl rfl (oP (pu_geq (oT rfl) ot) rfl (tn (nn (tc (oT rfl) (fun c33 => ?_) (fun c33 => ?_)))))))))
       · try simp only [cq] at c33
         obtain ⟨k2, rfl⟩ : ∃ k', k2 = k' + 1 := ⟨k2 - 1, by omega⟩
         rw [show ((k2 + 1 : Nat) : Int) - 1 = (k2 : Int) from by omega]
         have hsw : (Sort.swp d2 a (a + k2)).toList = (d2.toList.set (a : Int).toNat (at' d2.toList ((a : Int) + k2))).set ((a : Int) + k2).toNat (at' d2.toList (a : Int)) := by
          rw [swp_items (by omega) (by omega) (by omega) (by omega)]; congr 2
         refine sk (nn (sq (tb (sq (te (ec 0 rfl (ec 3 rfl (ec 8 rfl (ec 9 rfl (ec 12 rfl en))))) ?_)))))
         apply tr_anyW (p := 17) (Lf := fun c => cond c ([OwnI 51 (kG Z) v (d2.toList.set (a : Int).toNat (at' d2.toList ((a : Int) + k2)))]) ([OwnI 51 (kG Z) v d2.toList])) (by kernel_rfl) (m := 18) (ns := [[(0, none)], [(8, none)], [(0, none)], [(8, none)], [(12, none)], [(39, some 3), (40, some 4)], [(0, none)], [(8, none)], [(12, none)], [(43, some 7), (44, some 8)], [(42, some 6), (45, some 9)], [(46, some 10)], [(0, none)], [(8, none)], [(48, some 12), (49, some 13)], [(50, some 14)], [(36, some 0), (37, some 1)], [(47, some 11), (52, some 16)]]) (by kernel_rfl) (by kernel_rfl) (Ts := [_, _, _, _, _, _, _, _, _, _, _, _, _, _, _, _, _, _]) rfl
         case hops =>
          refine ⟨?_, ?_, ?_, ?_, ?_, ?_, ?_, ?_, ?_, ?_, ?_, ?_, ?_, ?_, ?_, ?_, ?_, ?_, trivial⟩
          · exact cAf (by kernel_rfl) fun _ => rw_ (rmv rfl)
          · exact cAf (by kernel_rfl) fun _ => rw_ (rmv rfl)
          · intro c hc; cases c <;> exact rw_ (rmv rfl)
          · intro c hc; cases c <;> exact rw_ (rmv rfl)
          · intro c hc; cases c <;> exact rw_ (rmv rfl)
          · intro c hc; cases c <;> exact rw_ (rP (pad (oT rfl) (oT rfl) (by omega)))
          · exact cAf (by kernel_rfl) fun _ => rw_ (rmv rfl)
          · exact cAf (by kernel_rfl) fun _ => rw_ (rmv rfl)
          · exact cAf (by kernel_rfl) fun _ => rw_ (rmv rfl)
          · exact cAf (by kernel_rfl) fun _ => rw_ (rP (pad (oT rfl) (oT rfl) (by omega)))
          · exact cAf (by kernel_rfl) fun _ => rw_ (rP (pio (oT rfl) (by exact mA 0 rfl) (oT rfl) Tryz.underlying36 y0 (by omega) (by omega)))
          · exact cAf (by kernel_rfl) fun _ => rw_ (rP (plo (oT rfl) (by exact mA 0 rfl) (by omega) (by omega) y0))
          · exact cAf (by kernel_rfl) fun _ => rw_ (rmv rfl)
          · exact cAf (by kernel_rfl) fun _ => rw_ (rmv rfl)
          · exact cAf (by kernel_rfl) fun _ => rw_ (rP (pio (oT rfl) (by exact mA 0 rfl) (oT rfl) Tryz.underlying36 y0 (by omega) (by omega)))
          · exact cAf (by kernel_rfl) fun _ => rw_ (rP (plo (oT rfl) (by exact mA 0 rfl) (by omega) (by omega) y0))
          · exact cAf (by kernel_rfl) fun _ => rw_ (rP (pio (oT rfl) (by exact mA 0 rfl) (oT rfl) Tryz.underlying36 y0 (by omega) (by omega)))
          · exact cAf (by kernel_rfl) fun _ => ropw_acts rfl (acts_store_own0 (oT rfl) (oT rfl) (by exact pA 0 rfl) (by omega) (by omega) y0) (by exact pA 0 rfl) (fun _ => (by exact pA 0 rfl)) (fun _ _ _ _ h => h)
         case h =>
          refine oP (pio (oT rfl) (by exact mA 0 rfl) (oT rfl) Tryz.underlying36 y0 (by omega) (by (simp; omega))) rfl ?_
          refine oA (acts_store_own0 (oT rfl) (oT rfl) (by exact pA 0 rfl) (by omega) (by (simp; omega)) y0) (by exact pA 0 rfl) rfl rfl (fun _ _ => ?_)
          refine tn (nn (te (ec 0 rfl (ec 3 rfl (ec 8 rfl (ec 9 rfl (ec 12 rfl en))))) ?_))
          rw [← hsw]
          refine rg (mv rfl rfl (mv rfl rfl (mv rfl rfl (mv rfl rfl (mv rfl rfl (oA (aC (sift_fn v fv (Sort.swp d2 a (a + k2)) 0 k2 a c (by rw [swp_size]; omega) (by rw [swp_size]; omega) (by omega) hfv) y1 (oc (oT rfl) (oc (oT rfl) (oc (oT rfl) (oc (oT rfl) (oc (oT rfl) oN))))) (by exact pA 0 rfl)) (by exact pA 0 rfl) rfl rfl (fun _ _ => ?_)))))))
          refine tn (bn (nn (te (ec 0 rfl (ec 3 rfl (ec 8 rfl (ec 9 rfl (ec 12 rfl en))))) (rg (mv rfl rfl (oP (pu_sub' (oT rfl) ot (by omega)) rfl (av rfl rfl (tn (nn ?_)))))))))
          exact tg (k2, Sort.siftDown (ltc c) k2 a 0 (Sort.swp d2 a (a + k2))) ⟨by show k2 ≤ n; omega, (sift_size _ _ _ _).trans (swp_size.trans hs2), hr2⟩ (by omega) (ea (ec 12 rfl en) (ec 0 rfl (ec 3 rfl (ec 8 rfl (ec 9 rfl en))))) (op (by repeat first | exact pn | refine pc 0 rfl ?_))
       · try simp only [cq] at c33
         obtain rfl : k2 = 0 := by omega
         have hfin : d2 = Sort.heapSort (ltc c) d a b := hr2
         refine tr_exit (tx (tx (bh ?_)))
         exact ret_none .normal (.inr rfl) rfl () (fun _ => trivial) trivial (by rw [← hfin]; exact pc 0 rfl pn)
end Go.Proofs.YtklhdalppmjnaaaGreatDoor
/- Walks through the Go functions api.Tuple], api.Tuple], api.Tuple], api.Tuple], as typed contracts. -/
namespace Go.Proofs.YtklhdalppmjnaaaGreatDoor
open Go Go.Gw Go.So
set_option linter.unusedVariables false
set_option linter.unusedSimpArgs false
variable {Z : SlTy}
abbrev kJ : Kd Int := kint .i64
theorem zz3 : ZeroOf Tryz.prog 3 kJ 0 := ⟨.int .i64 0, by kernel_rfl, fun H => rfl⟩

set_option maxHeartbeats 1000000 in
set_option maxRecDepth 20000 in
/-- slices.order2CmpFunc[rhizome/api.Tuple] -/
theorem order2_fn (v fv : Value) (d : DA) (a b g : Nat) (n : Int) (c : List Int → List Int → Int) (ha : a < d.size) (hb : b < d.size) (hfv : ∀ x y, CtV Tryz.prog fv [(kG Z).T x, (kG Z).T y] [] Unit (fun _ => I64 (c x y)) (fun _ => []) (fun _ => True)) : Ct Tryz.prog 154 [IsV v, I64 (a : Int), I64 (b : Int), IsV (pt g 0), IsV fv] ([OwnI 51 (kG Z) v d.toList, BlkI g 3 kJ n]) (Nat × Nat × Int) (fun r => TupT [I64 (r.1 : Int), I64 (r.2.1 : Int)]) (fun r => [OwnI 51 (kG Z) v d.toList, BlkI g 3 kJ r.2.2]) (fun r => (r.1 = a ∧ r.2.1 = b) ∨ (r.1 = b ∧ r.2.1 = a)) := by
 refine fn_intro Tryz.func154 rfl rfl ?_
 intro H w
 have hl1 : d.toList.length = d.size := Array.length_toList
 refine sq (te (ec 0 rfl (ec 1 rfl (ec 2 rfl (ec 3 rfl (ec 4 rfl en))))) (rg (ak rfl (ak rfl (tn (nn (sq (sq (te (ec 0 rfl (ec 1 rfl (ec 2 rfl (ec 3 rfl (ec 4 rfl en))))) ?_)))))))))
 apply tr_any (m := 9) (ns := [[(4, none)], [(0, none)], [(2, none)], [(13, some 1), (14, some 2)], [(15, some 3)], [(0, none)], [(1, none)], [(17, some 5), (18, some 6)], [(19, some 7)]]) (by kernel_rfl) (by kernel_rfl) (Ts := [_, _, _, _, _, _, _, _, _]) rfl
 case hops =>
  refine ⟨?_, ?_, ?_, ?_, ?_, ?_, ?_, ?_, ?_, trivial⟩
  · exact rmv rfl
  · exact rmv rfl
  · exact rmv rfl
  · exact rP (pio (oT rfl) (by exact mA 0 rfl) (oT rfl) Tryz.underlying36 y0 (by omega) (by omega))
  · exact rP (plo (oT rfl) (by exact mA 0 rfl) (by omega) (by omega) y0)
  · exact rmv rfl
  · exact rmv rfl
  · exact rP (pio (oT rfl) (by exact mA 0 rfl) (oT rfl) Tryz.underlying36 y0 (by omega) (by omega))
  · exact rP (plo (oT rfl) (by exact mA 0 rfl) (by omega) (by omega) y0)
 case h =>
  refine oA (acts_callv (oT rfl) (hfv _ _) (oc (oT rfl) (oc (oT rfl) oN)) pR) pR rfl rfl (fun _ _ => ?_)
  refine oP (pu_lss (oT rfl) ot) rfl (tn (nn (tc (oT rfl) (fun c22 => ?_) (fun c22 => ?_))))
  · try simp only [cq] at c22
    refine sq (te (ec 1 rfl (ec 2 rfl (ec 3 rfl en))) (rg (mv rfl rfl (oP (pu_nilCheck (oT rfl)) rfl (oP (plv (oT rfl) (by exact mA 1 rfl) y2) rfl ?_)))))
    refine oP (pu_add (oT rfl) ot) rfl (oP (pu_nilCheck (oT rfl)) rfl (oA (asv (oT rfl) (oT rfl) (by exact pA 1 rfl) y2) (by exact pA 1 rfl) rfl rfl (fun _ _ => ?_)))
    refine tn (nn (sq (te (ec 1 rfl (ec 2 rfl en)) (rg (mv rfl rfl (mv rfl rfl (av rfl rfl (av rfl rfl (tn (nn (tR (tt ?_))))))))))))
    exact ret_two .ret (.inl rfl) rfl (b, a, IntKind.i64.wrap (n + 1)) (oT rfl) (oT rfl) (fun _ _ h => h) (.inr ⟨rfl, rfl⟩) (by repeat first | exact pn | refine pc 0 rfl ?_ | refine pc 1 rfl ?_)
  · try simp only [cq] at c22
    refine sk (nn (sq (te (ec 1 rfl (ec 2 rfl en)) (rg (mv rfl rfl (mv rfl rfl (av rfl rfl (av rfl rfl (tn (nn (tR ?_)))))))))))
    exact ret_two .ret (.inl rfl) rfl (a, b, n) (oT rfl) (oT rfl) (fun _ _ h => h) (.inl ⟨rfl, rfl⟩) (by repeat first | exact pn | refine pc 0 rfl ?_)
set_option maxHeartbeats 1000000 in
set_option maxRecDepth 20000 in
/-- slices.medianCmpFunc[rhizome/api.Tuple] -/
theorem median_fn (v fv : Value) (d : DA) (a b e g : Nat) (n : Int) (c : List Int → List Int → Int) (ha : a < d.size) (hb : b < d.size) (he : e < d.size) (hfv : ∀ x y, CtV Tryz.prog fv [(kG Z).T x, (kG Z).T y] [] Unit (fun _ => I64 (c x y)) (fun _ => []) (fun _ => True)) : Ct Tryz.prog 147 [IsV v, I64 (a : Int), I64 (b : Int), I64 (e : Int), IsV (pt g 0), IsV fv] ([OwnI 51 (kG Z) v d.toList, BlkI g 3 kJ n]) (Nat × Int) (fun r => I64 (r.1 : Int)) (fun r => [OwnI 51 (kG Z) v d.toList, BlkI g 3 kJ r.2]) (fun r => r.1 = a ∨ r.1 = b ∨ r.1 = e) := by
 refine fn_intro Tryz.func147 rfl rfl ?_
 intro H w
 refine sq (te (ec 0 rfl (ec 1 rfl (ec 2 rfl (ec 3 rfl (ec 4 rfl (ec 5 rfl en)))))) (rg (ak rfl (tn (nn (sq (te (ec 0 rfl (ec 1 rfl (ec 2 rfl (ec 3 rfl (ec 4 rfl (ec 5 rfl en)))))) (rg (mv rfl rfl (mv rfl rfl (mv rfl rfl (mv rfl rfl (mv rfl rfl (oA (aC (order2_fn v fv d a b g n c ha hb hfv) y3 (oc (oT rfl) (oc (oT rfl) (oc (oT rfl) (oc (oT rfl) (oc (oT rfl) oN))))) (List.Perm.trans (by exact pA 0 rfl) (List.Perm.cons _ (by exact pA 0 rfl)))) (List.Perm.trans (by exact pA 0 rfl) (List.Perm.cons _ (by exact pA 0 rfl))) rfl rfl (fun ⟨x1_5, y1_5, m1_5⟩ hp1_5 => ?_)))))))))))))))
 refine mv rfl rfl (oP (pu_extract (oT rfl) rfl) rfl (oP (pu_extract (oT rfl) rfl) rfl (av rfl rfl (av rfl rfl (tn (nn (sq (te (ec 0 rfl (ec 1 rfl (ec 2 rfl (ec 3 rfl (ec 4 rfl (ec 5 rfl en)))))) ?_))))))))
 dsimp only at hp1_5 ⊢
 have hx1 : x1_5 < d.size := by omega
 have hy1 : y1_5 < d.size := by omega
 refine rg (mv rfl rfl (mv rfl rfl (mv rfl rfl (mv rfl rfl (mv rfl rfl (oA (aC (order2_fn v fv d y1_5 e g m1_5 c hy1 he hfv) y3 (oc (oT rfl) (oc (oT rfl) (oc (oT rfl) (oc (oT rfl) (oc (oT rfl) oN))))) (List.Perm.trans (by exact pA 0 rfl) (List.Perm.cons _ (by exact pA 0 rfl)))) (List.Perm.trans (by exact pA 0 rfl) (List.Perm.cons _ (by exact pA 0 rfl))) rfl rfl (fun ⟨x2_5, y2_5, m2_5⟩ hp2_5 => ?_)))))))
 refine mv rfl rfl (oP (pu_extract (oT rfl) rfl) rfl (oP (pu_extract (oT rfl) rfl) rfl (av rfl rfl (av rfl rfl (tn (nn (sq (te (ec 0 rfl (ec 1 rfl (ec 2 rfl (ec 4 rfl (ec 5 rfl en))))) ?_))))))))
 dsimp only at hp2_5 ⊢
 have hx2 : x2_5 < d.size := by omega
 have hy2 : y2_5 < d.size := by omega
 refine rg (mv rfl rfl (mv rfl rfl (mv rfl rfl (mv rfl rfl (mv rfl rfl (oA (aC (order2_fn v fv d x1_5 x2_5 g m2_5 c hx1 hx2 hfv) y3 (oc (oT rfl) (oc (oT rfl) (oc (oT rfl) (oc (oT rfl) (oc (oT rfl) oN))))) (List.Perm.trans (by exact pA 0 rfl) (List.Perm.cons _ (by exact pA 0 rfl)))) (List.Perm.trans (by exact pA 0 rfl) (List.Perm.cons _ (by exact pA 0 rfl))) rfl rfl (fun ⟨x3_5, y3_5, m3_5⟩ hp3_5 => ?_)))))))
 refine mv rfl rfl (oP (pu_extract (oT rfl) rfl) rfl (oP (pu_extract (oT rfl) rfl) rfl (av rfl rfl (av rfl rfl (tn (nn (sq (te (ec 2 rfl en) (rg (mv rfl rfl (av rfl rfl (tn (nn (tR ?_))))))))))))))
 exact ret_one .ret (.inl rfl) rfl (y3_5, m3_5) (oT rfl) (by dsimp only at hp3_5 ⊢; omega) (by repeat first | exact pn | refine pc 0 rfl ?_)
set_option maxHeartbeats 1000000 in
set_option maxRecDepth 20000 in
/-- slices.medianAdjacentCmpFunc[rhizome/api.Tuple] -/
theorem medadj_fn (v fv : Value) (d : DA) (a g : Nat) (n : Int) (c : List Int → List Int → Int) (ha : 0 < a) (hb : a + 1 < d.size) (hm : d.size < 4611686018427387904) (hfv : ∀ x y, CtV Tryz.prog fv [(kG Z).T x, (kG Z).T y] [] Unit (fun _ => I64 (c x y)) (fun _ => []) (fun _ => True)) : Ct Tryz.prog 146 [IsV v, I64 (a : Int), IsV (pt g 0), IsV fv] ([OwnI 51 (kG Z) v d.toList, BlkI g 3 kJ n]) (Nat × Int) (fun r => I64 (r.1 : Int)) (fun r => [OwnI 51 (kG Z) v d.toList, BlkI g 3 kJ r.2]) (fun r => a ≤ r.1 + 1 ∧ r.1 ≤ a + 1) := by
 refine fn_intro Tryz.func146 rfl rfl ?_
 intro H w
 refine sq (te (ec 0 rfl (ec 1 rfl (ec 2 rfl (ec 3 rfl en)))) (rg (ak rfl (tn (nn (sq (te (ec 0 rfl (ec 1 rfl (ec 2 rfl (ec 3 rfl en)))) (rg (mv rfl rfl (mv rfl rfl (oP (pu_sub' (oT rfl) ot (by omega)) rfl (mv rfl rfl (mv rfl rfl (oP (pad (oT rfl) ot (by omega)) rfl (mv rfl rfl (mv rfl rfl ?_))))))))))))))))
 rw [show (a : Int) - 1 = ((a - 1 : Nat) : Int) from by omega, show (a : Int) + 1 = ((a + 1 : Nat) : Int) from by omega]
 refine oA (aC (median_fn v fv d (a - 1) a (a + 1) g n c (by omega) (by omega) (by omega) hfv) y4 (oc (oT rfl) (oc (oT rfl) (oc (oT rfl) (oc (oT rfl) (oc (oT rfl) (oc (oT rfl) oN)))))) (List.Perm.trans (by exact pA 0 rfl) (List.Perm.cons _ (by exact pA 0 rfl)))) (List.Perm.trans (by exact pA 0 rfl) (List.Perm.cons _ (by exact pA 0 rfl))) rfl rfl (fun ⟨x1_8, m1_8⟩ hp1_8 => ?_)
 refine av rfl rfl (tn (nn (tR ?_)))
 exact ret_one .ret (.inl rfl) rfl (x1_8, m1_8) (oT rfl) (by dsimp only at hp1_8 ⊢; omega) (by repeat first | exact pn | refine pc 0 rfl ?_)
set_option maxHeartbeats 1000000 in
set_option maxRecDepth 20000 in
/-- slices.choosePivotCmpFunc[rhizome/api.Tuple] -/
theorem pivot_fn (v fv : Value) (d : DA) (a b : Nat) (c : List Int → List Int → Int) (hm : d.size < 4611686018427387904) (hab : a < b) (hb : b ≤ d.size) (hfv : ∀ x y, CtV Tryz.prog fv [(kG Z).T x, (kG Z).T y] [] Unit (fun _ => I64 (c x y)) (fun _ => []) (fun _ => True)) : Ct Tryz.prog 121 [IsV v, I64 (a : Int), I64 (b : Int), IsV fv] ([OwnI 51 (kG Z) v d.toList]) (Nat × Int) (fun r => TupT [I64 (r.1 : Int), I64 r.2]) (fun r => [OwnI 51 (kG Z) v d.toList]) (fun r => (a ≤ r.1 ∧ r.1 < b) ∧ (r.2 = 0 ∨ r.2 = 1 ∨ r.2 = 2)) := by
 refine fn_intro Tryz.func121 rfl rfl ?_
 intro H w
 refine sq (te (ec 0 rfl (ec 1 rfl (ec 2 rfl (ec 3 rfl en)))) (rg (ak rfl (ak rfl (tn (nn (sq (te (ec 0 rfl (ec 1 rfl (ec 2 rfl (ec 3 rfl en)))) (rg (mv rfl rfl (mv rfl rfl (oP (pu_sub' (oT rfl) (oT rfl) (by omega)) rfl (av rfl rfl (tn (nn (sq (te (ec 0 rfl (ec 1 rfl (ec 3 rfl (ec 10 rfl en)))) (rg (oA (acts_alloc (zz3)) pR rfl rfl (fun g2_0 _ => ?_))))))))))))))))))))
 refine tn (nn (sq (te (ec 0 rfl (ec 1 rfl (ec 3 rfl (ec 10 rfl (ec 11 rfl en))))) ?_)))
 rw [show (b : Int) - a = ((b - a : Nat) : Int) from by omega]
 obtain ⟨l, hl⟩ : ∃ l : Nat, b - a = l := ⟨_, rfl⟩
 rw [hl]
 refine rg (mv rfl rfl (mv rfl rfl (oP (pu_quo' (oT rfl) ot (by omega) (by omega)) rfl (oP (pu_mul' (oT rfl) ot (by omega)) rfl (oP (pad (oT rfl) (oT rfl) (by omega)) rfl (av rfl rfl (tn (nn (sq (te (ec 0 rfl (ec 1 rfl (ec 3 rfl (ec 10 rfl (ec 11 rfl (ec 12 rfl en)))))) (rg (mv rfl rfl (mv rfl rfl (oP (pu_quo' (oT rfl) ot (by omega) (by omega)) rfl (oP (pu_mul' (oT rfl) ot (by omega)) rfl (oP (pad (oT rfl) (oT rfl) (by omega)) rfl (av rfl rfl (tn (nn (sq (te (ec 0 rfl (ec 1 rfl (ec 3 rfl (ec 10 rfl (ec 11 rfl (ec 12 rfl (ec 13 rfl en))))))) (rg (mv rfl rfl ?_)))))))))))))))))))))))
 refine mv rfl rfl (oP (pu_quo' (oT rfl) ot (by omega) (by omega)) rfl (oP (pu_mul' (oT rfl) ot (by omega)) rfl (oP (pad (oT rfl) (oT rfl) (by omega)) rfl (av rfl rfl (tn (nn (sq (sq (te (ec 0 rfl (ec 3 rfl (ec 10 rfl (ec 11 rfl (ec 12 rfl (ec 13 rfl (ec 14 rfl en))))))) ?_)))))))))
 obtain ⟨i, hi, hi2⟩ : ∃ i : Nat, (a : Int) + (l : Int) / 4 * 1 = i ∧ a + l / 4 = i := ⟨a + l / 4, by omega, rfl⟩
 obtain ⟨j, hj, hj2⟩ : ∃ j : Nat, (a : Int) + (l : Int) / 4 * 2 = j ∧ a + l / 4 * 2 = j := ⟨a + l / 4 * 2, by omega, rfl⟩
 obtain ⟨k, hk, hk2⟩ : ∃ k : Nat, (a : Int) + (l : Int) / 4 * 3 = k ∧ a + l / 4 * 3 = k := ⟨a + l / 4 * 3, by omega, rfl⟩
 rw [hi, hj, hk]
 refine rg (mv rfl rfl (oP (pu_geq (oT rfl) ot) rfl (tn (nn (tc (oT rfl) (fun c34 => ?_) (fun c34 => ?_))))))
 · try simp only [cq] at c34
   refine sq (sq (te (ec 0 rfl (ec 3 rfl (ec 10 rfl (ec 11 rfl (ec 12 rfl (ec 13 rfl (ec 14 rfl en))))))) (rg (mv rfl rfl (oP (pu_geq (oT rfl) ot) rfl (tn (nn (tc (oT rfl) (fun c36 => ?_) (fun c36 => ?_)))))))))
   · try simp only [cq] at c36
     refine sq (te (ec 0 rfl (ec 3 rfl (ec 11 rfl (ec 12 rfl (ec 13 rfl (ec 14 rfl en)))))) (rg (mv rfl rfl (mv rfl rfl (mv rfl rfl (oA (aC (medadj_fn v fv d _ _ _ c (by omega) (by omega) (by omega) hfv) y5 (oc (oT rfl) (oc (oT rfl) (oc (oT rfl) (oc (oT rfl) oN)))) (List.Perm.trans (by exact pA 1 rfl) (List.Perm.cons _ (by exact pA 0 rfl)))) (List.Perm.trans (by exact pA 1 rfl) (List.Perm.cons _ (by exact pA 0 rfl))) rfl rfl (fun ⟨x8_3, m8_3⟩ hp8_3 => ?_)))))))
     refine av rfl rfl (tn (nn (sq (te (ec 0 rfl (ec 3 rfl (ec 11 rfl (ec 12 rfl (ec 13 rfl (ec 14 rfl en)))))) (rg (mv rfl rfl (mv rfl rfl (mv rfl rfl (oA (aC (medadj_fn v fv d _ _ _ c (by omega) (by omega) (by omega) hfv) y5 (oc (oT rfl) (oc (oT rfl) (oc (oT rfl) (oc (oT rfl) oN)))) (List.Perm.trans (by exact pA 0 rfl) (List.Perm.cons _ (by exact pA 0 rfl)))) (List.Perm.trans (by exact pA 0 rfl) (List.Perm.cons _ (by exact pA 0 rfl))) rfl rfl (fun ⟨x9_3, m9_3⟩ hp9_3 => ?_))))))))))
     refine av rfl rfl (tn (nn (te (ec 0 rfl (ec 3 rfl (ec 11 rfl (ec 12 rfl (ec 13 rfl (ec 14 rfl en)))))) (rg (mv rfl rfl (mv rfl rfl (mv rfl rfl (oA (aC (medadj_fn v fv d _ _ _ c (by omega) (by omega) (by omega) hfv) y5 (oc (oT rfl) (oc (oT rfl) (oc (oT rfl) (oc (oT rfl) oN)))) (List.Perm.trans (by exact pA 0 rfl) (List.Perm.cons _ (by exact pA 0 rfl)))) (List.Perm.trans (by exact pA 0 rfl) (List.Perm.cons _ (by exact pA 0 rfl))) rfl rfl (fun ⟨x10_3, m10_3⟩ hp10_3 => ?_)))))))))
     refine av rfl rfl (tn (nn (te (ec 0 rfl (ec 3 rfl (ec 11 rfl (ec 12 rfl (ec 13 rfl (ec 14 rfl en)))))) ?_)))
     first | dsimp only at hp8_3 hp9_3 hp10_3 ⊢ | skip
     refine rg (mv rfl rfl (mv rfl rfl (mv rfl rfl (mv rfl rfl (mv rfl rfl (oA (aC (median_fn v fv d _ _ _ _ _ c (by omega) (by omega) (by omega) hfv) y4 (oc (oT rfl) (oc (oT rfl) (oc (oT rfl) (oc (oT rfl) (oc (oT rfl) (oc (oT rfl) oN)))))) (List.Perm.trans (by exact pA 0 rfl) (List.Perm.cons _ (by exact pA 0 rfl)))) (List.Perm.trans (by exact pA 0 rfl) (List.Perm.cons _ (by exact pA 0 rfl))) rfl rfl (fun ⟨x11_5, m11_5⟩ hp11_5 => ?_)))))))
     refine av rfl rfl (tn (nn (sq (te (ec 11 rfl (ec 13 rfl en)) ?_))))
     first | dsimp only at hp11_5 ⊢ | skip
     refine rg (oP (plv (oT rfl) (by exact mA 1 rfl) y2) rfl ?_)
     refine tn (nn (tb (sq (te (ec 13 rfl (ec 55 rfl en)) (rg (oP (pu_eql (oT rfl) ot) rfl (av rfl rfl (tn (nn (tc (oT rfl) (fun c57 => ?_) (fun c57 => ?_)))))))))))
     · try simp only [cq] at c57
       refine sq (te (ec 13 rfl en) (rg (mv rfl rfl (av rfl rfl (ak rfl (tn (nn (tR (block_ret ?_)))))))))
       exact ret_two .ret (.inl rfl) rfl (x11_5, 1) (oT rfl) (oT rfl) (fun _ _ h => h) (by show (a ≤ x11_5 ∧ x11_5 < b) ∧ _; exact ⟨by omega, by simp⟩) (by repeat first | exact pn | refine pc 0 rfl ?_)
     · try simp only [cq] at c57
       refine sq (te (ec 13 rfl (ec 55 rfl en)) (rg (oP (pu_eql (oT rfl) ot) rfl (av rfl rfl (tn (nn (tc (oT rfl) (fun c60 => ?_) (fun c60 => ?_))))))))
       · try simp only [cq] at c60
         refine sq (te (ec 13 rfl en) (rg (mv rfl rfl (av rfl rfl (ak rfl (tn (nn (tR (block_ret ?_)))))))))
         exact ret_two .ret (.inl rfl) rfl (x11_5, 2) (oT rfl) (oT rfl) (fun _ _ h => h) (by show (a ≤ x11_5 ∧ x11_5 < b) ∧ _; exact ⟨by omega, by simp⟩) (by repeat first | exact pn | refine pc 0 rfl ?_)
       · try simp only [cq] at c60
         refine sq (te (ec 13 rfl en) (rg (mv rfl rfl (av rfl rfl (ak rfl (tn (nn (tR (block_ret ?_)))))))))
         exact ret_two .ret (.inl rfl) rfl (x11_5, 0) (oT rfl) (oT rfl) (fun _ _ h => h) (by show (a ≤ x11_5 ∧ x11_5 < b) ∧ _; exact ⟨by omega, by simp⟩) (by repeat first | exact pn | refine pc 0 rfl ?_)
   · try simp only [cq] at c36
     refine sk (nn (te (ec 0 rfl (ec 3 rfl (ec 11 rfl (ec 12 rfl (ec 13 rfl (ec 14 rfl en)))))) ?_))
     first | dsimp only at hp8_3 hp9_3 hp10_3 ⊢ | skip
     refine rg (mv rfl rfl (mv rfl rfl (mv rfl rfl (mv rfl rfl (mv rfl rfl (oA (aC (median_fn v fv d _ _ _ _ _ c (by omega) (by omega) (by omega) hfv) y4 (oc (oT rfl) (oc (oT rfl) (oc (oT rfl) (oc (oT rfl) (oc (oT rfl) (oc (oT rfl) oN)))))) (List.Perm.trans (by exact pA 1 rfl) (List.Perm.cons _ (by exact pA 0 rfl)))) (List.Perm.trans (by exact pA 1 rfl) (List.Perm.cons _ (by exact pA 0 rfl))) rfl rfl (fun ⟨x11_5, m11_5⟩ hp11_5 => ?_)))))))
     refine av rfl rfl (tn (nn (sq (te (ec 11 rfl (ec 13 rfl en)) ?_))))
     first | dsimp only at hp11_5 ⊢ | skip
     refine rg (oP (plv (oT rfl) (by exact mA 1 rfl) y2) rfl ?_)
     refine tn (nn (tb (sq (te (ec 13 rfl (ec 55 rfl en)) (rg (oP (pu_eql (oT rfl) ot) rfl (av rfl rfl (tn (nn (tc (oT rfl) (fun c57 => ?_) (fun c57 => ?_)))))))))))
     · try simp only [cq] at c57
       refine sq (te (ec 13 rfl en) (rg (mv rfl rfl (av rfl rfl (ak rfl (tn (nn (tR (block_ret ?_)))))))))
       exact ret_two .ret (.inl rfl) rfl (x11_5, 1) (oT rfl) (oT rfl) (fun _ _ h => h) (by show (a ≤ x11_5 ∧ x11_5 < b) ∧ _; exact ⟨by omega, by simp⟩) (by repeat first | exact pn | refine pc 0 rfl ?_)
     · try simp only [cq] at c57
       refine sq (te (ec 13 rfl (ec 55 rfl en)) (rg (oP (pu_eql (oT rfl) ot) rfl (av rfl rfl (tn (nn (tc (oT rfl) (fun c60 => ?_) (fun c60 => ?_))))))))
       · try simp only [cq] at c60
         refine sq (te (ec 13 rfl en) (rg (mv rfl rfl (av rfl rfl (ak rfl (tn (nn (tR (block_ret ?_)))))))))
         exact ret_two .ret (.inl rfl) rfl (x11_5, 2) (oT rfl) (oT rfl) (fun _ _ h => h) (by show (a ≤ x11_5 ∧ x11_5 < b) ∧ _; exact ⟨by omega, by simp⟩) (by repeat first | exact pn | refine pc 0 rfl ?_)
       · try simp only [cq] at c60
         refine sq (te (ec 13 rfl en) (rg (mv rfl rfl (av rfl rfl (ak rfl (tn (nn (tR (block_ret ?_)))))))))
         exact ret_two .ret (.inl rfl) rfl (x11_5, 0) (oT rfl) (oT rfl) (fun _ _ h => h) (by show (a ≤ x11_5 ∧ x11_5 < b) ∧ _; exact ⟨by omega, by simp⟩) (by repeat first | exact pn | refine pc 0 rfl ?_)
 · try simp only [cq] at c34
   refine sk (nn (sq (te (ec 11 rfl (ec 13 rfl en)) ?_)))
   first | dsimp only at hp11_5 ⊢ | skip
   refine rg (oP (plv (oT rfl) (by exact mA 0 rfl) y2) rfl ?_)
   refine tn (nn (tb (sq (te (ec 13 rfl (ec 55 rfl en)) (rg (oP (pu_eql (oT rfl) ot) rfl (av rfl rfl (tn (nn (tc (oT rfl) (fun c57 => ?_) (fun c57 => ?_)))))))))))
   · try simp only [cq] at c57
     refine sq (te (ec 13 rfl en) (rg (mv rfl rfl (av rfl rfl (ak rfl (tn (nn (tR (block_ret ?_)))))))))
     exact ret_two .ret (.inl rfl) rfl (j, 1) (oT rfl) (oT rfl) (fun _ _ h => h) (by show (a ≤ j ∧ j < b) ∧ _; exact ⟨by omega, by simp⟩) (by repeat first | exact pn | refine pc 1 rfl ?_)
   · try simp only [cq] at c57
     refine sq (te (ec 13 rfl (ec 55 rfl en)) (rg (oP (pu_eql (oT rfl) ot) rfl (av rfl rfl (tn (nn (tc (oT rfl) (fun c60 => ?_) (fun c60 => ?_))))))))
     · try simp only [cq] at c60
       refine sq (te (ec 13 rfl en) (rg (mv rfl rfl (av rfl rfl (ak rfl (tn (nn (tR (block_ret ?_)))))))))
       exact ret_two .ret (.inl rfl) rfl (j, 2) (oT rfl) (oT rfl) (fun _ _ h => h) (by show (a ≤ j ∧ j < b) ∧ _; exact ⟨by omega, by simp⟩) (by repeat first | exact pn | refine pc 1 rfl ?_)
     · try simp only [cq] at c60
       refine sq (te (ec 13 rfl en) (rg (mv rfl rfl (av rfl rfl (ak rfl (tn (nn (tR (block_ret ?_)))))))))
       exact ret_two .ret (.inl rfl) rfl (j, 0) (oT rfl) (oT rfl) (fun _ _ h => h) (by show (a ≤ j ∧ j < b) ∧ _; exact ⟨by omega, by simp⟩) (by repeat first | exact pn | refine pc 1 rfl ?_)
end Go.Proofs.YtklhdalppmjnaaaGreatDoor
/- Sorts of tuples: the partitions' loops, step by step. -/
namespace Go.So
open Go Go.Gw
set_option linter.unusedVariables false
set_option linter.unusedSimpArgs false
section
variable {c : List Int → List Int → Int} {d : DA} {a b i j i2 j2 : Nat} {p : List Int → Bool}
theorem up_step (h : i ≤ j) (hp : p d[i]! = true) : Sort.scanUp p d j i = Sort.scanUp p d j (i + 1) := by
 rw [Sort.scanUp, if_pos (by simp [h, hp])]
theorem up_end (h : i ≤ j → p d[i]! = false) : Sort.scanUp p d j i = i := by
 rw [Sort.scanUp, if_neg (by rw [Bool.and_eq_true, decide_eq_true_eq]; rintro ⟨h1, h2⟩; rw [h h1] at h2; cases h2)]
theorem down_step (h0 : 0 < j) (h : i ≤ j) (hp : p d[j]! = true) : Sort.scanDown p d i j = Sort.scanDown p d i (j - 1) := by
 obtain ⟨k, rfl⟩ : ∃ k, j = k + 1 := ⟨j - 1, by omega⟩
 rw [Sort.scanDown, if_pos (by simp [h, hp]), Nat.add_sub_cancel]
theorem down_end (h : i ≤ j → p d[j]! = false) : Sort.scanDown p d i j = j := by
 cases j with
 | zero => rfl
 | succ k => rw [Sort.scanDown, if_neg (by rw [Bool.and_eq_true, decide_eq_true_eq]; rintro ⟨h1, h2⟩; rw [h h1] at h2; cases h2)]
theorem part_end (hi : Sort.scanUp (fun x => ltc c x d[a]!) d j i = i2) (hj : Sort.scanDown (fun x => !ltc c x d[a]!) d i2 j = j2) (h : i2 > j2) : Sort.partLoop (ltc c) a i j d = (j2, d) := by
 rw [Sort.partLoop]
 simp only [hi, hj]
 rw [if_pos h]
theorem part_step (hi : Sort.scanUp (fun x => ltc c x d[a]!) d j i = i2) (hj : Sort.scanDown (fun x => !ltc c x d[a]!) d i2 j = j2) (h : ¬ i2 > j2) (hg : j2 - 1 + 1 - (i2 + 1) < j + 1 - i) : Sort.partLoop (ltc c) a i j d = Sort.partLoop (ltc c) a (i2 + 1) (j2 - 1) (Sort.swp d i2 j2) := by
 rw [Sort.partLoop]
 simp only [hi, hj]
 rw [if_neg h, dif_pos hg]
theorem partE_end (hi : Sort.scanUp (fun x => !ltc c d[a]! x) d j i = i2) (hj : Sort.scanDown (fun x => ltc c d[a]! x) d i2 j = j2) (h : i2 > j2) : Sort.partEqLoop (ltc c) a i j d = (i2, d) := by
 rw [Sort.partEqLoop]
 simp only [hi, hj]
 rw [if_pos h]
theorem partE_step (hi : Sort.scanUp (fun x => !ltc c d[a]! x) d j i = i2) (hj : Sort.scanDown (fun x => ltc c d[a]! x) d i2 j = j2) (h : ¬ i2 > j2) (hg : j2 - 1 + 1 - (i2 + 1) < j + 1 - i) : Sort.partEqLoop (ltc c) a i j d = Sort.partEqLoop (ltc c) a (i2 + 1) (j2 - 1) (Sort.swp d i2 j2) := by
 rw [Sort.partEqLoop]
 simp only [hi, hj]
 rw [if_neg h, dif_pos hg]
theorem partition_one (hi : Sort.scanUp (fun x => ltc c x (Sort.swp d a b)[a]!) (Sort.swp d a b) (j - 1) (a + 1) = i2) (hj : Sort.scanDown (fun x => !ltc c x (Sort.swp d a b)[a]!) (Sort.swp d a b) i2 (j - 1) = j2) (h : i2 > j2) : Sort.partition (ltc c) d a j b = (j2, true, Sort.swp (Sort.swp d a b) j2 a) := by
 rw [Sort.partition]
 simp only [hi, hj]
 rw [if_pos h]
theorem partition_two (hi : Sort.scanUp (fun x => ltc c x (Sort.swp d a b)[a]!) (Sort.swp d a b) (j - 1) (a + 1) = i2) (hj : Sort.scanDown (fun x => !ltc c x (Sort.swp d a b)[a]!) (Sort.swp d a b) i2 (j - 1) = j2) (h : ¬ i2 > j2) :
 Sort.partition (ltc c) d a j b = ((Sort.partLoop (ltc c) a (i2 + 1) (j2 - 1) (Sort.swp (Sort.swp d a b) i2 j2)).1, false, Sort.swp (Sort.partLoop (ltc c) a (i2 + 1) (j2 - 1) (Sort.swp (Sort.swp d a b) i2 j2)).2 (Sort.partLoop (ltc c) a (i2 + 1) (j2 - 1) (Sort.swp (Sort.swp d a b) i2 j2)).1 a) := by
 rw [Sort.partition]
 simp only [hi, hj]
 rw [if_neg h]
theorem sw (hi : i < d.size) (hj : j < d.size) : (d.toList.set (i : Int).toNat (at' d.toList (j : Int))).set (j : Int).toNat (at' d.toList (i : Int)) = (Sort.swp d i j).toList := by
 rw [swp_items (by omega) (by omega) (by omega) (by omega)]; simp
end
end Go.So
/- Walks through the Go functions api.Tuple], as typed contracts. -/
namespace Go.Proofs.YtklhdalppmjnaaaGreatDoor
open Go Go.Gw Go.So
set_option linter.unusedVariables false
set_option linter.unusedSimpArgs false
variable {Z : SlTy}

set_option maxHeartbeats 1000000 in
set_option maxRecDepth 20000 in
/-- slices.partitionCmpFunc[rhizome/api.Tuple] -/
theorem part_fn (v fv : Value) (d : DA) (a b pv : Nat) (c : List Int → List Int → Int) (hm : d.size < 4611686018427387904) (hap : a ≤ pv) (hpb : pv < b) (hb : b ≤ d.size) (hfv : ∀ x y, CtV Tryz.prog fv [(kG Z).T x, (kG Z).T y] [] Unit (fun _ => I64 (c x y)) (fun _ => []) (fun _ => True)) : Ct Tryz.prog 125 [IsV v, I64 (a : Int), I64 (b : Int), I64 (pv : Int), IsV fv] ([OwnI 51 (kG Z) v d.toList]) Unit (fun _ => TupT [I64 ((Sort.partition (ltc c) d a b pv).1 : Int), BoolT (Sort.partition (ltc c) d a b pv).2.1]) (fun _ => [OwnI 51 (kG Z) v (Sort.partition (ltc c) d a b pv).2.2.toList]) (fun _ => True) := by
 refine fn_intro Tryz.func125 rfl rfl ?_
 intro H w
 have hl : d.toList.length = d.size := Array.length_toList
 refine sq (te (ec 0 rfl (ec 1 rfl (ec 2 rfl (ec 3 rfl (ec 4 rfl en))))) (rg (ak rfl (ak rfl (tn (nn (sq (te (ec 0 rfl (ec 1 rfl (ec 2 rfl (ec 3 rfl (ec 4 rfl en))))) ?_))))))))
 apply tr_anyW (p := 13) (Lf := fun c => cond c ([OwnI 51 (kG Z) v (d.toList.set (a : Int).toNat (at' d.toList (pv : Int)))]) ([OwnI 51 (kG Z) v d.toList])) (by kernel_rfl) (m := 14) (ns := [[(0, none)], [(1, none)], [(0, none)], [(3, none)], [(0, none)], [(3, none)], [(18, some 4), (19, some 5)], [(20, some 6)], [(0, none)], [(1, none)], [(22, some 8), (23, some 9)], [(24, some 10)], [(14, some 0), (15, some 1)], [(21, some 7), (26, some 12)]]) (by kernel_rfl) (by kernel_rfl) (Ts := [_, _, _, _, _, _, _, _, _, _, _, _, _, _]) rfl
 case hops =>
  refine ⟨?_, ?_, ?_, ?_, ?_, ?_, ?_, ?_, ?_, ?_, ?_, ?_, ?_, ?_, trivial⟩
  · exact cAf (by kernel_rfl) fun _ => rw_ (rmv rfl)
  · exact cAf (by kernel_rfl) fun _ => rw_ (rmv rfl)
  · intro c hc; cases c <;> exact rw_ (rmv rfl)
  · intro c hc; cases c <;> exact rw_ (rmv rfl)
  · exact cAf (by kernel_rfl) fun _ => rw_ (rmv rfl)
  · exact cAf (by kernel_rfl) fun _ => rw_ (rmv rfl)
  · exact cAf (by kernel_rfl) fun _ => rw_ (rP (pio (oT rfl) (by exact mA 0 rfl) (oT rfl) Tryz.underlying36 y0 (by omega) (by omega)))
  · exact cAf (by kernel_rfl) fun _ => rw_ (rP (plo (oT rfl) (by exact mA 0 rfl) (by omega) (by omega) y0))
  · exact cAf (by kernel_rfl) fun _ => rw_ (rmv rfl)
  · exact cAf (by kernel_rfl) fun _ => rw_ (rmv rfl)
  · exact cAf (by kernel_rfl) fun _ => rw_ (rP (pio (oT rfl) (by exact mA 0 rfl) (oT rfl) Tryz.underlying36 y0 (by omega) (by omega)))
  · exact cAf (by kernel_rfl) fun _ => rw_ (rP (plo (oT rfl) (by exact mA 0 rfl) (by omega) (by omega) y0))
  · exact cAf (by kernel_rfl) fun _ => rw_ (rP (pio (oT rfl) (by exact mA 0 rfl) (oT rfl) Tryz.underlying36 y0 (by omega) (by omega)))
  · exact cAf (by kernel_rfl) fun _ => ropw_acts rfl (acts_store_own0 (oT rfl) (oT rfl) (by exact pA 0 rfl) (by omega) (by omega) y0) (by exact pA 0 rfl) (fun _ => (by exact pA 0 rfl)) (fun _ _ _ _ h => h)
 case h =>
  refine oP (pio (oT rfl) (by exact mA 0 rfl) (oT rfl) Tryz.underlying36 y0 (by omega) (by (simp; omega))) rfl ?_
  refine oA (acts_store_own0 (oT rfl) (oT rfl) (by exact pA 0 rfl) (by omega) (by (simp; omega)) y0) (by exact pA 0 rfl) rfl rfl (fun _ _ => ?_)
  refine tn (nn (sq (te (ec 0 rfl (ec 1 rfl (ec 2 rfl (ec 4 rfl en)))) ?_)))
  rw [sw (by omega) (by omega)]
  have hs0 : (Sort.swp d a pv).size = d.size := swp_size
  obtain ⟨d0, hd0⟩ : ∃ d0, Sort.swp d a pv = d0 := ⟨_, rfl⟩
  rw [hd0] at hs0 ⊢
  have hl0 : d0.toList.length = d0.size := Array.length_toList
  refine rg (mv rfl rfl (oP (pad (oT rfl) ot (by omega)) rfl (mv rfl rfl (oP (pu_sub' (oT rfl) ot (by omega)) rfl (av rfl rfl (av rfl rfl (tn (nn (sq (tb ?_))))))))))
  rw [show (b : Int) - 1 = ((b - 1 : Nat) : Int) from by omega]
  refine tr_loopK (σ := Nat) (ec 0 rfl (ec 1 rfl (ec 4 rfl (ec 13 rfl en)))) (fun s => [(12, I64 (s : Int))]) (fun s => [OwnI 51 (kG Z) v d0.toList]) (fun s => a + 1 ≤ s ∧ s ≤ b ∧ Sort.scanUp (fun x => ltc c x d0[a]!) d0 (b - 1) s = Sort.scanUp (fun x => ltc c x d0[a]!) d0 (b - 1) (a + 1)) (fun s => b - s) (a + 1) ⟨by omega, by omega, rfl⟩ ?_ (op (by repeat first | exact pn | refine pc 0 rfl ?_)) ?_
  · exact (ec 12 rfl en)
  · rintro i ⟨hi0, hi1, hi⟩
    refine sq (sq (te (ec 0 rfl (ec 1 rfl (ec 4 rfl (ec 12 rfl (ec 13 rfl en))))) ?_))
    apply tr_any (m := 13) (ns := [[(12, none)], [(13, none)], [(32, some 0), (33, some 1)], [(34, some 2)], [(4, none), (35, some 3)], [(0, none), (35, some 3)], [(12, none), (35, some 3)], [(35, some 3), (37, some 5), (38, some 6)], [(35, some 3), (39, some 7)], [(0, none), (35, some 3)], [(1, none), (35, some 3)], [(35, some 3), (41, some 9), (42, some 10)], [(35, some 3), (43, some 11)]]) (by kernel_rfl) (by kernel_rfl) (Ts := [_, _, _, _, _, _, _, _, _, _, _, _, _]) rfl
    case hops =>
     refine ⟨?_, ?_, ?_, ?_, ?_, ?_, ?_, ?_, ?_, ?_, ?_, ?_, ?_, trivial⟩
     · exact rmv rfl
     · exact rmv rfl
     · exact rP (pu_leq (oT rfl) (oT rfl))
     · exact rmv rfl
     · exact rG rfl rfl rfl (gm (oT rfl)) (fun hg => by (have hg1 := hg.2; exact rmv rfl))
     · exact rG rfl rfl rfl (gm (oT rfl)) (fun hg => by (have hg1 := hg.2; exact rmv rfl))
     · exact rG rfl rfl rfl (gm (oT rfl)) (fun hg => by (have hg1 := hg.2; exact rmv rfl))
     · exact rG rfl rfl rfl (gm (oT rfl)) (fun hg => by (have hg1 := hg.2; exact rP (pio (by exact gu (oT rfl) hg) (by exact mA 0 rfl) (by exact gu (oT rfl) hg) Tryz.underlying36 y0 (by omega) (by (simp [maxLen] at *; omega)))))
     · exact rG rfl rfl rfl (gm (oT rfl)) (fun hg => by (have hg1 := hg.2; exact rP (plo (by exact gu (oT rfl) hg) (by exact mA 0 rfl) (by omega) (by (simp [maxLen] at *; omega)) y0)))
     · exact rG rfl rfl rfl (gm (oT rfl)) (fun hg => by (have hg1 := hg.2; exact rmv rfl))
     · exact rG rfl rfl rfl (gm (oT rfl)) (fun hg => by (have hg1 := hg.2; exact rmv rfl))
     · exact rG rfl rfl rfl (gm (oT rfl)) (fun hg => by (have hg1 := hg.2; exact rP (pio (by exact gu (oT rfl) hg) (by exact mA 0 rfl) (by exact gu (oT rfl) hg) Tryz.underlying36 y0 (by omega) (by omega))))
     · exact rG rfl rfl rfl (gm (oT rfl)) (fun hg => by (have hg1 := hg.2; exact rP (plo (by exact gu (oT rfl) hg) (by exact mA 0 rfl) (by omega) (by omega) y0)))
    case h =>
     refine op_gu_acts () rfl rfl rfl (gm (oT rfl)) (fun hg => by (have hg1 := hg.2; (try simp only [cq2] at hg1); exact acts_callv (by exact gu (oT rfl) hg) (hfv _ _) (oc (by exact gu (oT rfl) hg) (oc (by exact gu (oT rfl) hg) oN)) pR)) rfl (fun _ _ => ?_)
     refine oG rfl rfl rfl (gm (oT rfl)) (fun hg => by (have hg1 := hg.2; (try simp only [cq2] at hg1); exact pu_lss (by exact gu (oT rfl) hg) ot)) rfl ?_
     refine oP (pu_pick_and (oT rfl) (oT rfl)) rfl (tn (nn (tc (oT rfl) (fun c47 => ?_) (fun c47 => ?_))))
     · try simp only [cq] at c47
       have hnx := (up_step (p := (fun x => ltc c x d0[a]!)) (d := d0) (j := b - 1) (i := i) (by omega) (by show ltc c _ _ = true; rw [ltc_at (by omega) (by omega)]; simpa using c47.2)).symm.trans hi
       refine sk (nn (tb (te (ec 0 rfl (ec 1 rfl (ec 4 rfl (ec 12 rfl (ec 13 rfl en))))) (rg (mv rfl rfl (oP (pad (oT rfl) ot (by omega)) rfl (av rfl rfl (tn (bn (nn ?_))))))))))
       exact tg (i + 1) ⟨by omega, by omega, hnx⟩ (by omega) (ea (ec 12 rfl en) (ec 0 rfl (ec 1 rfl (ec 4 rfl (ec 13 rfl en))))) (op (by repeat first | exact pn | refine pc 0 rfl ?_))
     · try simp only [cq] at c47
       have hue : i ≤ b - 1 → ltc c d0[i]! d0[a]! = false := fun h => by
        rw [ltc_at (by omega) (by omega)]
        rcases c47 with h9 | h9
        · omega
        · simpa using h9
       have hup := hi.symm.trans (up_end hue)
       refine tr_exit (tx (tx (bh (nn (sq (tb (tr_loopK (σ := Nat) (ec 0 rfl (ec 1 rfl (ec 4 rfl (ec 12 rfl en)))) (fun s => [(13, I64 (s : Int))]) (fun s => [OwnI 51 (kG Z) v d0.toList]) (fun s => s ≤ b - 1 ∧ i ≤ s + 1 ∧ Sort.scanDown (fun x => !ltc c x d0[a]!) d0 i s = Sort.scanDown (fun x => !ltc c x d0[a]!) d0 i (b - 1)) (fun s => s) (b - 1) ⟨by omega, by omega, rfl⟩ ?_ (op (by repeat first | exact pn | refine pc 0 rfl ?_)) ?_)))))))
       · exact (ec 13 rfl en)
       · rintro j ⟨hj0, hj1, hj⟩
         refine sq (sq (te (ec 0 rfl (ec 1 rfl (ec 4 rfl (ec 12 rfl (ec 13 rfl en))))) ?_))
         apply tr_any (m := 13) (ns := [[(12, none)], [(13, none)], [(50, some 0), (51, some 1)], [(52, some 2)], [(4, none), (53, some 3)], [(0, none), (53, some 3)], [(13, none), (53, some 3)], [(53, some 3), (55, some 5), (56, some 6)], [(53, some 3), (57, some 7)], [(0, none), (53, some 3)], [(1, none), (53, some 3)], [(53, some 3), (59, some 9), (60, some 10)], [(53, some 3), (61, some 11)]]) (by kernel_rfl) (by kernel_rfl) (Ts := [_, _, _, _, _, _, _, _, _, _, _, _, _]) rfl
         case hops =>
          refine ⟨?_, ?_, ?_, ?_, ?_, ?_, ?_, ?_, ?_, ?_, ?_, ?_, ?_, trivial⟩
          · exact rmv rfl
          · exact rmv rfl
          · exact rP (pu_leq (oT rfl) (oT rfl))
          · exact rmv rfl
          · exact rG rfl rfl rfl (gm (oT rfl)) (fun hg => by (have hg1 := hg.2; exact rmv rfl))
          · exact rG rfl rfl rfl (gm (oT rfl)) (fun hg => by (have hg1 := hg.2; exact rmv rfl))
          · exact rG rfl rfl rfl (gm (oT rfl)) (fun hg => by (have hg1 := hg.2; exact rmv rfl))
          · exact rG rfl rfl rfl (gm (oT rfl)) (fun hg => by (have hg1 := hg.2; exact rP (pio (by exact gu (oT rfl) hg) (by exact mA 0 rfl) (by exact gu (oT rfl) hg) Tryz.underlying36 y0 (by omega) (by omega))))
          · exact rG rfl rfl rfl (gm (oT rfl)) (fun hg => by (have hg1 := hg.2; exact rP (plo (by exact gu (oT rfl) hg) (by exact mA 0 rfl) (by omega) (by omega) y0)))
          · exact rG rfl rfl rfl (gm (oT rfl)) (fun hg => by (have hg1 := hg.2; exact rmv rfl))
          · exact rG rfl rfl rfl (gm (oT rfl)) (fun hg => by (have hg1 := hg.2; exact rmv rfl))
          · exact rG rfl rfl rfl (gm (oT rfl)) (fun hg => by (have hg1 := hg.2; exact rP (pio (by exact gu (oT rfl) hg) (by exact mA 0 rfl) (by exact gu (oT rfl) hg) Tryz.underlying36 y0 (by omega) (by omega))))
          · exact rG rfl rfl rfl (gm (oT rfl)) (fun hg => by (have hg1 := hg.2; exact rP (plo (by exact gu (oT rfl) hg) (by exact mA 0 rfl) (by omega) (by omega) y0)))
         case h =>
          refine op_gu_acts () rfl rfl rfl (gm (oT rfl)) (fun hg => by (have hg1 := hg.2; (try simp only [cq2] at hg1); exact acts_callv (by exact gu (oT rfl) hg) (hfv _ _) (oc (by exact gu (oT rfl) hg) (oc (by exact gu (oT rfl) hg) oN)) pR)) rfl (fun _ _ => ?_)
          refine oG rfl rfl rfl (gm (oT rfl)) (fun hg => by (have hg1 := hg.2; (try simp only [cq2] at hg1); exact pu_lss (by exact gu (oT rfl) hg) ot)) rfl ?_
          refine oG rfl rfl rfl (gm (oT rfl)) (fun hg => by (have hg1 := hg.2; (try simp only [cq2] at hg1); exact pu_not (by exact gu (oT rfl) hg))) rfl ?_
          refine oP (pu_pick_and (oT rfl) (oT rfl)) rfl (tn (nn (tc (oT rfl) (fun c66 => ?_) (fun c66 => ?_))))
          · try simp only [cq] at c66
            have hnx := (down_step (p := (fun x => !ltc c x d0[a]!)) (d := d0) (i := i) (j := j) (by omega) (by omega) (by show (!ltc c _ _) = true; rw [ltc_at (by omega) (by omega)]; simpa using c66.2)).symm.trans hj
            refine sk (nn (tb (te (ec 0 rfl (ec 1 rfl (ec 4 rfl (ec 12 rfl (ec 13 rfl en))))) (rg (mv rfl rfl (oP (pu_sub' (oT rfl) ot (by omega)) rfl (av rfl rfl (tn (bn (nn ?_))))))))))
            exact tg (j - 1) ⟨by omega, by omega, hnx⟩ (by omega) (ea (es_cons (t := 13) (by exact OT.val (oT rfl) (congrArg (Value.int _) (by omega))) en) (ec 0 rfl (ec 1 rfl (ec 4 rfl (ec 12 rfl en))))) (op (by repeat first | exact pn | refine pc 0 rfl ?_))
          · try simp only [cq] at c66
            have hde : i ≤ j → ltc c d0[j]! d0[a]! = true := fun h => by
             rw [ltc_at (by omega) (by omega)]
             rcases c66 with h9 | h9
             · omega
             · simpa using h9
            have hdn := hj.symm.trans (down_end (p := (fun x => !ltc c x d0[a]!)) (fun h => by show (!ltc c _ _) = false; rw [hde h]; rfl))
            refine tr_exit (tx (tx (bh (nn (sq (sq (te (ec 0 rfl (ec 1 rfl (ec 4 rfl (ec 12 rfl (ec 13 rfl en))))) (rg (mv rfl rfl (mv rfl rfl (oP (pu_gtr (oT rfl) (oT rfl)) rfl (tn (nn (tc (oT rfl) (fun c71 => ?_) (fun c71 => ?_)))))))))))))))
            · try simp only [cq] at c71
              refine sq (te (ec 0 rfl (ec 1 rfl (ec 13 rfl en))) ?_)
              apply tr_anyW (p := 13) (Lf := fun c => cond c ([OwnI 51 (kG Z) v (d0.toList.set (j : Int).toNat (at' d0.toList (a : Int)))]) ([OwnI 51 (kG Z) v d0.toList])) (by kernel_rfl) (m := 14) (ns := [[(0, none)], [(13, none)], [(0, none)], [(1, none)], [(0, none)], [(1, none)], [(76, some 4), (77, some 5)], [(78, some 6)], [(0, none)], [(13, none)], [(80, some 8), (81, some 9)], [(82, some 10)], [(72, some 0), (73, some 1)], [(79, some 7), (84, some 12)]]) (by kernel_rfl) (by kernel_rfl) (Ts := [_, _, _, _, _, _, _, _, _, _, _, _, _, _]) rfl
              case hops =>
               refine ⟨?_, ?_, ?_, ?_, ?_, ?_, ?_, ?_, ?_, ?_, ?_, ?_, ?_, ?_, trivial⟩
               · exact cAf (by kernel_rfl) fun _ => rw_ (rmv rfl)
               · exact cAf (by kernel_rfl) fun _ => rw_ (rmv rfl)
               · intro c hc; cases c <;> exact rw_ (rmv rfl)
               · intro c hc; cases c <;> exact rw_ (rmv rfl)
               · exact cAf (by kernel_rfl) fun _ => rw_ (rmv rfl)
               · exact cAf (by kernel_rfl) fun _ => rw_ (rmv rfl)
               · exact cAf (by kernel_rfl) fun _ => rw_ (rP (pio (oT rfl) (by exact mA 0 rfl) (oT rfl) Tryz.underlying36 y0 (by omega) (by omega)))
               · exact cAf (by kernel_rfl) fun _ => rw_ (rP (plo (oT rfl) (by exact mA 0 rfl) (by omega) (by omega) y0))
               · exact cAf (by kernel_rfl) fun _ => rw_ (rmv rfl)
               · exact cAf (by kernel_rfl) fun _ => rw_ (rmv rfl)
               · exact cAf (by kernel_rfl) fun _ => rw_ (rP (pio (oT rfl) (by exact mA 0 rfl) (oT rfl) Tryz.underlying36 y0 (by omega) (by omega)))
               · exact cAf (by kernel_rfl) fun _ => rw_ (rP (plo (oT rfl) (by exact mA 0 rfl) (by omega) (by omega) y0))
               · exact cAf (by kernel_rfl) fun _ => rw_ (rP (pio (oT rfl) (by exact mA 0 rfl) (oT rfl) Tryz.underlying36 y0 (by omega) (by omega)))
               · exact cAf (by kernel_rfl) fun _ => ropw_acts rfl (acts_store_own0 (oT rfl) (oT rfl) (by exact pA 0 rfl) (by omega) (by omega) y0) (by exact pA 0 rfl) (fun _ => (by exact pA 0 rfl)) (fun _ _ _ _ h => h)
              case h =>
               refine oP (pio (oT rfl) (by exact mA 0 rfl) (oT rfl) Tryz.underlying36 y0 (by omega) (by (simp; omega))) rfl ?_
               refine oA (acts_store_own0 (oT rfl) (oT rfl) (by exact pA 0 rfl) (by omega) (by (simp; omega)) y0) (by exact pA 0 rfl) rfl rfl (fun _ _ => ?_)
               refine tn (nn (sq (te (ec 13 rfl en) ?_)))
               rw [sw (by omega) (by omega)]
               have hres : (Sort.partition (ltc c) d a b pv) = (j, true, Sort.swp d0 j a) := by subst hd0; exact partition_one hup hdn (by omega)
               refine rg (mv rfl rfl (av rfl rfl (ak rfl (tn (nn (tR (tt ?_)))))))
               exact ret_two .ret (.inl rfl) rfl () (OT.val (oT rfl) (congrArg (Value.int _) (by rw [hres]))) (OT.val (oT rfl) (congrArg Value.bool (by rw [hres]))) (fun _ _ h => h) trivial (by rw [hres]; exact pc 0 rfl pn)
            · try simp only [cq] at c71
              refine sk (nn (sq (te (ec 0 rfl (ec 1 rfl (ec 4 rfl (ec 12 rfl (ec 13 rfl en))))) ?_)))
              apply tr_anyW (p := 13) (Lf := fun c => cond c ([OwnI 51 (kG Z) v (d0.toList.set (i : Int).toNat (at' d0.toList (j : Int)))]) ([OwnI 51 (kG Z) v d0.toList])) (by kernel_rfl) (m := 14) (ns := [[(0, none)], [(12, none)], [(0, none)], [(13, none)], [(0, none)], [(13, none)], [(91, some 4), (92, some 5)], [(93, some 6)], [(0, none)], [(12, none)], [(95, some 8), (96, some 9)], [(97, some 10)], [(87, some 0), (88, some 1)], [(94, some 7), (99, some 12)]]) (by kernel_rfl) (by kernel_rfl) (Ts := [_, _, _, _, _, _, _, _, _, _, _, _, _, _]) rfl
              case hops =>
               refine ⟨?_, ?_, ?_, ?_, ?_, ?_, ?_, ?_, ?_, ?_, ?_, ?_, ?_, ?_, trivial⟩
               · exact cAf (by kernel_rfl) fun _ => rw_ (rmv rfl)
               · exact cAf (by kernel_rfl) fun _ => rw_ (rmv rfl)
               · intro c hc; cases c <;> exact rw_ (rmv rfl)
               · intro c hc; cases c <;> exact rw_ (rmv rfl)
               · exact cAf (by kernel_rfl) fun _ => rw_ (rmv rfl)
               · exact cAf (by kernel_rfl) fun _ => rw_ (rmv rfl)
               · exact cAf (by kernel_rfl) fun _ => rw_ (rP (pio (oT rfl) (by exact mA 0 rfl) (oT rfl) Tryz.underlying36 y0 (by omega) (by omega)))
               · exact cAf (by kernel_rfl) fun _ => rw_ (rP (plo (oT rfl) (by exact mA 0 rfl) (by omega) (by omega) y0))
               · exact cAf (by kernel_rfl) fun _ => rw_ (rmv rfl)
               · exact cAf (by kernel_rfl) fun _ => rw_ (rmv rfl)
               · exact cAf (by kernel_rfl) fun _ => rw_ (rP (pio (oT rfl) (by exact mA 0 rfl) (oT rfl) Tryz.underlying36 y0 (by omega) (by omega)))
               · exact cAf (by kernel_rfl) fun _ => rw_ (rP (plo (oT rfl) (by exact mA 0 rfl) (by omega) (by omega) y0))
               · exact cAf (by kernel_rfl) fun _ => rw_ (rP (pio (oT rfl) (by exact mA 0 rfl) (oT rfl) Tryz.underlying36 y0 (by omega) (by omega)))
               · exact cAf (by kernel_rfl) fun _ => ropw_acts rfl (acts_store_own0 (oT rfl) (oT rfl) (by exact pA 0 rfl) (by omega) (by omega) y0) (by exact pA 0 rfl) (fun _ => (by exact pA 0 rfl)) (fun _ _ _ _ h => h)
              case h =>
               refine oP (pio (oT rfl) (by exact mA 0 rfl) (oT rfl) Tryz.underlying36 y0 (by omega) (by (simp; omega))) rfl ?_
               refine oA (acts_store_own0 (oT rfl) (oT rfl) (by exact pA 0 rfl) (by omega) (by (simp; omega)) y0) (by exact pA 0 rfl) rfl rfl (fun _ _ => ?_)
               refine tn (nn (sq (te (ec 0 rfl (ec 1 rfl (ec 4 rfl (ec 12 rfl (ec 13 rfl en))))) ?_)))
               have hij : i ≤ j := by omega
               have hne : i ≠ j := fun e => by have h8 := hue (by omega); have h9 := hde hij; rw [← e] at h9; exact absurd (h8.symm.trans h9) (by simp)
               rw [sw (by omega) (by omega)]
               have hres : (Sort.partition (ltc c) d a b pv) = ((Sort.partLoop (ltc c) a (i + 1) (j - 1) (Sort.swp d0 i j)).1, false, Sort.swp (Sort.partLoop (ltc c) a (i + 1) (j - 1) (Sort.swp d0 i j)).2 (Sort.partLoop (ltc c) a (i + 1) (j - 1) (Sort.swp d0 i j)).1 a) := by subst hd0; exact partition_two hup hdn (by omega)
               have hs1 : (Sort.swp d0 i j).size = d.size := swp_size.trans hs0
               refine rg (mv rfl rfl (oP (pad (oT rfl) ot (by omega)) rfl (av rfl rfl (tn (nn (sq (te (ec 0 rfl (ec 1 rfl (ec 4 rfl (ec 12 rfl (ec 13 rfl en))))) (rg (mv rfl rfl (oP (pu_sub' (oT rfl) ot (by omega)) rfl (av rfl rfl (tn (nn (sq (tb (tr_loopK (σ := Nat × Nat × DA) (ec 0 rfl (ec 1 rfl (ec 4 rfl en))) (fun s => [(12, I64 (s.1 : Int)), (13, I64 (s.2.1 : Int))]) (fun s => [OwnI 51 (kG Z) v s.2.2.toList]) (fun s => s.2.2.size = d.size ∧ a + 1 ≤ s.1 ∧ s.1 ≤ s.2.1 + 1 ∧ s.2.1 < b ∧ Sort.partLoop (ltc c) a s.1 s.2.1 s.2.2 = Sort.partLoop (ltc c) a (i + 1) (j - 1) (Sort.swp d0 i j)) (fun s => s.2.1 + 1 - s.1) (i + 1, j - 1, Sort.swp d0 i j) ⟨hs1, by show a + 1 ≤ i + 1; omega, by show i + 1 ≤ j - 1 + 1; omega, by show j - 1 < b; omega, rfl⟩ ?_ (op (by repeat first | exact pn | refine pc 0 rfl ?_)) ?_))))))))))))))))
               · exact (ec 12 rfl (es_cons (t := 13) (by exact OT.val (oT rfl) (congrArg (Value.int _) (by (simp; omega)))) en))
               · rintro ⟨i1, j1, d1⟩ ⟨hs2, hi2, hij1, hjb, hr⟩
                 dsimp only at hs2 hi2 hij1 hjb hr ⊢
                 have hl1 : d1.toList.length = d1.size := Array.length_toList
                 refine tb (sq (tb (tr_loopK (σ := Nat) (ec 0 rfl (ec 1 rfl (ec 4 rfl (ec 13 rfl en)))) (fun s => [(12, I64 (s : Int))]) (fun s => [OwnI 51 (kG Z) v d1.toList]) (fun s => i1 ≤ s ∧ s ≤ j1 + 1 ∧ Sort.scanUp (fun x => ltc c x d1[a]!) d1 (j1) s = Sort.scanUp (fun x => ltc c x d1[a]!) d1 (j1) (i1)) (fun s => j1 + 1 - s) i1 ⟨by omega, by omega, rfl⟩ ?_ (op (by repeat first | exact pn | refine pc 0 rfl ?_)) ?_)))
                 · exact (ec 12 rfl en)
                 · rintro i2 ⟨hi30, hi31, hi3⟩
                   refine sq (sq (te (ec 0 rfl (ec 1 rfl (ec 4 rfl (ec 12 rfl (ec 13 rfl en))))) ?_))
                   apply tr_any (m := 13) (ns := [[(12, none)], [(13, none)], [(105, some 0), (106, some 1)], [(107, some 2)], [(4, none), (108, some 3)], [(0, none), (108, some 3)], [(12, none), (108, some 3)], [(108, some 3), (110, some 5), (111, some 6)], [(108, some 3), (112, some 7)], [(0, none), (108, some 3)], [(1, none), (108, some 3)], [(108, some 3), (114, some 9), (115, some 10)], [(108, some 3), (116, some 11)]]) (by kernel_rfl) (by kernel_rfl) (Ts := [_, _, _, _, _, _, _, _, _, _, _, _, _]) rfl
                   case hops =>
                    refine ⟨?_, ?_, ?_, ?_, ?_, ?_, ?_, ?_, ?_, ?_, ?_, ?_, ?_, trivial⟩
                    · exact rmv rfl
                    · exact rmv rfl
                    · exact rP (pu_leq (oT rfl) (oT rfl))
                    · exact rmv rfl
                    · exact rG rfl rfl rfl (gm (oT rfl)) (fun hg => by (have hg1 := hg.2; exact rmv rfl))
                    · exact rG rfl rfl rfl (gm (oT rfl)) (fun hg => by (have hg1 := hg.2; exact rmv rfl))
                    · exact rG rfl rfl rfl (gm (oT rfl)) (fun hg => by (have hg1 := hg.2; exact rmv rfl))
                    · exact rG rfl rfl rfl (gm (oT rfl)) (fun hg => by (have hg1 := hg.2; exact rP (pio (by exact gu (oT rfl) hg) (by exact mA 0 rfl) (by exact gu (oT rfl) hg) Tryz.underlying36 y0 (by omega) (by (simp [maxLen] at *; omega)))))
                    · exact rG rfl rfl rfl (gm (oT rfl)) (fun hg => by (have hg1 := hg.2; exact rP (plo (by exact gu (oT rfl) hg) (by exact mA 0 rfl) (by omega) (by (simp [maxLen] at *; omega)) y0)))
                    · exact rG rfl rfl rfl (gm (oT rfl)) (fun hg => by (have hg1 := hg.2; exact rmv rfl))
                    · exact rG rfl rfl rfl (gm (oT rfl)) (fun hg => by (have hg1 := hg.2; exact rmv rfl))
                    · exact rG rfl rfl rfl (gm (oT rfl)) (fun hg => by (have hg1 := hg.2; exact rP (pio (by exact gu (oT rfl) hg) (by exact mA 0 rfl) (by exact gu (oT rfl) hg) Tryz.underlying36 y0 (by omega) (by omega))))
                    · exact rG rfl rfl rfl (gm (oT rfl)) (fun hg => by (have hg1 := hg.2; exact rP (plo (by exact gu (oT rfl) hg) (by exact mA 0 rfl) (by omega) (by omega) y0)))
                   case h =>
                    refine op_gu_acts () rfl rfl rfl (gm (oT rfl)) (fun hg => by (have hg1 := hg.2; (try simp only [cq2] at hg1); exact acts_callv (by exact gu (oT rfl) hg) (hfv _ _) (oc (by exact gu (oT rfl) hg) (oc (by exact gu (oT rfl) hg) oN)) pR)) rfl (fun _ _ => ?_)
                    refine oG rfl rfl rfl (gm (oT rfl)) (fun hg => by (have hg1 := hg.2; (try simp only [cq2] at hg1); exact pu_lss (by exact gu (oT rfl) hg) ot)) rfl ?_
                    refine oP (pu_pick_and (oT rfl) (oT rfl)) rfl (tn (nn (tc (oT rfl) (fun c120 => ?_) (fun c120 => ?_))))
                    · try simp only [cq] at c120
                      have hnx := (up_step (p := (fun x => ltc c x d1[a]!)) (d := d1) (j := j1) (i := i2) (by omega) (by show ltc c _ _ = true; rw [ltc_at (by omega) (by omega)]; simpa using c120.2)).symm.trans hi3
                      refine sk (nn (tb (te (ec 0 rfl (ec 1 rfl (ec 4 rfl (ec 12 rfl (ec 13 rfl en))))) (rg (mv rfl rfl (oP (pad (oT rfl) ot (by omega)) rfl (av rfl rfl (tn (bn (nn ?_))))))))))
                      exact tg (i2 + 1) ⟨by omega, by omega, hnx⟩ (by omega) (ea (ec 12 rfl en) (ec 0 rfl (ec 1 rfl (ec 4 rfl (ec 13 rfl en))))) (op (by repeat first | exact pn | refine pc 0 rfl ?_))
                    · try simp only [cq] at c120
                      have hue1 : i2 ≤ j1 → ltc c d1[i2]! d1[a]! = false := fun h => by
                       rw [ltc_at (by omega) (by omega)]
                       rcases c120 with h9 | h9
                       · omega
                       · simpa using h9
                      have hup1 := hi3.symm.trans (up_end hue1)
                      refine tr_exit (tx (tx (bh (nn (sq (tb (tr_loopK (σ := Nat) (ec 0 rfl (ec 1 rfl (ec 4 rfl (ec 12 rfl en)))) (fun s => [(13, I64 (s : Int))]) (fun s => [OwnI 51 (kG Z) v d1.toList]) (fun s => s ≤ j1 ∧ i2 ≤ s + 1 ∧ Sort.scanDown (fun x => !ltc c x d1[a]!) d1 i2 s = Sort.scanDown (fun x => !ltc c x d1[a]!) d1 i2 j1) (fun s => s) j1 ⟨by omega, by omega, rfl⟩ ?_ (op (by repeat first | exact pn | refine pc 0 rfl ?_)) ?_)))))))
                      · exact (ec 13 rfl en)
                      · rintro j2 ⟨hj40, hj41, hj4⟩
                        refine sq (sq (te (ec 0 rfl (ec 1 rfl (ec 4 rfl (ec 12 rfl (ec 13 rfl en))))) ?_))
                        apply tr_any (m := 13) (ns := [[(12, none)], [(13, none)], [(123, some 0), (124, some 1)], [(125, some 2)], [(4, none), (126, some 3)], [(0, none), (126, some 3)], [(13, none), (126, some 3)], [(126, some 3), (128, some 5), (129, some 6)], [(126, some 3), (130, some 7)], [(0, none), (126, some 3)], [(1, none), (126, some 3)], [(126, some 3), (132, some 9), (133, some 10)], [(126, some 3), (134, some 11)]]) (by kernel_rfl) (by kernel_rfl) (Ts := [_, _, _, _, _, _, _, _, _, _, _, _, _]) rfl
                        case hops =>
                         refine ⟨?_, ?_, ?_, ?_, ?_, ?_, ?_, ?_, ?_, ?_, ?_, ?_, ?_, trivial⟩
                         · exact rmv rfl
                         · exact rmv rfl
                         · exact rP (pu_leq (oT rfl) (oT rfl))
                         · exact rmv rfl
                         · exact rG rfl rfl rfl (gm (oT rfl)) (fun hg => by (have hg1 := hg.2; exact rmv rfl))
                         · exact rG rfl rfl rfl (gm (oT rfl)) (fun hg => by (have hg1 := hg.2; exact rmv rfl))
                         · exact rG rfl rfl rfl (gm (oT rfl)) (fun hg => by (have hg1 := hg.2; exact rmv rfl))
                         · exact rG rfl rfl rfl (gm (oT rfl)) (fun hg => by (have hg1 := hg.2; exact rP (pio (by exact gu (oT rfl) hg) (by exact mA 0 rfl) (by exact gu (oT rfl) hg) Tryz.underlying36 y0 (by omega) (by omega))))
                         · exact rG rfl rfl rfl (gm (oT rfl)) (fun hg => by (have hg1 := hg.2; exact rP (plo (by exact gu (oT rfl) hg) (by exact mA 0 rfl) (by omega) (by omega) y0)))
                         · exact rG rfl rfl rfl (gm (oT rfl)) (fun hg => by (have hg1 := hg.2; exact rmv rfl))
                         · exact rG rfl rfl rfl (gm (oT rfl)) (fun hg => by (have hg1 := hg.2; exact rmv rfl))
                         · exact rG rfl rfl rfl (gm (oT rfl)) (fun hg => by (have hg1 := hg.2; exact rP (pio (by exact gu (oT rfl) hg) (by exact mA 0 rfl) (by exact gu (oT rfl) hg) Tryz.underlying36 y0 (by omega) (by omega))))
                         · exact rG rfl rfl rfl (gm (oT rfl)) (fun hg => by (have hg1 := hg.2; exact rP (plo (by exact gu (oT rfl) hg) (by exact mA 0 rfl) (by omega) (by omega) y0)))
                        case h =>
                         refine op_gu_acts () rfl rfl rfl (gm (oT rfl)) (fun hg => by (have hg1 := hg.2; (try simp only [cq2] at hg1); exact acts_callv (by exact gu (oT rfl) hg) (hfv _ _) (oc (by exact gu (oT rfl) hg) (oc (by exact gu (oT rfl) hg) oN)) pR)) rfl (fun _ _ => ?_)
                         refine oG rfl rfl rfl (gm (oT rfl)) (fun hg => by (have hg1 := hg.2; (try simp only [cq2] at hg1); exact pu_lss (by exact gu (oT rfl) hg) ot)) rfl ?_
                         refine oG rfl rfl rfl (gm (oT rfl)) (fun hg => by (have hg1 := hg.2; (try simp only [cq2] at hg1); exact pu_not (by exact gu (oT rfl) hg))) rfl ?_
                         refine oP (pu_pick_and (oT rfl) (oT rfl)) rfl (tn (nn (tc (oT rfl) (fun c139 => ?_) (fun c139 => ?_))))
                         · try simp only [cq] at c139
                           have hnx := (down_step (p := (fun x => !ltc c x d1[a]!)) (d := d1) (i := i2) (j := j2) (by omega) (by omega) (by show (!ltc c _ _) = true; rw [ltc_at (by omega) (by omega)]; simpa using c139.2)).symm.trans hj4
                           refine sk (nn (tb (te (ec 0 rfl (ec 1 rfl (ec 4 rfl (ec 12 rfl (ec 13 rfl en))))) (rg (mv rfl rfl (oP (pu_sub' (oT rfl) ot (by omega)) rfl (av rfl rfl (tn (bn (nn ?_))))))))))
                           exact tg (j2 - 1) ⟨by omega, by omega, hnx⟩ (by omega) (ea (es_cons (t := 13) (by exact OT.val (oT rfl) (congrArg (Value.int _) (by omega))) en) (ec 0 rfl (ec 1 rfl (ec 4 rfl (ec 12 rfl en))))) (op (by repeat first | exact pn | refine pc 0 rfl ?_))
                         · try simp only [cq] at c139
                           have hde1 : i2 ≤ j2 → ltc c d1[j2]! d1[a]! = true := fun h => by
                            rw [ltc_at (by omega) (by omega)]
                            rcases c139 with h9 | h9
                            · omega
                            · simpa using h9
                           have hdn1 := hj4.symm.trans (down_end (p := (fun x => !ltc c x d1[a]!)) (fun h => by show (!ltc c _ _) = false; rw [hde1 h]; rfl))
                           refine tr_exit (tx (tx (bh (nn (sq (sq (te (ec 0 rfl (ec 1 rfl (ec 4 rfl (ec 12 rfl (ec 13 rfl en))))) (rg (mv rfl rfl (mv rfl rfl (oP (pu_gtr (oT rfl) (oT rfl)) rfl (tn (nn (tc (oT rfl) (fun c144 => ?_) (fun c144 => ?_)))))))))))))))
                           · try simp only [cq] at c144
                             have hR := hr.symm.trans (part_end hup1 hdn1 (by omega))
                             refine tr_exit (tx (block_pass rfl (tx (bh (nn (sq (te (ec 0 rfl (ec 1 rfl (ec 13 rfl en))) ?_)))))))
                             apply tr_anyW (p := 13) (Lf := fun c => cond c ([OwnI 51 (kG Z) v (d1.toList.set (j2 : Int).toNat (at' d1.toList (a : Int)))]) ([OwnI 51 (kG Z) v d1.toList])) (by kernel_rfl) (m := 14) (ns := [[(0, none)], [(13, none)], [(0, none)], [(1, none)], [(0, none)], [(1, none)], [(167, some 4), (168, some 5)], [(169, some 6)], [(0, none)], [(13, none)], [(171, some 8), (172, some 9)], [(173, some 10)], [(163, some 0), (164, some 1)], [(170, some 7), (175, some 12)]]) (by kernel_rfl) (by kernel_rfl) (Ts := [_, _, _, _, _, _, _, _, _, _, _, _, _, _]) rfl
                             case hops =>
                              refine ⟨?_, ?_, ?_, ?_, ?_, ?_, ?_, ?_, ?_, ?_, ?_, ?_, ?_, ?_, trivial⟩
                              · exact cAf (by kernel_rfl) fun _ => rw_ (rmv rfl)
                              · exact cAf (by kernel_rfl) fun _ => rw_ (rmv rfl)
                              · intro c hc; cases c <;> exact rw_ (rmv rfl)
                              · intro c hc; cases c <;> exact rw_ (rmv rfl)
                              · exact cAf (by kernel_rfl) fun _ => rw_ (rmv rfl)
                              · exact cAf (by kernel_rfl) fun _ => rw_ (rmv rfl)
                              · exact cAf (by kernel_rfl) fun _ => rw_ (rP (pio (oT rfl) (by exact mA 0 rfl) (oT rfl) Tryz.underlying36 y0 (by omega) (by omega)))
                              · exact cAf (by kernel_rfl) fun _ => rw_ (rP (plo (oT rfl) (by exact mA 0 rfl) (by omega) (by omega) y0))
                              · exact cAf (by kernel_rfl) fun _ => rw_ (rmv rfl)
                              · exact cAf (by kernel_rfl) fun _ => rw_ (rmv rfl)
                              · exact cAf (by kernel_rfl) fun _ => rw_ (rP (pio (oT rfl) (by exact mA 0 rfl) (oT rfl) Tryz.underlying36 y0 (by omega) (by omega)))
                              · exact cAf (by kernel_rfl) fun _ => rw_ (rP (plo (oT rfl) (by exact mA 0 rfl) (by omega) (by omega) y0))
                              · exact cAf (by kernel_rfl) fun _ => rw_ (rP (pio (oT rfl) (by exact mA 0 rfl) (oT rfl) Tryz.underlying36 y0 (by omega) (by omega)))
                              · exact cAf (by kernel_rfl) fun _ => ropw_acts rfl (acts_store_own0 (oT rfl) (oT rfl) (by exact pA 0 rfl) (by omega) (by omega) y0) (by exact pA 0 rfl) (fun _ => (by exact pA 0 rfl)) (fun _ _ _ _ h => h)
                             case h =>
                              refine oP (pio (oT rfl) (by exact mA 0 rfl) (oT rfl) Tryz.underlying36 y0 (by omega) (by (simp; omega))) rfl ?_
                              refine oA (acts_store_own0 (oT rfl) (oT rfl) (by exact pA 0 rfl) (by omega) (by (simp; omega)) y0) (by exact pA 0 rfl) rfl rfl (fun _ _ => ?_)
                              refine tn (nn (sq (te (ec 13 rfl en) ?_)))
                              rw [sw (by omega) (by omega)]
                              rw [hR] at hres
                              refine rg (mv rfl rfl (av rfl rfl (ak rfl (tn (nn (tR ?_))))))
                              exact ret_two .ret (.inl rfl) rfl () (OT.val (oT rfl) (congrArg (Value.int _) (by rw [hres]))) (OT.val (oT rfl) (congrArg Value.bool (by rw [hres]))) (fun _ _ h => h) trivial (by rw [hres]; exact pc 0 rfl pn)
                           · try simp only [cq] at c144
                             have hij2 : i2 ≤ j2 := by omega
                             have hne2 : i2 ≠ j2 := fun e => by have h8 := hue1 (by omega); have h9 := hde1 hij2; rw [← e] at h9; exact absurd (h8.symm.trans h9) (by simp)
                             have hnx := (part_step hup1 hdn1 (by omega) (by omega)).symm.trans hr
                             refine sk (nn (sq (te (ec 0 rfl (ec 1 rfl (ec 4 rfl (ec 12 rfl (ec 13 rfl en))))) ?_)))
                             apply tr_anyW (p := 13) (Lf := fun c => cond c ([OwnI 51 (kG Z) v (d1.toList.set (i2 : Int).toNat (at' d1.toList (j2 : Int)))]) ([OwnI 51 (kG Z) v d1.toList])) (by kernel_rfl) (m := 14) (ns := [[(0, none)], [(12, none)], [(0, none)], [(13, none)], [(0, none)], [(13, none)], [(149, some 4), (150, some 5)], [(151, some 6)], [(0, none)], [(12, none)], [(153, some 8), (154, some 9)], [(155, some 10)], [(145, some 0), (146, some 1)], [(152, some 7), (157, some 12)]]) (by kernel_rfl) (by kernel_rfl) (Ts := [_, _, _, _, _, _, _, _, _, _, _, _, _, _]) rfl
                             case hops =>
                              refine ⟨?_, ?_, ?_, ?_, ?_, ?_, ?_, ?_, ?_, ?_, ?_, ?_, ?_, ?_, trivial⟩
                              · exact cAf (by kernel_rfl) fun _ => rw_ (rmv rfl)
                              · exact cAf (by kernel_rfl) fun _ => rw_ (rmv rfl)
                              · intro c hc; cases c <;> exact rw_ (rmv rfl)
                              · intro c hc; cases c <;> exact rw_ (rmv rfl)
                              · exact cAf (by kernel_rfl) fun _ => rw_ (rmv rfl)
                              · exact cAf (by kernel_rfl) fun _ => rw_ (rmv rfl)
                              · exact cAf (by kernel_rfl) fun _ => rw_ (rP (pio (oT rfl) (by exact mA 0 rfl) (oT rfl) Tryz.underlying36 y0 (by omega) (by omega)))
                              · exact cAf (by kernel_rfl) fun _ => rw_ (rP (plo (oT rfl) (by exact mA 0 rfl) (by omega) (by omega) y0))
                              · exact cAf (by kernel_rfl) fun _ => rw_ (rmv rfl)
                              · exact cAf (by kernel_rfl) fun _ => rw_ (rmv rfl)
                              · exact cAf (by kernel_rfl) fun _ => rw_ (rP (pio (oT rfl) (by exact mA 0 rfl) (oT rfl) Tryz.underlying36 y0 (by omega) (by omega)))
                              · exact cAf (by kernel_rfl) fun _ => rw_ (rP (plo (oT rfl) (by exact mA 0 rfl) (by omega) (by omega) y0))
                              · exact cAf (by kernel_rfl) fun _ => rw_ (rP (pio (oT rfl) (by exact mA 0 rfl) (oT rfl) Tryz.underlying36 y0 (by omega) (by omega)))
                              · exact cAf (by kernel_rfl) fun _ => ropw_acts rfl (acts_store_own0 (oT rfl) (oT rfl) (by exact pA 0 rfl) (by omega) (by omega) y0) (by exact pA 0 rfl) (fun _ => (by exact pA 0 rfl)) (fun _ _ _ _ h => h)
                             case h =>
                              refine oP (pio (oT rfl) (by exact mA 0 rfl) (oT rfl) Tryz.underlying36 y0 (by omega) (by (simp; omega))) rfl ?_
                              refine oA (acts_store_own0 (oT rfl) (oT rfl) (by exact pA 0 rfl) (by omega) (by (simp; omega)) y0) (by exact pA 0 rfl) rfl rfl (fun _ _ => ?_)
                              refine tn (nn (sq (te (ec 0 rfl (ec 1 rfl (ec 4 rfl (ec 12 rfl (ec 13 rfl en))))) ?_)))
                              rw [sw (by omega) (by omega)]
                              refine rg (mv rfl rfl (oP (pad (oT rfl) ot (by omega)) rfl (av rfl rfl (tn (nn (te (ec 0 rfl (ec 1 rfl (ec 4 rfl (ec 12 rfl (ec 13 rfl en))))) (rg (mv rfl rfl (oP (pu_sub' (oT rfl) ot (by omega)) rfl (av rfl rfl (tn (bn (nn ?_)))))))))))))
                              exact tg (i2 + 1, j2 - 1, Sort.swp d1 i2 j2) ⟨swp_size.trans hs2, by show a + 1 ≤ i2 + 1; omega, by show i2 + 1 ≤ j2 - 1 + 1; omega, by show j2 - 1 < b; omega, hnx⟩ (by show j2 - 1 + 1 - (i2 + 1) < j1 + 1 - i1; omega) (ea (ec 12 rfl (es_cons (t := 13) (by exact OT.val (oT rfl) (congrArg (Value.int _) (by (simp; omega)))) en)) (ec 0 rfl (ec 1 rfl (ec 4 rfl en)))) (op (by repeat first | exact pn | refine pc 0 rfl ?_))
end Go.Proofs.YtklhdalppmjnaaaGreatDoor
/- Walks through the Go functions api.Tuple], as typed contracts. -/
namespace Go.Proofs.YtklhdalppmjnaaaGreatDoor
open Go Go.Gw Go.So
set_option linter.unusedVariables false
set_option linter.unusedSimpArgs false
variable {Z : SlTy}

set_option maxHeartbeats 1000000 in
set_option maxRecDepth 20000 in
/-- slices.partitionEqualCmpFunc[rhizome/api.Tuple] -/
theorem parteq_fn (v fv : Value) (d : DA) (a b pv : Nat) (c : List Int → List Int → Int) (hm : d.size < 4611686018427387904) (hap : a ≤ pv) (hpb : pv < b) (hb : b ≤ d.size) (hfv : ∀ x y, CtV Tryz.prog fv [(kG Z).T x, (kG Z).T y] [] Unit (fun _ => I64 (c x y)) (fun _ => []) (fun _ => True)) : Ct Tryz.prog 124 [IsV v, I64 (a : Int), I64 (b : Int), I64 (pv : Int), IsV fv] ([OwnI 51 (kG Z) v d.toList]) Unit (fun _ => I64 ((Sort.partitionEqual (ltc c) d a b pv).1 : Int)) (fun _ => [OwnI 51 (kG Z) v (Sort.partitionEqual (ltc c) d a b pv).2.toList]) (fun _ => True) := by
 refine fn_intro Tryz.func124 rfl rfl ?_
 intro H w
 have hl : d.toList.length = d.size := Array.length_toList
 refine sq (te (ec 0 rfl (ec 1 rfl (ec 2 rfl (ec 3 rfl (ec 4 rfl en))))) (rg (ak rfl (tn (nn (sq (te (ec 0 rfl (ec 1 rfl (ec 2 rfl (ec 3 rfl (ec 4 rfl en))))) ?_)))))))
 apply tr_anyW (p := 13) (Lf := fun c => cond c ([OwnI 51 (kG Z) v (d.toList.set (a : Int).toNat (at' d.toList (pv : Int)))]) ([OwnI 51 (kG Z) v d.toList])) (by kernel_rfl) (m := 14) (ns := [[(0, none)], [(1, none)], [(0, none)], [(3, none)], [(0, none)], [(3, none)], [(17, some 4), (18, some 5)], [(19, some 6)], [(0, none)], [(1, none)], [(21, some 8), (22, some 9)], [(23, some 10)], [(13, some 0), (14, some 1)], [(20, some 7), (25, some 12)]]) (by kernel_rfl) (by kernel_rfl) (Ts := [_, _, _, _, _, _, _, _, _, _, _, _, _, _]) rfl
 case hops =>
  refine ⟨?_, ?_, ?_, ?_, ?_, ?_, ?_, ?_, ?_, ?_, ?_, ?_, ?_, ?_, trivial⟩
  · exact cAf (by kernel_rfl) fun _ => rw_ (rmv rfl)
  · exact cAf (by kernel_rfl) fun _ => rw_ (rmv rfl)
  · intro c hc; cases c <;> exact rw_ (rmv rfl)
  · intro c hc; cases c <;> exact rw_ (rmv rfl)
  · exact cAf (by kernel_rfl) fun _ => rw_ (rmv rfl)
  · exact cAf (by kernel_rfl) fun _ => rw_ (rmv rfl)
  · exact cAf (by kernel_rfl) fun _ => rw_ (rP (pio (oT rfl) (by exact mA 0 rfl) (oT rfl) Tryz.underlying36 y0 (by omega) (by omega)))
  · exact cAf (by kernel_rfl) fun _ => rw_ (rP (plo (oT rfl) (by exact mA 0 rfl) (by omega) (by omega) y0))
  · exact cAf (by kernel_rfl) fun _ => rw_ (rmv rfl)
  · exact cAf (by kernel_rfl) fun _ => rw_ (rmv rfl)
  · exact cAf (by kernel_rfl) fun _ => rw_ (rP (pio (oT rfl) (by exact mA 0 rfl) (oT rfl) Tryz.underlying36 y0 (by omega) (by omega)))
  · exact cAf (by kernel_rfl) fun _ => rw_ (rP (plo (oT rfl) (by exact mA 0 rfl) (by omega) (by omega) y0))
  · exact cAf (by kernel_rfl) fun _ => rw_ (rP (pio (oT rfl) (by exact mA 0 rfl) (oT rfl) Tryz.underlying36 y0 (by omega) (by omega)))
  · exact cAf (by kernel_rfl) fun _ => ropw_acts rfl (acts_store_own0 (oT rfl) (oT rfl) (by exact pA 0 rfl) (by omega) (by omega) y0) (by exact pA 0 rfl) (fun _ => (by exact pA 0 rfl)) (fun _ _ _ _ h => h)
 case h =>
  refine oP (pio (oT rfl) (by exact mA 0 rfl) (oT rfl) Tryz.underlying36 y0 (by omega) (by (simp; omega))) rfl ?_
  refine oA (acts_store_own0 (oT rfl) (oT rfl) (by exact pA 0 rfl) (by omega) (by (simp; omega)) y0) (by exact pA 0 rfl) rfl rfl (fun _ _ => ?_)
  refine tn (nn (sq (te (ec 0 rfl (ec 1 rfl (ec 2 rfl (ec 4 rfl en)))) ?_)))
  rw [sw (by omega) (by omega)]
  have hs0 : (Sort.swp d a pv).size = d.size := swp_size
  refine rg (mv rfl rfl (oP (pad (oT rfl) ot (by omega)) rfl (mv rfl rfl (oP (pu_sub' (oT rfl) ot (by omega)) rfl (av rfl rfl (av rfl rfl (tn (nn (sq (tb ?_))))))))))
  rw [show (b : Int) - 1 = ((b - 1 : Nat) : Int) from by omega]
  refine tr_loopK (σ := Nat × Nat × DA) (ec 0 rfl (ec 1 rfl (ec 4 rfl en))) (fun s => [(11, I64 (s.1 : Int)), (12, I64 (s.2.1 : Int))]) (fun s => [OwnI 51 (kG Z) v s.2.2.toList]) (fun s => s.2.2.size = d.size ∧ a + 1 ≤ s.1 ∧ s.1 ≤ s.2.1 + 1 ∧ s.2.1 < b ∧ Sort.partEqLoop (ltc c) a s.1 s.2.1 s.2.2 = (Sort.partitionEqual (ltc c) d a b pv)) (fun s => s.2.1 + 1 - s.1) (a + 1, b - 1, Sort.swp d a pv) ⟨hs0, Nat.le_refl _, by show a + 1 ≤ b - 1 + 1; omega, by show b - 1 < b; omega, rfl⟩ ?_ (op (by repeat first | exact pn | refine pc 0 rfl ?_)) ?_
  · exact (ec 11 rfl (ec 12 rfl en))
  · rintro ⟨i1, j1, d1⟩ ⟨hs2, hi2, hij1, hjb, hr⟩
    dsimp only at hs2 hi2 hij1 hjb hr ⊢
    have hl1 : d1.toList.length = d1.size := Array.length_toList
    refine tb (sq (tb (tr_loopK (σ := Nat) (ec 0 rfl (ec 1 rfl (ec 4 rfl (ec 12 rfl en)))) (fun s => [(11, I64 (s : Int))]) (fun s => [OwnI 51 (kG Z) v d1.toList]) (fun s => i1 ≤ s ∧ s ≤ j1 + 1 ∧ Sort.scanUp (fun x => !ltc c d1[a]! x) d1 (j1) s = Sort.scanUp (fun x => !ltc c d1[a]! x) d1 (j1) (i1)) (fun s => j1 + 1 - s) i1 ⟨by omega, by omega, rfl⟩ ?_ (op (by repeat first | exact pn | refine pc 0 rfl ?_)) ?_)))
    · exact (ec 11 rfl en)
    · rintro i2 ⟨hi30, hi31, hi3⟩
      refine sq (sq (te (ec 0 rfl (ec 1 rfl (ec 4 rfl (ec 11 rfl (ec 12 rfl en))))) ?_))
      apply tr_any (m := 13) (ns := [[(11, none)], [(12, none)], [(31, some 0), (32, some 1)], [(33, some 2)], [(4, none), (34, some 3)], [(0, none), (34, some 3)], [(1, none), (34, some 3)], [(34, some 3), (36, some 5), (37, some 6)], [(34, some 3), (38, some 7)], [(0, none), (34, some 3)], [(11, none), (34, some 3)], [(34, some 3), (40, some 9), (41, some 10)], [(34, some 3), (42, some 11)]]) (by kernel_rfl) (by kernel_rfl) (Ts := [_, _, _, _, _, _, _, _, _, _, _, _, _]) rfl
      case hops =>
       refine ⟨?_, ?_, ?_, ?_, ?_, ?_, ?_, ?_, ?_, ?_, ?_, ?_, ?_, trivial⟩
       · exact rmv rfl
       · exact rmv rfl
       · exact rP (pu_leq (oT rfl) (oT rfl))
       · exact rmv rfl
       · exact rG rfl rfl rfl (gm (oT rfl)) (fun hg => by (have hg1 := hg.2; exact rmv rfl))
       · exact rG rfl rfl rfl (gm (oT rfl)) (fun hg => by (have hg1 := hg.2; exact rmv rfl))
       · exact rG rfl rfl rfl (gm (oT rfl)) (fun hg => by (have hg1 := hg.2; exact rmv rfl))
       · exact rG rfl rfl rfl (gm (oT rfl)) (fun hg => by (have hg1 := hg.2; exact rP (pio (by exact gu (oT rfl) hg) (by exact mA 0 rfl) (by exact gu (oT rfl) hg) Tryz.underlying36 y0 (by omega) (by omega))))
       · exact rG rfl rfl rfl (gm (oT rfl)) (fun hg => by (have hg1 := hg.2; exact rP (plo (by exact gu (oT rfl) hg) (by exact mA 0 rfl) (by omega) (by omega) y0)))
       · exact rG rfl rfl rfl (gm (oT rfl)) (fun hg => by (have hg1 := hg.2; exact rmv rfl))
       · exact rG rfl rfl rfl (gm (oT rfl)) (fun hg => by (have hg1 := hg.2; exact rmv rfl))
       · exact rG rfl rfl rfl (gm (oT rfl)) (fun hg => by (have hg1 := hg.2; exact rP (pio (by exact gu (oT rfl) hg) (by exact mA 0 rfl) (by exact gu (oT rfl) hg) Tryz.underlying36 y0 (by omega) (by (simp [maxLen] at *; omega)))))
       · exact rG rfl rfl rfl (gm (oT rfl)) (fun hg => by (have hg1 := hg.2; exact rP (plo (by exact gu (oT rfl) hg) (by exact mA 0 rfl) (by omega) (by (simp [maxLen] at *; omega)) y0)))
      case h =>
       refine op_gu_acts () rfl rfl rfl (gm (oT rfl)) (fun hg => by (have hg1 := hg.2; (try simp only [cq2] at hg1); exact acts_callv (by exact gu (oT rfl) hg) (hfv _ _) (oc (by exact gu (oT rfl) hg) (oc (by exact gu (oT rfl) hg) oN)) pR)) rfl (fun _ _ => ?_)
       refine oG rfl rfl rfl (gm (oT rfl)) (fun hg => by (have hg1 := hg.2; (try simp only [cq2] at hg1); exact pu_lss (by exact gu (oT rfl) hg) ot)) rfl ?_
       refine oG rfl rfl rfl (gm (oT rfl)) (fun hg => by (have hg1 := hg.2; (try simp only [cq2] at hg1); exact pu_not (by exact gu (oT rfl) hg))) rfl ?_
       refine oP (pu_pick_and (oT rfl) (oT rfl)) rfl (tn (nn (tc (oT rfl) (fun c47 => ?_) (fun c47 => ?_))))
       · try simp only [cq] at c47
         have hnx := (up_step (p := (fun x => !ltc c d1[a]! x)) (d := d1) (j := j1) (i := i2) (by omega) (by show (!ltc c _ _) = true; rw [ltc_at (by omega) (by omega)]; simpa using c47.2)).symm.trans hi3
         refine sk (nn (tb (te (ec 0 rfl (ec 1 rfl (ec 4 rfl (ec 11 rfl (ec 12 rfl en))))) (rg (mv rfl rfl (oP (pad (oT rfl) ot (by omega)) rfl (av rfl rfl (tn (bn (nn ?_))))))))))
         exact tg (i2 + 1) ⟨by omega, by omega, hnx⟩ (by omega) (ea (ec 11 rfl en) (ec 0 rfl (ec 1 rfl (ec 4 rfl (ec 12 rfl en))))) (op (by repeat first | exact pn | refine pc 0 rfl ?_))
       · try simp only [cq] at c47
         have hue1 : i2 ≤ j1 → ltc c d1[a]! d1[i2]! = true := fun h => by
          rw [ltc_at (by omega) (by omega)]
          rcases c47 with h9 | h9
          · omega
          · simpa using h9
         have hup1 := hi3.symm.trans (up_end (p := (fun x => !ltc c d1[a]! x)) (fun h => by show (!ltc c _ _) = false; rw [hue1 h]; rfl))
         refine tr_exit (tx (tx (bh (nn (sq (tb (tr_loopK (σ := Nat) (ec 0 rfl (ec 1 rfl (ec 4 rfl (ec 11 rfl en)))) (fun s => [(12, I64 (s : Int))]) (fun s => [OwnI 51 (kG Z) v d1.toList]) (fun s => s ≤ j1 ∧ i2 ≤ s + 1 ∧ Sort.scanDown (fun x => ltc c d1[a]! x) d1 i2 s = Sort.scanDown (fun x => ltc c d1[a]! x) d1 i2 j1) (fun s => s) j1 ⟨by omega, by omega, rfl⟩ ?_ (op (by repeat first | exact pn | refine pc 0 rfl ?_)) ?_)))))))
         · exact (ec 12 rfl en)
         · rintro j2 ⟨hj40, hj41, hj4⟩
           refine sq (sq (te (ec 0 rfl (ec 1 rfl (ec 4 rfl (ec 11 rfl (ec 12 rfl en))))) ?_))
           apply tr_any (m := 13) (ns := [[(11, none)], [(12, none)], [(50, some 0), (51, some 1)], [(52, some 2)], [(4, none), (53, some 3)], [(0, none), (53, some 3)], [(1, none), (53, some 3)], [(53, some 3), (55, some 5), (56, some 6)], [(53, some 3), (57, some 7)], [(0, none), (53, some 3)], [(12, none), (53, some 3)], [(53, some 3), (59, some 9), (60, some 10)], [(53, some 3), (61, some 11)]]) (by kernel_rfl) (by kernel_rfl) (Ts := [_, _, _, _, _, _, _, _, _, _, _, _, _]) rfl
           case hops =>
            refine ⟨?_, ?_, ?_, ?_, ?_, ?_, ?_, ?_, ?_, ?_, ?_, ?_, ?_, trivial⟩
            · exact rmv rfl
            · exact rmv rfl
            · exact rP (pu_leq (oT rfl) (oT rfl))
            · exact rmv rfl
            · exact rG rfl rfl rfl (gm (oT rfl)) (fun hg => by (have hg1 := hg.2; exact rmv rfl))
            · exact rG rfl rfl rfl (gm (oT rfl)) (fun hg => by (have hg1 := hg.2; exact rmv rfl))
            · exact rG rfl rfl rfl (gm (oT rfl)) (fun hg => by (have hg1 := hg.2; exact rmv rfl))
            · exact rG rfl rfl rfl (gm (oT rfl)) (fun hg => by (have hg1 := hg.2; exact rP (pio (by exact gu (oT rfl) hg) (by exact mA 0 rfl) (by exact gu (oT rfl) hg) Tryz.underlying36 y0 (by omega) (by omega))))
            · exact rG rfl rfl rfl (gm (oT rfl)) (fun hg => by (have hg1 := hg.2; exact rP (plo (by exact gu (oT rfl) hg) (by exact mA 0 rfl) (by omega) (by omega) y0)))
            · exact rG rfl rfl rfl (gm (oT rfl)) (fun hg => by (have hg1 := hg.2; exact rmv rfl))
            · exact rG rfl rfl rfl (gm (oT rfl)) (fun hg => by (have hg1 := hg.2; exact rmv rfl))
            · exact rG rfl rfl rfl (gm (oT rfl)) (fun hg => by (have hg1 := hg.2; exact rP (pio (by exact gu (oT rfl) hg) (by exact mA 0 rfl) (by exact gu (oT rfl) hg) Tryz.underlying36 y0 (by omega) (by omega))))
            · exact rG rfl rfl rfl (gm (oT rfl)) (fun hg => by (have hg1 := hg.2; exact rP (plo (by exact gu (oT rfl) hg) (by exact mA 0 rfl) (by omega) (by omega) y0)))
           case h =>
            refine op_gu_acts () rfl rfl rfl (gm (oT rfl)) (fun hg => by (have hg1 := hg.2; (try simp only [cq2] at hg1); exact acts_callv (by exact gu (oT rfl) hg) (hfv _ _) (oc (by exact gu (oT rfl) hg) (oc (by exact gu (oT rfl) hg) oN)) pR)) rfl (fun _ _ => ?_)
            refine oG rfl rfl rfl (gm (oT rfl)) (fun hg => by (have hg1 := hg.2; (try simp only [cq2] at hg1); exact pu_lss (by exact gu (oT rfl) hg) ot)) rfl ?_
            refine oP (pu_pick_and (oT rfl) (oT rfl)) rfl (tn (nn (tc (oT rfl) (fun c65 => ?_) (fun c65 => ?_))))
            · try simp only [cq] at c65
              have hnx := (down_step (p := (fun x => ltc c d1[a]! x)) (d := d1) (i := i2) (j := j2) (by omega) (by omega) (by show ltc c _ _ = true; rw [ltc_at (by omega) (by omega)]; simpa using c65.2)).symm.trans hj4
              refine sk (nn (tb (te (ec 0 rfl (ec 1 rfl (ec 4 rfl (ec 11 rfl (ec 12 rfl en))))) (rg (mv rfl rfl (oP (pu_sub' (oT rfl) ot (by omega)) rfl (av rfl rfl (tn (bn (nn ?_))))))))))
              exact tg (j2 - 1) ⟨by omega, by omega, hnx⟩ (by omega) (ea (es_cons (t := 12) (by exact OT.val (oT rfl) (congrArg (Value.int _) (by omega))) en) (ec 0 rfl (ec 1 rfl (ec 4 rfl (ec 11 rfl en))))) (op (by repeat first | exact pn | refine pc 0 rfl ?_))
            · try simp only [cq] at c65
              have hde1 : i2 ≤ j2 → ltc c d1[a]! d1[j2]! = false := fun h => by
               rw [ltc_at (by omega) (by omega)]
               rcases c65 with h9 | h9
               · omega
               · simpa using h9
              have hdn1 := hj4.symm.trans (down_end (p := (fun x => ltc c d1[a]! x)) hde1)
              refine tr_exit (tx (tx (bh (nn (sq (sq (te (ec 0 rfl (ec 1 rfl (ec 4 rfl (ec 11 rfl (ec 12 rfl en))))) (rg (mv rfl rfl (mv rfl rfl (oP (pu_gtr (oT rfl) (oT rfl)) rfl (tn (nn (tc (oT rfl) (fun c70 => ?_) (fun c70 => ?_)))))))))))))))
              · try simp only [cq] at c70
                have hres := hr.symm.trans (partE_end hup1 hdn1 (by omega))
                refine tr_exit (tx (block_pass rfl (tx (bh (nn (sq (te (ec 11 rfl en) (rg (mv rfl rfl (av rfl rfl (tn (nn (tR ?_)))))))))))))
                exact ret_one .ret (.inl rfl) rfl () (OT.val (oT rfl) (congrArg (Value.int _) (by rw [hres]))) trivial (by rw [hres]; exact pc 0 rfl pn)
              · try simp only [cq] at c70
                have hij2 : i2 ≤ j2 := by omega
                have hne2 : i2 ≠ j2 := fun e => by have h8 := hue1 (by omega); have h9 := hde1 hij2; rw [← e] at h9; exact absurd (h8.symm.trans h9) (by simp)
                have hnx := (partE_step hup1 hdn1 (by omega) (by omega)).symm.trans hr
                refine sk (nn (sq (te (ec 0 rfl (ec 1 rfl (ec 4 rfl (ec 11 rfl (ec 12 rfl en))))) ?_)))
                apply tr_anyW (p := 13) (Lf := fun c => cond c ([OwnI 51 (kG Z) v (d1.toList.set (i2 : Int).toNat (at' d1.toList (j2 : Int)))]) ([OwnI 51 (kG Z) v d1.toList])) (by kernel_rfl) (m := 14) (ns := [[(0, none)], [(11, none)], [(0, none)], [(12, none)], [(0, none)], [(12, none)], [(75, some 4), (76, some 5)], [(77, some 6)], [(0, none)], [(11, none)], [(79, some 8), (80, some 9)], [(81, some 10)], [(71, some 0), (72, some 1)], [(78, some 7), (83, some 12)]]) (by kernel_rfl) (by kernel_rfl) (Ts := [_, _, _, _, _, _, _, _, _, _, _, _, _, _]) rfl
                case hops =>
                 refine ⟨?_, ?_, ?_, ?_, ?_, ?_, ?_, ?_, ?_, ?_, ?_, ?_, ?_, ?_, trivial⟩
                 · exact cAf (by kernel_rfl) fun _ => rw_ (rmv rfl)
                 · exact cAf (by kernel_rfl) fun _ => rw_ (rmv rfl)
                 · intro c hc; cases c <;> exact rw_ (rmv rfl)
                 · intro c hc; cases c <;> exact rw_ (rmv rfl)
                 · exact cAf (by kernel_rfl) fun _ => rw_ (rmv rfl)
                 · exact cAf (by kernel_rfl) fun _ => rw_ (rmv rfl)
                 · exact cAf (by kernel_rfl) fun _ => rw_ (rP (pio (oT rfl) (by exact mA 0 rfl) (oT rfl) Tryz.underlying36 y0 (by omega) (by omega)))
                 · exact cAf (by kernel_rfl) fun _ => rw_ (rP (plo (oT rfl) (by exact mA 0 rfl) (by omega) (by omega) y0))
                 · exact cAf (by kernel_rfl) fun _ => rw_ (rmv rfl)
                 · exact cAf (by kernel_rfl) fun _ => rw_ (rmv rfl)
                 · exact cAf (by kernel_rfl) fun _ => rw_ (rP (pio (oT rfl) (by exact mA 0 rfl) (oT rfl) Tryz.underlying36 y0 (by omega) (by omega)))
                 · exact cAf (by kernel_rfl) fun _ => rw_ (rP (plo (oT rfl) (by exact mA 0 rfl) (by omega) (by omega) y0))
                 · exact cAf (by kernel_rfl) fun _ => rw_ (rP (pio (oT rfl) (by exact mA 0 rfl) (oT rfl) Tryz.underlying36 y0 (by omega) (by omega)))
                 · exact cAf (by kernel_rfl) fun _ => ropw_acts rfl (acts_store_own0 (oT rfl) (oT rfl) (by exact pA 0 rfl) (by omega) (by omega) y0) (by exact pA 0 rfl) (fun _ => (by exact pA 0 rfl)) (fun _ _ _ _ h => h)
                case h =>
                 refine oP (pio (oT rfl) (by exact mA 0 rfl) (oT rfl) Tryz.underlying36 y0 (by omega) (by (simp; omega))) rfl ?_
                 refine oA (acts_store_own0 (oT rfl) (oT rfl) (by exact pA 0 rfl) (by omega) (by (simp; omega)) y0) (by exact pA 0 rfl) rfl rfl (fun _ _ => ?_)
                 refine tn (nn (sq (te (ec 0 rfl (ec 1 rfl (ec 4 rfl (ec 11 rfl (ec 12 rfl en))))) ?_)))
                 rw [sw (by omega) (by omega)]
                 refine rg (mv rfl rfl (oP (pad (oT rfl) ot (by omega)) rfl (av rfl rfl (tn (nn (te (ec 0 rfl (ec 1 rfl (ec 4 rfl (ec 11 rfl (ec 12 rfl en))))) (rg (mv rfl rfl (oP (pu_sub' (oT rfl) ot (by omega)) rfl (av rfl rfl (tn (bn (nn ?_)))))))))))))
                 exact tg (i2 + 1, j2 - 1, Sort.swp d1 i2 j2) ⟨swp_size.trans hs2, by show a + 1 ≤ i2 + 1; omega, by show i2 + 1 ≤ j2 - 1 + 1; omega, by show j2 - 1 < b; omega, hnx⟩ (by show j2 - 1 + 1 - (i2 + 1) < j1 + 1 - i1; omega) (ea (ec 11 rfl (es_cons (t := 12) (by exact OT.val (oT rfl) (congrArg (Value.int _) (by (simp; omega)))) en)) (ec 0 rfl (ec 1 rfl (ec 4 rfl en)))) (op (by repeat first | exact pn | refine pc 0 rfl ?_))
end Go.Proofs.YtklhdalppmjnaaaGreatDoor
/- Sorts of tuples: the steps of the insertion in part. -/
namespace Go.So
open Go Go.Gw
set_option linter.unusedVariables false
set_option linter.unusedSimpArgs false
section
variable {c : List Int → List Int → Int} {d : DA} {a b i j s : Nat}
theorem ss_step (h : i < b) (hp : ltc c d[i]! d[i - 1]! = false) : Sort.scanSorted (ltc c) d b i = Sort.scanSorted (ltc c) d b (i + 1) := by
 rw [Sort.scanSorted, if_pos (by simp [h, hp])]
theorem ss_end (h : i < b → ltc c d[i]! d[i - 1]! = true) : Sort.scanSorted (ltc c) d b i = i := by
 rw [Sort.scanSorted, if_neg (by
  rw [Bool.and_eq_true, decide_eq_true_eq]; rintro ⟨h1, h2⟩; rw [h h1] at h2; cases h2)]
theorem sd_step (h : 0 < j) (hp : ltc c d[j]! d[j - 1]! = true) : Sort.shiftDown (ltc c) j d = Sort.shiftDown (ltc c) (j - 1) (Sort.swp d j (j - 1)) := by
 obtain ⟨k, rfl⟩ : ∃ k, j = k + 1 := ⟨j - 1, by omega⟩
 rw [Nat.add_sub_cancel] at hp ⊢
 rw [Sort.shiftDown, if_neg (by simp [hp])]
theorem sd_end (h : 0 < j → ltc c d[j]! d[j - 1]! = false) : Sort.shiftDown (ltc c) j d = d := by
 cases j with
 | zero => rfl
 | succ k =>
  have := h (by omega)
  rw [Nat.add_sub_cancel] at this
  rw [Sort.shiftDown, if_pos (by simp [this])]
theorem su_step (h : j < b) (hp : ltc c d[j]! d[j - 1]! = true) : Sort.shiftUp (ltc c) b j d = Sort.shiftUp (ltc c) b (j + 1) (Sort.swp d j (j - 1)) := by
 rw [Sort.shiftUp, if_pos h, if_neg (by simp [hp])]
theorem su_end (h : j < b → ltc c d[j]! d[j - 1]! = false) : Sort.shiftUp (ltc c) b j d = d := by
 rw [Sort.shiftUp]
 split
 · rename_i hj
   rw [if_pos (by simp [h hj])]
 · rfl
theorem pi_zero : Sort.partialIns (ltc c) a b 0 i d = (d, false) := rfl
theorem pi_yes (hi : Sort.scanSorted (ltc c) d b i = b) : Sort.partialIns (ltc c) a b (s + 1) i d = (d, true) := by
 rw [Sort.partialIns]; simp only [hi, if_true]
theorem pi_few (hi : Sort.scanSorted (ltc c) d b i = j) (hj : j ≠ b) (h : b - a < 50) : Sort.partialIns (ltc c) a b (s + 1) i d = (d, false) := by
 rw [Sort.partialIns]; simp only [hi]; rw [if_neg hj, if_pos h]
theorem pi_on (hi : Sort.scanSorted (ltc c) d b i = j) (hj : j ≠ b) (h : ¬ b - a < 50) : Sort.partialIns (ltc c) a b (s + 1) i d =
 Sort.partialIns (ltc c) a b s j (if b - j ≥ 2 then Sort.shiftUp (ltc c) b (j + 1) (if j - a ≥ 2 then Sort.shiftDown (ltc c) (j - 1) (Sort.swp d j (j - 1)) else Sort.swp d j (j - 1)) else (if j - a ≥ 2 then Sort.shiftDown (ltc c) (j - 1) (Sort.swp d j (j - 1)) else Sort.swp d j (j - 1))) := by
 rw [Sort.partialIns]; simp only [hi]; rw [if_neg hj, if_neg h]
theorem sw1 (h0 : 0 < i) (h : i < d.size) : (d.toList.set (i : Int).toNat (at' d.toList ((i : Int) - 1))).set ((i : Int) - 1).toNat (at' d.toList (i : Int)) = (Sort.swp d i (i - 1)).toList := by
 rw [show (i : Int) - 1 = ((i - 1 : Nat) : Int) from by omega]
 exact sw h (by omega)
end
end Go.So
/- Walks through the Go functions api.Tuple], as typed contracts. -/
namespace Go.Proofs.YtklhdalppmjnaaaGreatDoor
open Go Go.Gw Go.So
set_option linter.unusedVariables false
set_option linter.unusedSimpArgs false
variable {Z : SlTy}

set_option maxHeartbeats 1000000 in
set_option maxRecDepth 20000 in
/-- slices.partialInsertionSortCmpFunc[rhizome/api.Tuple] -/
theorem pins_fn (v fv : Value) (d : DA) (a b : Nat) (c : List Int → List Int → Int) (hm : d.size < 4611686018427387904) (hab : a < b) (hb : b ≤ d.size) (hfv : ∀ x y, CtV Tryz.prog fv [(kG Z).T x, (kG Z).T y] [] Unit (fun _ => I64 (c x y)) (fun _ => []) (fun _ => True)) : Ct Tryz.prog 123 [IsV v, I64 (a : Int), I64 (b : Int), IsV fv] ([OwnI 51 (kG Z) v d.toList]) Unit (fun _ => BoolT (Sort.partialInsertionSort (ltc c) d a b).2) (fun _ => [OwnI 51 (kG Z) v (Sort.partialInsertionSort (ltc c) d a b).1.toList]) (fun _ => True) := by
 refine fn_intro Tryz.func123 rfl rfl ?_
 intro H w
 refine sq (te (ec 0 rfl (ec 1 rfl (ec 2 rfl (ec 3 rfl en)))) (rg (ak rfl (tn (nn (sq (te (ec 0 rfl (ec 1 rfl (ec 2 rfl (ec 3 rfl en)))) (rg (mv rfl rfl (oP (pad (oT rfl) ot (by omega)) rfl (av rfl rfl (tn (nn (sq (sq (te (ec 0 rfl (ec 1 rfl (ec 2 rfl (ec 3 rfl (ec 9 rfl en))))) (rg (ak rfl (tn (nn (tb (tr_loopK (σ := Nat × Nat × DA) (ec 0 rfl (ec 1 rfl (ec 2 rfl (ec 3 rfl en)))) (fun s => [(10, I64 (5 - (s.1 : Int))), (9, I64 (s.2.1 : Int))]) (fun s => [OwnI 51 (kG Z) v s.2.2.toList]) (fun s => s.1 ≤ 5 ∧ a + 1 ≤ s.2.1 ∧ s.2.1 ≤ b ∧ s.2.2.size = d.size ∧ Sort.partialIns (ltc c) a b s.1 s.2.1 s.2.2 = (Sort.partialInsertionSort (ltc c) d a b)) (fun s => s.1) (5, a + 1, d) ⟨by simp, by simp, by show a + 1 ≤ b; omega, rfl, rfl⟩ ?_ (op (by repeat first | exact pn | refine pc 0 rfl ?_)) ?_))))))))))))))))))))))
 · exact (ec 10 rfl (ec 9 rfl en))
 · rintro ⟨s0, i, d1⟩ ⟨h5, hi0, hi1, hs1, hr⟩
   dsimp only at h5 hi0 hi1 hs1 hr ⊢
   have hl1 : d1.toList.length = d1.size := Array.length_toList
   refine sq (sq (te (ec 0 rfl (ec 1 rfl (ec 2 rfl (ec 3 rfl (ec 9 rfl (ec 10 rfl en)))))) (rg (mv rfl rfl (oP (pu_lss (oT rfl) ot) rfl (tn (nn (tc (oT rfl) (fun c16 => ?_) (fun c16 => ?_)))))))))
   · try simp only [cq] at c16
     obtain ⟨s, rfl⟩ : ∃ t, s0 = t + 1 := ⟨s0 - 1, by omega⟩
     refine sk (nn (sq (tb (sq (tb (tr_loopK (σ := Nat) (ec 0 rfl (ec 1 rfl (ec 2 rfl (ec 3 rfl (ec 10 rfl en))))) (fun s => [(9, I64 (s : Int))]) (fun s => [OwnI 51 (kG Z) v d1.toList]) (fun s => i ≤ s ∧ s ≤ b ∧ Sort.scanSorted (ltc c) d1 b s = Sort.scanSorted (ltc c) d1 b i) (fun s => b - s) i ⟨by omega, by omega, rfl⟩ ?_ (op (by repeat first | exact pn | refine pc 0 rfl ?_)) ?_))))))
     · exact (ec 9 rfl en)
     · rintro i2 ⟨hi20, hi21, hss⟩
       refine sq (sq (te (ec 0 rfl (ec 1 rfl (ec 2 rfl (ec 3 rfl (ec 9 rfl (ec 10 rfl en)))))) ?_))
       apply tr_any (m := 14) (ns := [[(9, none)], [(2, none)], [(19, some 0), (20, some 1)], [(21, some 2)], [(3, none), (22, some 3)], [(0, none), (22, some 3)], [(9, none), (22, some 3)], [(22, some 3), (24, some 5), (25, some 6)], [(22, some 3), (26, some 7)], [(0, none), (22, some 3)], [(9, none), (22, some 3)], [(22, some 3), (29, some 10)], [(22, some 3), (28, some 9), (30, some 11)], [(22, some 3), (31, some 12)]]) (by kernel_rfl) (by kernel_rfl) (Ts := [_, _, _, _, _, _, _, _, _, _, _, _, _, _]) rfl
       case hops =>
        refine ⟨?_, ?_, ?_, ?_, ?_, ?_, ?_, ?_, ?_, ?_, ?_, ?_, ?_, ?_, trivial⟩
        · exact rmv rfl
        · exact rmv rfl
        · exact rP (pu_lss (oT rfl) (oT rfl))
        · exact rmv rfl
        · exact rG rfl rfl rfl (gm (oT rfl)) (fun hg => by (have hg1 := hg.2; exact rmv rfl))
        · exact rG rfl rfl rfl (gm (oT rfl)) (fun hg => by (have hg1 := hg.2; exact rmv rfl))
        · exact rG rfl rfl rfl (gm (oT rfl)) (fun hg => by (have hg1 := hg.2; exact rmv rfl))
        · exact rG rfl rfl rfl (gm (oT rfl)) (fun hg => by (have hg1 := hg.2; exact rP (pio (by exact gu (oT rfl) hg) (by exact mA 0 rfl) (by exact gu (oT rfl) hg) Tryz.underlying36 y0 (by omega) (by (simp [maxLen] at *; omega)))))
        · exact rG rfl rfl rfl (gm (oT rfl)) (fun hg => by (have hg1 := hg.2; exact rP (plo (by exact gu (oT rfl) hg) (by exact mA 0 rfl) (by omega) (by (simp [maxLen] at *; omega)) y0)))
        · exact rG rfl rfl rfl (gm (oT rfl)) (fun hg => by (have hg1 := hg.2; exact rmv rfl))
        · exact rG rfl rfl rfl (gm (oT rfl)) (fun hg => by (have hg1 := hg.2; exact rmv rfl))
        · exact rG rfl rfl rfl (gm (oT rfl)) (fun hg => by (have hg1 := hg.2; exact rP (pu_sub' (by exact gu (oT rfl) hg) ot (by omega))))
        · exact rG rfl rfl rfl (gm (oT rfl)) (fun hg => by (have hg1 := hg.2; exact rP (pio (by exact gu (oT rfl) hg) (by exact mA 0 rfl) (by exact gu (oT rfl) hg) Tryz.underlying36 y0 (by omega) (by omega))))
        · exact rG rfl rfl rfl (gm (oT rfl)) (fun hg => by (have hg1 := hg.2; exact rP (plo (by exact gu (oT rfl) hg) (by exact mA 0 rfl) (by omega) (by omega) y0)))
       case h =>
        refine op_gu_acts () rfl rfl rfl (gm (oT rfl)) (fun hg => by (have hg1 := hg.2; (try simp only [cq2] at hg1); exact acts_callv (by exact gu (oT rfl) hg) (hfv _ _) (oc (by exact gu (oT rfl) hg) (oc (by exact gu (oT rfl) hg) oN)) pR)) rfl (fun _ _ => ?_)
        refine oG rfl rfl rfl (gm (oT rfl)) (fun hg => by (have hg1 := hg.2; (try simp only [cq2] at hg1); exact pu_lss (by exact gu (oT rfl) hg) ot)) rfl ?_
        refine oG rfl rfl rfl (gm (oT rfl)) (fun hg => by (have hg1 := hg.2; (try simp only [cq2] at hg1); exact pu_not (by exact gu (oT rfl) hg))) rfl ?_
        refine oP (pu_pick_and (oT rfl) (oT rfl)) rfl (tn (nn (tc (oT rfl) (fun c36 => ?_) (fun c36 => ?_))))
        · try simp only [cq] at c36
          have hnx := (ss_step (c := c) (d := d1) (b := b) (i := i2) (by omega) (by rw [ltc_at (by omega) (by omega), show ((i2 - 1 : Nat) : Int) = (i2 : Int) - 1 from by omega]; simpa using c36.2)).symm.trans hss
          refine sk (nn (tb (te (ec 0 rfl (ec 1 rfl (ec 2 rfl (ec 3 rfl (ec 9 rfl (ec 10 rfl en)))))) (rg (mv rfl rfl (oP (pad (oT rfl) ot (by omega)) rfl (av rfl rfl (tn (bn (nn ?_))))))))))
          exact tg (i2 + 1) ⟨by omega, by omega, hnx⟩ (by omega) (ea (ec 9 rfl en) (ec 0 rfl (ec 1 rfl (ec 2 rfl (ec 3 rfl (ec 10 rfl en)))))) (op (by repeat first | exact pn | refine pc 0 rfl ?_))
        · try simp only [cq] at c36
          have hse := hss.symm.trans (ss_end (c := c) (d := d1) (b := b) (i := i2) (fun h => by rw [ltc_at (by omega) (by omega), show ((i2 - 1 : Nat) : Int) = (i2 : Int) - 1 from by omega]; rcases c36 with h9 | h9; omega; simpa using h9))
          refine tr_exit (tx (tx (bh (nn (sq (sq (te (ec 0 rfl (ec 1 rfl (ec 2 rfl (ec 3 rfl (ec 9 rfl (ec 10 rfl en)))))) (rg (mv rfl rfl (mv rfl rfl (oP (pu_eql (oT rfl) (oT rfl)) rfl (tn (nn (tc (oT rfl) (fun c41 => ?_) (fun c41 => ?_)))))))))))))))
          · try simp only [cq] at c41
            have hib : i2 = b := by omega
            subst hib
            have hres := hr.symm.trans (pi_yes hse)
            refine sq (te en (rg (ak rfl (tn (nn (tR (tt (block_ret (tt (tt (block_ret (tt ?_))))))))))))
            exact ret_one .ret (.inl rfl) rfl () (OT.val (oT rfl) (congrArg Value.bool (by rw [hres]))) trivial (by rw [hres]; exact pc 0 rfl pn)
          · try simp only [cq] at c41
            refine sk (nn (sq (sq (te (ec 0 rfl (ec 1 rfl (ec 2 rfl (ec 3 rfl (ec 9 rfl (ec 10 rfl en)))))) (rg (mv rfl rfl (mv rfl rfl (oP (pu_sub' (oT rfl) (oT rfl) (by omega)) rfl (oP (pu_lss (oT rfl) ot) rfl (tn (nn (tc (oT rfl) (fun c45 => ?_) (fun c45 => ?_)))))))))))))
            · try simp only [cq] at c45
              have hres := hr.symm.trans (pi_few hse (by omega) (by omega))
              refine sq (te en (rg (ak rfl (tn (nn (tR (tt (block_ret (tt (tt (block_ret (tt ?_))))))))))))
              exact ret_one .ret (.inl rfl) rfl () (OT.val (oT rfl) (congrArg Value.bool (by rw [hres]))) trivial (by rw [hres]; exact pc 0 rfl pn)
            · try simp only [cq] at c45
              have hon := hr.symm.trans (pi_on hse (by omega) (by omega))
              have hs2 : (Sort.swp d1 i2 (i2 - 1)).size = d.size := swp_size.trans hs1
              refine sk (nn (sq (te (ec 0 rfl (ec 1 rfl (ec 2 rfl (ec 3 rfl (ec 9 rfl (ec 10 rfl en)))))) ?_)))
              apply tr_anyW (p := 15) (Lf := fun c => cond c ([OwnI 51 (kG Z) v (d1.toList.set (i2 : Int).toNat (at' d1.toList ((i2 : Int) - 1)))]) ([OwnI 51 (kG Z) v d1.toList])) (by kernel_rfl) (m := 16) (ns := [[(0, none)], [(9, none)], [(0, none)], [(9, none)], [(49, some 3)], [(0, none)], [(9, none)], [(52, some 6)], [(51, some 5), (53, some 7)], [(54, some 8)], [(0, none)], [(9, none)], [(56, some 10), (57, some 11)], [(58, some 12)], [(46, some 0), (47, some 1)], [(55, some 9), (60, some 14)]]) (by kernel_rfl) (by kernel_rfl) (Ts := [_, _, _, _, _, _, _, _, _, _, _, _, _, _, _, _]) rfl
              case hops =>
               refine ⟨?_, ?_, ?_, ?_, ?_, ?_, ?_, ?_, ?_, ?_, ?_, ?_, ?_, ?_, ?_, ?_, trivial⟩
               · exact cAf (by kernel_rfl) fun _ => rw_ (rmv rfl)
               · exact cAf (by kernel_rfl) fun _ => rw_ (rmv rfl)
               · intro c hc; cases c <;> exact rw_ (rmv rfl)
               · intro c hc; cases c <;> exact rw_ (rmv rfl)
               · intro c hc; cases c <;> exact rw_ (rP (pu_sub' (oT rfl) ot (by omega)))
               · exact cAf (by kernel_rfl) fun _ => rw_ (rmv rfl)
               · exact cAf (by kernel_rfl) fun _ => rw_ (rmv rfl)
               · exact cAf (by kernel_rfl) fun _ => rw_ (rP (pu_sub' (oT rfl) ot (by omega)))
               · exact cAf (by kernel_rfl) fun _ => rw_ (rP (pio (oT rfl) (by exact mA 0 rfl) (oT rfl) Tryz.underlying36 y0 (by omega) (by omega)))
               · exact cAf (by kernel_rfl) fun _ => rw_ (rP (plo (oT rfl) (by exact mA 0 rfl) (by omega) (by omega) y0))
               · exact cAf (by kernel_rfl) fun _ => rw_ (rmv rfl)
               · exact cAf (by kernel_rfl) fun _ => rw_ (rmv rfl)
               · exact cAf (by kernel_rfl) fun _ => rw_ (rP (pio (oT rfl) (by exact mA 0 rfl) (oT rfl) Tryz.underlying36 y0 (by omega) (by omega)))
               · exact cAf (by kernel_rfl) fun _ => rw_ (rP (plo (oT rfl) (by exact mA 0 rfl) (by omega) (by omega) y0))
               · exact cAf (by kernel_rfl) fun _ => rw_ (rP (pio (oT rfl) (by exact mA 0 rfl) (oT rfl) Tryz.underlying36 y0 (by omega) (by omega)))
               · exact cAf (by kernel_rfl) fun _ => ropw_acts rfl (acts_store_own0 (oT rfl) (oT rfl) (by exact pA 0 rfl) (by omega) (by omega) y0) (by exact pA 0 rfl) (fun _ => (by exact pA 0 rfl)) (fun _ _ _ _ h => h)
              case h =>
               refine oP (pio (oT rfl) (by exact mA 0 rfl) (oT rfl) Tryz.underlying36 y0 (by omega) (by (simp; omega))) rfl ?_
               refine oA (acts_store_own0 (oT rfl) (oT rfl) (by exact pA 0 rfl) (by omega) (by (simp; omega)) y0) (by exact pA 0 rfl) rfl rfl (fun _ _ => ?_)
               refine tn (nn (sq (sq (te (ec 0 rfl (ec 1 rfl (ec 2 rfl (ec 3 rfl (ec 9 rfl (ec 10 rfl en)))))) ?_))))
               rw [sw1 (by omega) (by omega)]
               refine rg (mv rfl rfl (mv rfl rfl (oP (pu_sub' (oT rfl) (oT rfl) (by omega)) rfl (oP (pu_geq (oT rfl) ot) rfl (tn (nn (tc (oT rfl) (fun c65 => ?_) (fun c65 => ?_))))))))
               · try simp only [cq] at c65
                 refine sq (te (ec 0 rfl (ec 1 rfl (ec 2 rfl (ec 3 rfl (ec 9 rfl (ec 10 rfl en)))))) (rg (mv rfl rfl (oP (pu_sub' (oT rfl) ot (by omega)) rfl (av rfl rfl (tn (nn (tb (tr_loopK (σ := Nat × DA) (ec 0 rfl (ec 1 rfl (ec 2 rfl (ec 3 rfl (ec 9 rfl (ec 10 rfl en)))))) (fun s => [(11, I64 (s.1 : Int))]) (fun s => [OwnI 51 (kG Z) v s.2.toList]) (fun s => s.1 ≤ i2 - 1 ∧ s.2.size = d.size ∧ Sort.shiftDown (ltc c) s.1 s.2 = Sort.shiftDown (ltc c) (i2 - 1) (Sort.swp d1 i2 (i2 - 1))) (fun s => s.1) (i2 - 1, Sort.swp d1 i2 (i2 - 1)) ⟨Nat.le_refl _, hs2, rfl⟩ ?_ (op (by repeat first | exact pn | refine pc 0 rfl ?_)) ?_)))))))))
                 · exact (es_cons (t := 11) (by exact OT.val (oT rfl) (congrArg (Value.int _) (by omega))) en)
                 · rintro ⟨j, d3⟩ ⟨hj, hs3, hsd⟩
                   dsimp only at hj hs3 hsd ⊢
                   have hl3 : d3.toList.length = d3.size := Array.length_toList
                   refine sq (sq (te (ec 0 rfl (ec 1 rfl (ec 2 rfl (ec 3 rfl (ec 9 rfl (ec 10 rfl (ec 11 rfl en))))))) (rg (mv rfl rfl (oP (pu_geq (oT rfl) ot) rfl (tn (nn (tc (oT rfl) (fun c69 => ?_) (fun c69 => ?_)))))))))
                   · try simp only [cq] at c69
                     refine sk (nn (sq (tb (sq (sq (te (ec 0 rfl (ec 1 rfl (ec 2 rfl (ec 3 rfl (ec 9 rfl (ec 10 rfl (ec 11 rfl en))))))) ?_))))))
                     apply tr_any (m := 10) (ns := [[(3, none)], [(0, none)], [(11, none)], [(73, some 1), (74, some 2)], [(75, some 3)], [(0, none)], [(11, none)], [(78, some 6)], [(77, some 5), (79, some 7)], [(80, some 8)]]) (by kernel_rfl) (by kernel_rfl) (Ts := [_, _, _, _, _, _, _, _, _, _]) rfl
                     case hops =>
                      refine ⟨?_, ?_, ?_, ?_, ?_, ?_, ?_, ?_, ?_, ?_, trivial⟩
                      · exact rmv rfl
                      · exact rmv rfl
                      · exact rmv rfl
                      · exact rP (pio (oT rfl) (by exact mA 0 rfl) (oT rfl) Tryz.underlying36 y0 (by omega) (by omega))
                      · exact rP (plo (oT rfl) (by exact mA 0 rfl) (by omega) (by omega) y0)
                      · exact rmv rfl
                      · exact rmv rfl
                      · exact rP (pu_sub' (oT rfl) ot (by omega))
                      · exact rP (pio (oT rfl) (by exact mA 0 rfl) (oT rfl) Tryz.underlying36 y0 (by omega) (by omega))
                      · exact rP (plo (oT rfl) (by exact mA 0 rfl) (by omega) (by omega) y0)
                     case h =>
                      refine oA (acts_callv (oT rfl) (hfv _ _) (oc (oT rfl) (oc (oT rfl) oN)) pR) pR rfl rfl (fun _ _ => ?_)
                      refine oP (pu_lss (oT rfl) ot) rfl (oP (pu_not (oT rfl)) rfl (tn (nn (tc (oT rfl) (fun c84 => ?_) (fun c84 => ?_)))))
                      · try simp only [cq] at c84
                        have hd4 := hsd.symm.trans (sd_end (c := c) (d := d3) (j := j) (fun h => by rw [ltc_at (by omega) (by omega), show ((j - 1 : Nat) : Int) = (j : Int) - 1 from by omega]; simpa using c84))
                        rw [if_pos (by omega : i2 - a ≥ 2), hd4] at hon
                        refine tr_exit (tx (block_pass rfl (tx (tx (bh (nn (sq (te (ec 0 rfl (ec 1 rfl (ec 2 rfl (ec 3 rfl (ec 9 rfl (ec 10 rfl en)))))) (rg (mv rfl rfl (mv rfl rfl (oP (pu_sub' (oT rfl) (oT rfl) (by omega)) rfl (oP (pu_geq (oT rfl) ot) rfl (tn (nn (tc (oT rfl) (fun c104 => ?_) (fun c104 => ?_)))))))))))))))))
                        · try simp only [cq] at c104
                          rw [if_pos (by omega : b - i2 ≥ 2)] at hon
                          refine sq (te (ec 0 rfl (ec 1 rfl (ec 2 rfl (ec 3 rfl (ec 9 rfl (ec 10 rfl en)))))) (rg (mv rfl rfl (oP (pad (oT rfl) ot (by omega)) rfl (av rfl rfl (tn (nn (tb (tr_loopK (σ := Nat × DA) (ec 0 rfl (ec 1 rfl (ec 2 rfl (ec 3 rfl (ec 9 rfl (ec 10 rfl en)))))) (fun s => [(12, I64 (s.1 : Int))]) (fun s => [OwnI 51 (kG Z) v s.2.toList]) (fun s => i2 + 1 ≤ s.1 ∧ s.2.size = d.size ∧ Sort.shiftUp (ltc c) b s.1 s.2 = Sort.shiftUp (ltc c) b (i2 + 1) d3) (fun s => b - s.1) (i2 + 1, d3) ⟨Nat.le_refl _, hs3, rfl⟩ ?_ (op (by repeat first | exact pn | refine pc 0 rfl ?_)) ?_)))))))))
                          · exact (ec 12 rfl en)
                          · rintro ⟨k, d5⟩ ⟨hk, hs5, hsu⟩
                            dsimp only at hk hs5 hsu ⊢
                            have hl5 : d5.toList.length = d5.size := Array.length_toList
                            refine sq (sq (te (ec 0 rfl (ec 1 rfl (ec 2 rfl (ec 3 rfl (ec 9 rfl (ec 10 rfl (ec 12 rfl en))))))) (rg (mv rfl rfl (mv rfl rfl (oP (pu_lss (oT rfl) (oT rfl)) rfl (tn (nn (tc (oT rfl) (fun c109 => ?_) (fun c109 => ?_))))))))))
                            · try simp only [cq] at c109
                              refine sk (nn (sq (tb (sq (sq (te (ec 0 rfl (ec 1 rfl (ec 2 rfl (ec 3 rfl (ec 9 rfl (ec 10 rfl (ec 12 rfl en))))))) ?_))))))
                              apply tr_any (m := 10) (ns := [[(3, none)], [(0, none)], [(12, none)], [(113, some 1), (114, some 2)], [(115, some 3)], [(0, none)], [(12, none)], [(118, some 6)], [(117, some 5), (119, some 7)], [(120, some 8)]]) (by kernel_rfl) (by kernel_rfl) (Ts := [_, _, _, _, _, _, _, _, _, _]) rfl
                              case hops =>
                               refine ⟨?_, ?_, ?_, ?_, ?_, ?_, ?_, ?_, ?_, ?_, trivial⟩
                               · exact rmv rfl
                               · exact rmv rfl
                               · exact rmv rfl
                               · exact rP (pio (oT rfl) (by exact mA 0 rfl) (oT rfl) Tryz.underlying36 y0 (by omega) (by omega))
                               · exact rP (plo (oT rfl) (by exact mA 0 rfl) (by omega) (by omega) y0)
                               · exact rmv rfl
                               · exact rmv rfl
                               · exact rP (pu_sub' (oT rfl) ot (by omega))
                               · exact rP (pio (oT rfl) (by exact mA 0 rfl) (oT rfl) Tryz.underlying36 y0 (by omega) (by omega))
                               · exact rP (plo (oT rfl) (by exact mA 0 rfl) (by omega) (by omega) y0)
                              case h =>
                               refine oA (acts_callv (oT rfl) (hfv _ _) (oc (oT rfl) (oc (oT rfl) oN)) pR) pR rfl rfl (fun _ _ => ?_)
                               refine oP (pu_lss (oT rfl) ot) rfl (oP (pu_not (oT rfl)) rfl (tn (nn (tc (oT rfl) (fun c124 => ?_) (fun c124 => ?_)))))
                               · try simp only [cq] at c124
                                 have hd6 := hsu.symm.trans (su_end (c := c) (d := d5) (b := b) (j := k) (fun h => by rw [ltc_at (by omega) (by omega), show ((k - 1 : Nat) : Int) = (k : Int) - 1 from by omega]; simpa using c124))
                                 rw [hd6] at hon
                                 refine tr_exit (tx (block_pass rfl (tx (tx (bh (bn (nn (te (ec 0 rfl (ec 1 rfl (ec 2 rfl (ec 3 rfl (ec 9 rfl (ec 10 rfl en)))))) (rg (mv rfl rfl (oP (pad (oT rfl) ot (by omega)) rfl (av rfl rfl (tn (nn ?_))))))))))))))
                                 exact tg (s, i2, d5) ⟨by show s ≤ 5; omega, by show a + 1 ≤ i2; omega, by show i2 ≤ b; omega, hs5, hon.symm⟩ (by omega) (ea (es_cons (t := 10) (by exact OT.val (oT rfl) (congrArg (Value.int _) (by omega))) (ec 9 rfl en)) (ec 0 rfl (ec 1 rfl (ec 2 rfl (ec 3 rfl en))))) (op (by repeat first | exact pn | refine pc 0 rfl ?_))
                               · try simp only [cq] at c124
                                 have hnx := (su_step (c := c) (d := d5) (b := b) (j := k) (by omega) (by rw [ltc_at (by omega) (by omega), show ((k - 1 : Nat) : Int) = (k : Int) - 1 from by omega]; simpa using c124)).symm.trans hsu
                                 refine sk (nn (te (ec 0 rfl (ec 1 rfl (ec 2 rfl (ec 3 rfl (ec 9 rfl (ec 10 rfl (ec 12 rfl en))))))) ?_))
                                 apply tr_anyW (p := 15) (Lf := fun c => cond c ([OwnI 51 (kG Z) v (d5.toList.set (k : Int).toNat (at' d5.toList ((k : Int) - 1)))]) ([OwnI 51 (kG Z) v d5.toList])) (by kernel_rfl) (m := 16) (ns := [[(0, none)], [(12, none)], [(0, none)], [(12, none)], [(128, some 3)], [(0, none)], [(12, none)], [(131, some 6)], [(130, some 5), (132, some 7)], [(133, some 8)], [(0, none)], [(12, none)], [(135, some 10), (136, some 11)], [(137, some 12)], [(125, some 0), (126, some 1)], [(134, some 9), (139, some 14)]]) (by kernel_rfl) (by kernel_rfl) (Ts := [_, _, _, _, _, _, _, _, _, _, _, _, _, _, _, _]) rfl
                                 case hops =>
                                  refine ⟨?_, ?_, ?_, ?_, ?_, ?_, ?_, ?_, ?_, ?_, ?_, ?_, ?_, ?_, ?_, ?_, trivial⟩
                                  · exact cAf (by kernel_rfl) fun _ => rw_ (rmv rfl)
                                  · exact cAf (by kernel_rfl) fun _ => rw_ (rmv rfl)
                                  · intro c hc; cases c <;> exact rw_ (rmv rfl)
                                  · intro c hc; cases c <;> exact rw_ (rmv rfl)
                                  · intro c hc; cases c <;> exact rw_ (rP (pu_sub' (oT rfl) ot (by omega)))
                                  · exact cAf (by kernel_rfl) fun _ => rw_ (rmv rfl)
                                  · exact cAf (by kernel_rfl) fun _ => rw_ (rmv rfl)
                                  · exact cAf (by kernel_rfl) fun _ => rw_ (rP (pu_sub' (oT rfl) ot (by omega)))
                                  · exact cAf (by kernel_rfl) fun _ => rw_ (rP (pio (oT rfl) (by exact mA 0 rfl) (oT rfl) Tryz.underlying36 y0 (by omega) (by omega)))
                                  · exact cAf (by kernel_rfl) fun _ => rw_ (rP (plo (oT rfl) (by exact mA 0 rfl) (by omega) (by omega) y0))
                                  · exact cAf (by kernel_rfl) fun _ => rw_ (rmv rfl)
                                  · exact cAf (by kernel_rfl) fun _ => rw_ (rmv rfl)
                                  · exact cAf (by kernel_rfl) fun _ => rw_ (rP (pio (oT rfl) (by exact mA 0 rfl) (oT rfl) Tryz.underlying36 y0 (by omega) (by omega)))
                                  · exact cAf (by kernel_rfl) fun _ => rw_ (rP (plo (oT rfl) (by exact mA 0 rfl) (by omega) (by omega) y0))
                                  · exact cAf (by kernel_rfl) fun _ => rw_ (rP (pio (oT rfl) (by exact mA 0 rfl) (oT rfl) Tryz.underlying36 y0 (by omega) (by omega)))
                                  · exact cAf (by kernel_rfl) fun _ => ropw_acts rfl (acts_store_own0 (oT rfl) (oT rfl) (by exact pA 0 rfl) (by omega) (by omega) y0) (by exact pA 0 rfl) (fun _ => (by exact pA 0 rfl)) (fun _ _ _ _ h => h)
                                 case h =>
                                  refine oP (pio (oT rfl) (by exact mA 0 rfl) (oT rfl) Tryz.underlying36 y0 (by omega) (by (simp; omega))) rfl ?_
                                  refine oA (acts_store_own0 (oT rfl) (oT rfl) (by exact pA 0 rfl) (by omega) (by (simp; omega)) y0) (by exact pA 0 rfl) rfl rfl (fun _ _ => ?_)
                                  refine tn (bn (nn (te (ec 0 rfl (ec 1 rfl (ec 2 rfl (ec 3 rfl (ec 9 rfl (ec 10 rfl (ec 12 rfl en))))))) ?_)))
                                  rw [sw1 (by omega) (by omega)]
                                  refine rg (mv rfl rfl (oP (pad (oT rfl) ot (by omega)) rfl (av rfl rfl (tn (nn ?_)))))
                                  exact tg (k + 1, Sort.swp d5 k (k - 1)) ⟨by show i2 + 1 ≤ k + 1; omega, swp_size.trans hs5, hnx⟩ (by show b - (k + 1) < b - k; omega) (ea (ec 12 rfl en) (ec 0 rfl (ec 1 rfl (ec 2 rfl (ec 3 rfl (ec 9 rfl (ec 10 rfl en))))))) (op (by repeat first | exact pn | refine pc 0 rfl ?_))
                            · try simp only [cq] at c109
                              have hd6 := hsu.symm.trans (su_end (c := c) (d := d5) (b := b) (j := k) (fun h => by omega))
                              rw [hd6] at hon
                              refine tr_exit (tx (tx (bh (bn (nn (te (ec 0 rfl (ec 1 rfl (ec 2 rfl (ec 3 rfl (ec 9 rfl (ec 10 rfl en)))))) (rg (mv rfl rfl (oP (pad (oT rfl) ot (by omega)) rfl (av rfl rfl (tn (nn ?_))))))))))))
                              exact tg (s, i2, d5) ⟨by show s ≤ 5; omega, by show a + 1 ≤ i2; omega, by show i2 ≤ b; omega, hs5, hon.symm⟩ (by omega) (ea (es_cons (t := 10) (by exact OT.val (oT rfl) (congrArg (Value.int _) (by omega))) (ec 9 rfl en)) (ec 0 rfl (ec 1 rfl (ec 2 rfl (ec 3 rfl en))))) (op (by repeat first | exact pn | refine pc 0 rfl ?_))
                        · try simp only [cq] at c104
                          rw [if_neg (by omega : ¬ b - i2 ≥ 2)] at hon
                          refine sk (bn (nn (te (ec 0 rfl (ec 1 rfl (ec 2 rfl (ec 3 rfl (ec 9 rfl (ec 10 rfl en)))))) (rg (mv rfl rfl (oP (pad (oT rfl) ot (by omega)) rfl (av rfl rfl (tn (nn ?_)))))))))
                          exact tg (s, i2, d3) ⟨by show s ≤ 5; omega, by show a + 1 ≤ i2; omega, by show i2 ≤ b; omega, hs3, hon.symm⟩ (by omega) (ea (es_cons (t := 10) (by exact OT.val (oT rfl) (congrArg (Value.int _) (by omega))) (ec 9 rfl en)) (ec 0 rfl (ec 1 rfl (ec 2 rfl (ec 3 rfl en))))) (op (by repeat first | exact pn | refine pc 0 rfl ?_))
                      · try simp only [cq] at c84
                        have hnx := (sd_step (c := c) (d := d3) (j := j) (by omega) (by rw [ltc_at (by omega) (by omega), show ((j - 1 : Nat) : Int) = (j : Int) - 1 from by omega]; simpa using c84)).symm.trans hsd
                        refine sk (nn (te (ec 0 rfl (ec 1 rfl (ec 2 rfl (ec 3 rfl (ec 9 rfl (ec 10 rfl (ec 11 rfl en))))))) ?_))
                        apply tr_anyW (p := 15) (Lf := fun c => cond c ([OwnI 51 (kG Z) v (d3.toList.set (j : Int).toNat (at' d3.toList ((j : Int) - 1)))]) ([OwnI 51 (kG Z) v d3.toList])) (by kernel_rfl) (m := 16) (ns := [[(0, none)], [(11, none)], [(0, none)], [(11, none)], [(88, some 3)], [(0, none)], [(11, none)], [(91, some 6)], [(90, some 5), (92, some 7)], [(93, some 8)], [(0, none)], [(11, none)], [(95, some 10), (96, some 11)], [(97, some 12)], [(85, some 0), (86, some 1)], [(94, some 9), (99, some 14)]]) (by kernel_rfl) (by kernel_rfl) (Ts := [_, _, _, _, _, _, _, _, _, _, _, _, _, _, _, _]) rfl
                        case hops =>
                         refine ⟨?_, ?_, ?_, ?_, ?_, ?_, ?_, ?_, ?_, ?_, ?_, ?_, ?_, ?_, ?_, ?_, trivial⟩
                         · exact cAf (by kernel_rfl) fun _ => rw_ (rmv rfl)
                         · exact cAf (by kernel_rfl) fun _ => rw_ (rmv rfl)
                         · intro c hc; cases c <;> exact rw_ (rmv rfl)
                         · intro c hc; cases c <;> exact rw_ (rmv rfl)
                         · intro c hc; cases c <;> exact rw_ (rP (pu_sub' (oT rfl) ot (by omega)))
                         · exact cAf (by kernel_rfl) fun _ => rw_ (rmv rfl)
                         · exact cAf (by kernel_rfl) fun _ => rw_ (rmv rfl)
                         · exact cAf (by kernel_rfl) fun _ => rw_ (rP (pu_sub' (oT rfl) ot (by omega)))
                         · exact cAf (by kernel_rfl) fun _ => rw_ (rP (pio (oT rfl) (by exact mA 0 rfl) (oT rfl) Tryz.underlying36 y0 (by omega) (by omega)))
                         · exact cAf (by kernel_rfl) fun _ => rw_ (rP (plo (oT rfl) (by exact mA 0 rfl) (by omega) (by omega) y0))
                         · exact cAf (by kernel_rfl) fun _ => rw_ (rmv rfl)
                         · exact cAf (by kernel_rfl) fun _ => rw_ (rmv rfl)
                         · exact cAf (by kernel_rfl) fun _ => rw_ (rP (pio (oT rfl) (by exact mA 0 rfl) (oT rfl) Tryz.underlying36 y0 (by omega) (by omega)))
                         · exact cAf (by kernel_rfl) fun _ => rw_ (rP (plo (oT rfl) (by exact mA 0 rfl) (by omega) (by omega) y0))
                         · exact cAf (by kernel_rfl) fun _ => rw_ (rP (pio (oT rfl) (by exact mA 0 rfl) (oT rfl) Tryz.underlying36 y0 (by omega) (by omega)))
                         · exact cAf (by kernel_rfl) fun _ => ropw_acts rfl (acts_store_own0 (oT rfl) (oT rfl) (by exact pA 0 rfl) (by omega) (by omega) y0) (by exact pA 0 rfl) (fun _ => (by exact pA 0 rfl)) (fun _ _ _ _ h => h)
                        case h =>
                         refine oP (pio (oT rfl) (by exact mA 0 rfl) (oT rfl) Tryz.underlying36 y0 (by omega) (by (simp; omega))) rfl ?_
                         refine oA (acts_store_own0 (oT rfl) (oT rfl) (by exact pA 0 rfl) (by omega) (by (simp; omega)) y0) (by exact pA 0 rfl) rfl rfl (fun _ _ => ?_)
                         refine tn (bn (nn (te (ec 0 rfl (ec 1 rfl (ec 2 rfl (ec 3 rfl (ec 9 rfl (ec 10 rfl (ec 11 rfl en))))))) ?_)))
                         rw [sw1 (by omega) (by omega)]
                         refine rg (mv rfl rfl (oP (pu_sub' (oT rfl) ot (by omega)) rfl (av rfl rfl (tn (nn ?_)))))
                         exact tg (j - 1, Sort.swp d3 j (j - 1)) ⟨by show j - 1 ≤ i2 - 1; omega, swp_size.trans hs3, hnx⟩ (by show j - 1 < j; omega) (ea (es_cons (t := 11) (by exact OT.val (oT rfl) (congrArg (Value.int _) (by omega))) en) (ec 0 rfl (ec 1 rfl (ec 2 rfl (ec 3 rfl (ec 9 rfl (ec 10 rfl en))))))) (op (by repeat first | exact pn | refine pc 0 rfl ?_))
                   · try simp only [cq] at c69
                     have hd4 := hsd.symm.trans (sd_end (c := c) (d := d3) (j := j) (fun h => by omega))
                     rw [if_pos (by omega : i2 - a ≥ 2), hd4] at hon
                     refine tr_exit (tx (tx (bh (nn (sq (te (ec 0 rfl (ec 1 rfl (ec 2 rfl (ec 3 rfl (ec 9 rfl (ec 10 rfl en)))))) (rg (mv rfl rfl (mv rfl rfl (oP (pu_sub' (oT rfl) (oT rfl) (by omega)) rfl (oP (pu_geq (oT rfl) ot) rfl (tn (nn (tc (oT rfl) (fun c104 => ?_) (fun c104 => ?_)))))))))))))))
                     · try simp only [cq] at c104
                       rw [if_pos (by omega : b - i2 ≥ 2)] at hon
                       refine sq (te (ec 0 rfl (ec 1 rfl (ec 2 rfl (ec 3 rfl (ec 9 rfl (ec 10 rfl en)))))) (rg (mv rfl rfl (oP (pad (oT rfl) ot (by omega)) rfl (av rfl rfl (tn (nn (tb (tr_loopK (σ := Nat × DA) (ec 0 rfl (ec 1 rfl (ec 2 rfl (ec 3 rfl (ec 9 rfl (ec 10 rfl en)))))) (fun s => [(12, I64 (s.1 : Int))]) (fun s => [OwnI 51 (kG Z) v s.2.toList]) (fun s => i2 + 1 ≤ s.1 ∧ s.2.size = d.size ∧ Sort.shiftUp (ltc c) b s.1 s.2 = Sort.shiftUp (ltc c) b (i2 + 1) d3) (fun s => b - s.1) (i2 + 1, d3) ⟨Nat.le_refl _, hs3, rfl⟩ ?_ (op (by repeat first | exact pn | refine pc 0 rfl ?_)) ?_)))))))))
                       · exact (ec 12 rfl en)
                       · rintro ⟨k, d5⟩ ⟨hk, hs5, hsu⟩
                         dsimp only at hk hs5 hsu ⊢
                         have hl5 : d5.toList.length = d5.size := Array.length_toList
                         refine sq (sq (te (ec 0 rfl (ec 1 rfl (ec 2 rfl (ec 3 rfl (ec 9 rfl (ec 10 rfl (ec 12 rfl en))))))) (rg (mv rfl rfl (mv rfl rfl (oP (pu_lss (oT rfl) (oT rfl)) rfl (tn (nn (tc (oT rfl) (fun c109 => ?_) (fun c109 => ?_))))))))))
                         · try simp only [cq] at c109
                           refine sk (nn (sq (tb (sq (sq (te (ec 0 rfl (ec 1 rfl (ec 2 rfl (ec 3 rfl (ec 9 rfl (ec 10 rfl (ec 12 rfl en))))))) ?_))))))
                           apply tr_any (m := 10) (ns := [[(3, none)], [(0, none)], [(12, none)], [(113, some 1), (114, some 2)], [(115, some 3)], [(0, none)], [(12, none)], [(118, some 6)], [(117, some 5), (119, some 7)], [(120, some 8)]]) (by kernel_rfl) (by kernel_rfl) (Ts := [_, _, _, _, _, _, _, _, _, _]) rfl
                           case hops =>
                            refine ⟨?_, ?_, ?_, ?_, ?_, ?_, ?_, ?_, ?_, ?_, trivial⟩
                            · exact rmv rfl
                            · exact rmv rfl
                            · exact rmv rfl
                            · exact rP (pio (oT rfl) (by exact mA 0 rfl) (oT rfl) Tryz.underlying36 y0 (by omega) (by omega))
                            · exact rP (plo (oT rfl) (by exact mA 0 rfl) (by omega) (by omega) y0)
                            · exact rmv rfl
                            · exact rmv rfl
                            · exact rP (pu_sub' (oT rfl) ot (by omega))
                            · exact rP (pio (oT rfl) (by exact mA 0 rfl) (oT rfl) Tryz.underlying36 y0 (by omega) (by omega))
                            · exact rP (plo (oT rfl) (by exact mA 0 rfl) (by omega) (by omega) y0)
                           case h =>
                            refine oA (acts_callv (oT rfl) (hfv _ _) (oc (oT rfl) (oc (oT rfl) oN)) pR) pR rfl rfl (fun _ _ => ?_)
                            refine oP (pu_lss (oT rfl) ot) rfl (oP (pu_not (oT rfl)) rfl (tn (nn (tc (oT rfl) (fun c124 => ?_) (fun c124 => ?_)))))
                            · try simp only [cq] at c124
                              have hd6 := hsu.symm.trans (su_end (c := c) (d := d5) (b := b) (j := k) (fun h => by rw [ltc_at (by omega) (by omega), show ((k - 1 : Nat) : Int) = (k : Int) - 1 from by omega]; simpa using c124))
                              rw [hd6] at hon
                              refine tr_exit (tx (block_pass rfl (tx (tx (bh (bn (nn (te (ec 0 rfl (ec 1 rfl (ec 2 rfl (ec 3 rfl (ec 9 rfl (ec 10 rfl en)))))) (rg (mv rfl rfl (oP (pad (oT rfl) ot (by omega)) rfl (av rfl rfl (tn (nn ?_))))))))))))))
                              exact tg (s, i2, d5) ⟨by show s ≤ 5; omega, by show a + 1 ≤ i2; omega, by show i2 ≤ b; omega, hs5, hon.symm⟩ (by omega) (ea (es_cons (t := 10) (by exact OT.val (oT rfl) (congrArg (Value.int _) (by omega))) (ec 9 rfl en)) (ec 0 rfl (ec 1 rfl (ec 2 rfl (ec 3 rfl en))))) (op (by repeat first | exact pn | refine pc 0 rfl ?_))
                            · try simp only [cq] at c124
                              have hnx := (su_step (c := c) (d := d5) (b := b) (j := k) (by omega) (by rw [ltc_at (by omega) (by omega), show ((k - 1 : Nat) : Int) = (k : Int) - 1 from by omega]; simpa using c124)).symm.trans hsu
                              refine sk (nn (te (ec 0 rfl (ec 1 rfl (ec 2 rfl (ec 3 rfl (ec 9 rfl (ec 10 rfl (ec 12 rfl en))))))) ?_))
                              apply tr_anyW (p := 15) (Lf := fun c => cond c ([OwnI 51 (kG Z) v (d5.toList.set (k : Int).toNat (at' d5.toList ((k : Int) - 1)))]) ([OwnI 51 (kG Z) v d5.toList])) (by kernel_rfl) (m := 16) (ns := [[(0, none)], [(12, none)], [(0, none)], [(12, none)], [(128, some 3)], [(0, none)], [(12, none)], [(131, some 6)], [(130, some 5), (132, some 7)], [(133, some 8)], [(0, none)], [(12, none)], [(135, some 10), (136, some 11)], [(137, some 12)], [(125, some 0), (126, some 1)], [(134, some 9), (139, some 14)]]) (by kernel_rfl) (by kernel_rfl) (Ts := [_, _, _, _, _, _, _, _, _, _, _, _, _, _, _, _]) rfl
                              case hops =>
                               refine ⟨?_, ?_, ?_, ?_, ?_, ?_, ?_, ?_, ?_, ?_, ?_, ?_, ?_, ?_, ?_, ?_, trivial⟩
                               · exact cAf (by kernel_rfl) fun _ => rw_ (rmv rfl)
                               · exact cAf (by kernel_rfl) fun _ => rw_ (rmv rfl)
                               · intro c hc; cases c <;> exact rw_ (rmv rfl)
                               · intro c hc; cases c <;> exact rw_ (rmv rfl)
                               · intro c hc; cases c <;> exact rw_ (rP (pu_sub' (oT rfl) ot (by omega)))
                               · exact cAf (by kernel_rfl) fun _ => rw_ (rmv rfl)
                               · exact cAf (by kernel_rfl) fun _ => rw_ (rmv rfl)
                               · exact cAf (by kernel_rfl) fun _ => rw_ (rP (pu_sub' (oT rfl) ot (by omega)))
                               · exact cAf (by kernel_rfl) fun _ => rw_ (rP (pio (oT rfl) (by exact mA 0 rfl) (oT rfl) Tryz.underlying36 y0 (by omega) (by omega)))
                               · exact cAf (by kernel_rfl) fun _ => rw_ (rP (plo (oT rfl) (by exact mA 0 rfl) (by omega) (by omega) y0))
                               · exact cAf (by kernel_rfl) fun _ => rw_ (rmv rfl)
                               · exact cAf (by kernel_rfl) fun _ => rw_ (rmv rfl)
                               · exact cAf (by kernel_rfl) fun _ => rw_ (rP (pio (oT rfl) (by exact mA 0 rfl) (oT rfl) Tryz.underlying36 y0 (by omega) (by omega)))
                               · exact cAf (by kernel_rfl) fun _ => rw_ (rP (plo (oT rfl) (by exact mA 0 rfl) (by omega) (by omega) y0))
                               · exact cAf (by kernel_rfl) fun _ => rw_ (rP (pio (oT rfl) (by exact mA 0 rfl) (oT rfl) Tryz.underlying36 y0 (by omega) (by omega)))
                               · exact cAf (by kernel_rfl) fun _ => ropw_acts rfl (acts_store_own0 (oT rfl) (oT rfl) (by exact pA 0 rfl) (by omega) (by omega) y0) (by exact pA 0 rfl) (fun _ => (by exact pA 0 rfl)) (fun _ _ _ _ h => h)
                              case h =>
                               refine oP (pio (oT rfl) (by exact mA 0 rfl) (oT rfl) Tryz.underlying36 y0 (by omega) (by (simp; omega))) rfl ?_
                               refine oA (acts_store_own0 (oT rfl) (oT rfl) (by exact pA 0 rfl) (by omega) (by (simp; omega)) y0) (by exact pA 0 rfl) rfl rfl (fun _ _ => ?_)
                               refine tn (bn (nn (te (ec 0 rfl (ec 1 rfl (ec 2 rfl (ec 3 rfl (ec 9 rfl (ec 10 rfl (ec 12 rfl en))))))) ?_)))
                               rw [sw1 (by omega) (by omega)]
                               refine rg (mv rfl rfl (oP (pad (oT rfl) ot (by omega)) rfl (av rfl rfl (tn (nn ?_)))))
                               exact tg (k + 1, Sort.swp d5 k (k - 1)) ⟨by show i2 + 1 ≤ k + 1; omega, swp_size.trans hs5, hnx⟩ (by show b - (k + 1) < b - k; omega) (ea (ec 12 rfl en) (ec 0 rfl (ec 1 rfl (ec 2 rfl (ec 3 rfl (ec 9 rfl (ec 10 rfl en))))))) (op (by repeat first | exact pn | refine pc 0 rfl ?_))
                         · try simp only [cq] at c109
                           have hd6 := hsu.symm.trans (su_end (c := c) (d := d5) (b := b) (j := k) (fun h => by omega))
                           rw [hd6] at hon
                           refine tr_exit (tx (tx (bh (bn (nn (te (ec 0 rfl (ec 1 rfl (ec 2 rfl (ec 3 rfl (ec 9 rfl (ec 10 rfl en)))))) (rg (mv rfl rfl (oP (pad (oT rfl) ot (by omega)) rfl (av rfl rfl (tn (nn ?_))))))))))))
                           exact tg (s, i2, d5) ⟨by show s ≤ 5; omega, by show a + 1 ≤ i2; omega, by show i2 ≤ b; omega, hs5, hon.symm⟩ (by omega) (ea (es_cons (t := 10) (by exact OT.val (oT rfl) (congrArg (Value.int _) (by omega))) (ec 9 rfl en)) (ec 0 rfl (ec 1 rfl (ec 2 rfl (ec 3 rfl en))))) (op (by repeat first | exact pn | refine pc 0 rfl ?_))
                     · try simp only [cq] at c104
                       rw [if_neg (by omega : ¬ b - i2 ≥ 2)] at hon
                       refine sk (bn (nn (te (ec 0 rfl (ec 1 rfl (ec 2 rfl (ec 3 rfl (ec 9 rfl (ec 10 rfl en)))))) (rg (mv rfl rfl (oP (pad (oT rfl) ot (by omega)) rfl (av rfl rfl (tn (nn ?_)))))))))
                       exact tg (s, i2, d3) ⟨by show s ≤ 5; omega, by show a + 1 ≤ i2; omega, by show i2 ≤ b; omega, hs3, hon.symm⟩ (by omega) (ea (es_cons (t := 10) (by exact OT.val (oT rfl) (congrArg (Value.int _) (by omega))) (ec 9 rfl en)) (ec 0 rfl (ec 1 rfl (ec 2 rfl (ec 3 rfl en))))) (op (by repeat first | exact pn | refine pc 0 rfl ?_))
               · try simp only [cq] at c65
                 rw [if_neg (by omega : ¬ i2 - a ≥ 2)] at hon
                 refine sk (nn (sq (te (ec 0 rfl (ec 1 rfl (ec 2 rfl (ec 3 rfl (ec 9 rfl (ec 10 rfl en)))))) (rg (mv rfl rfl (mv rfl rfl (oP (pu_sub' (oT rfl) (oT rfl) (by omega)) rfl (oP (pu_geq (oT rfl) ot) rfl (tn (nn (tc (oT rfl) (fun c104 => ?_) (fun c104 => ?_))))))))))))
                 · try simp only [cq] at c104
                   rw [if_pos (by omega : b - i2 ≥ 2)] at hon
                   refine sq (te (ec 0 rfl (ec 1 rfl (ec 2 rfl (ec 3 rfl (ec 9 rfl (ec 10 rfl en)))))) (rg (mv rfl rfl (oP (pad (oT rfl) ot (by omega)) rfl (av rfl rfl (tn (nn (tb (tr_loopK (σ := Nat × DA) (ec 0 rfl (ec 1 rfl (ec 2 rfl (ec 3 rfl (ec 9 rfl (ec 10 rfl en)))))) (fun s => [(12, I64 (s.1 : Int))]) (fun s => [OwnI 51 (kG Z) v s.2.toList]) (fun s => i2 + 1 ≤ s.1 ∧ s.2.size = d.size ∧ Sort.shiftUp (ltc c) b s.1 s.2 = Sort.shiftUp (ltc c) b (i2 + 1) (Sort.swp d1 i2 (i2 - 1))) (fun s => b - s.1) (i2 + 1, (Sort.swp d1 i2 (i2 - 1))) ⟨Nat.le_refl _, hs2, rfl⟩ ?_ (op (by repeat first | exact pn | refine pc 0 rfl ?_)) ?_)))))))))
                   · exact (ec 12 rfl en)
                   · rintro ⟨k, d5⟩ ⟨hk, hs5, hsu⟩
                     dsimp only at hk hs5 hsu ⊢
                     have hl5 : d5.toList.length = d5.size := Array.length_toList
                     refine sq (sq (te (ec 0 rfl (ec 1 rfl (ec 2 rfl (ec 3 rfl (ec 9 rfl (ec 10 rfl (ec 12 rfl en))))))) (rg (mv rfl rfl (mv rfl rfl (oP (pu_lss (oT rfl) (oT rfl)) rfl (tn (nn (tc (oT rfl) (fun c109 => ?_) (fun c109 => ?_))))))))))
                     · try simp only [cq] at c109
                       refine sk (nn (sq (tb (sq (sq (te (ec 0 rfl (ec 1 rfl (ec 2 rfl (ec 3 rfl (ec 9 rfl (ec 10 rfl (ec 12 rfl en))))))) ?_))))))
                       apply tr_any (m := 10) (ns := [[(3, none)], [(0, none)], [(12, none)], [(113, some 1), (114, some 2)], [(115, some 3)], [(0, none)], [(12, none)], [(118, some 6)], [(117, some 5), (119, some 7)], [(120, some 8)]]) (by kernel_rfl) (by kernel_rfl) (Ts := [_, _, _, _, _, _, _, _, _, _]) rfl
                       case hops =>
                        refine ⟨?_, ?_, ?_, ?_, ?_, ?_, ?_, ?_, ?_, ?_, trivial⟩
                        · exact rmv rfl
                        · exact rmv rfl
                        · exact rmv rfl
                        · exact rP (pio (oT rfl) (by exact mA 0 rfl) (oT rfl) Tryz.underlying36 y0 (by omega) (by omega))
                        · exact rP (plo (oT rfl) (by exact mA 0 rfl) (by omega) (by omega) y0)
                        · exact rmv rfl
                        · exact rmv rfl
                        · exact rP (pu_sub' (oT rfl) ot (by omega))
                        · exact rP (pio (oT rfl) (by exact mA 0 rfl) (oT rfl) Tryz.underlying36 y0 (by omega) (by omega))
                        · exact rP (plo (oT rfl) (by exact mA 0 rfl) (by omega) (by omega) y0)
                       case h =>
                        refine oA (acts_callv (oT rfl) (hfv _ _) (oc (oT rfl) (oc (oT rfl) oN)) pR) pR rfl rfl (fun _ _ => ?_)
                        refine oP (pu_lss (oT rfl) ot) rfl (oP (pu_not (oT rfl)) rfl (tn (nn (tc (oT rfl) (fun c124 => ?_) (fun c124 => ?_)))))
                        · try simp only [cq] at c124
                          have hd6 := hsu.symm.trans (su_end (c := c) (d := d5) (b := b) (j := k) (fun h => by rw [ltc_at (by omega) (by omega), show ((k - 1 : Nat) : Int) = (k : Int) - 1 from by omega]; simpa using c124))
                          rw [hd6] at hon
                          refine tr_exit (tx (block_pass rfl (tx (tx (bh (bn (nn (te (ec 0 rfl (ec 1 rfl (ec 2 rfl (ec 3 rfl (ec 9 rfl (ec 10 rfl en)))))) (rg (mv rfl rfl (oP (pad (oT rfl) ot (by omega)) rfl (av rfl rfl (tn (nn ?_))))))))))))))
                          exact tg (s, i2, d5) ⟨by show s ≤ 5; omega, by show a + 1 ≤ i2; omega, by show i2 ≤ b; omega, hs5, hon.symm⟩ (by omega) (ea (es_cons (t := 10) (by exact OT.val (oT rfl) (congrArg (Value.int _) (by omega))) (ec 9 rfl en)) (ec 0 rfl (ec 1 rfl (ec 2 rfl (ec 3 rfl en))))) (op (by repeat first | exact pn | refine pc 0 rfl ?_))
                        · try simp only [cq] at c124
                          have hnx := (su_step (c := c) (d := d5) (b := b) (j := k) (by omega) (by rw [ltc_at (by omega) (by omega), show ((k - 1 : Nat) : Int) = (k : Int) - 1 from by omega]; simpa using c124)).symm.trans hsu
                          refine sk (nn (te (ec 0 rfl (ec 1 rfl (ec 2 rfl (ec 3 rfl (ec 9 rfl (ec 10 rfl (ec 12 rfl en))))))) ?_))
                          apply tr_anyW (p := 15) (Lf := fun c => cond c ([OwnI 51 (kG Z) v (d5.toList.set (k : Int).toNat (at' d5.toList ((k : Int) - 1)))]) ([OwnI 51 (kG Z) v d5.toList])) (by kernel_rfl) (m := 16) (ns := [[(0, none)], [(12, none)], [(0, none)], [(12, none)], [(128, some 3)], [(0, none)], [(12, none)], [(131, some 6)], [(130, some 5), (132, some 7)], [(133, some 8)], [(0, none)], [(12, none)], [(135, some 10), (136, some 11)], [(137, some 12)], [(125, some 0), (126, some 1)], [(134, some 9), (139, some 14)]]) (by kernel_rfl) (by kernel_rfl) (Ts := [_, _, _, _, _, _, _, _, _, _, _, _, _, _, _, _]) rfl
                          case hops =>
                           refine ⟨?_, ?_, ?_, ?_, ?_, ?_, ?_, ?_, ?_, ?_, ?_, ?_, ?_, ?_, ?_, ?_, trivial⟩
                           · exact cAf (by kernel_rfl) fun _ => rw_ (rmv rfl)
                           · exact cAf (by kernel_rfl) fun _ => rw_ (rmv rfl)
                           · intro c hc; cases c <;> exact rw_ (rmv rfl)
                           · intro c hc; cases c <;> exact rw_ (rmv rfl)
                           · intro c hc; cases c <;> exact rw_ (rP (pu_sub' (oT rfl) ot (by omega)))
                           · exact cAf (by kernel_rfl) fun _ => rw_ (rmv rfl)
                           · exact cAf (by kernel_rfl) fun _ => rw_ (rmv rfl)
                           · exact cAf (by kernel_rfl) fun _ => rw_ (rP (pu_sub' (oT rfl) ot (by omega)))
                           · exact cAf (by kernel_rfl) fun _ => rw_ (rP (pio (oT rfl) (by exact mA 0 rfl) (oT rfl) Tryz.underlying36 y0 (by omega) (by omega)))
                           · exact cAf (by kernel_rfl) fun _ => rw_ (rP (plo (oT rfl) (by exact mA 0 rfl) (by omega) (by omega) y0))
                           · exact cAf (by kernel_rfl) fun _ => rw_ (rmv rfl)
                           · exact cAf (by kernel_rfl) fun _ => rw_ (rmv rfl)
                           · exact cAf (by kernel_rfl) fun _ => rw_ (rP (pio (oT rfl) (by exact mA 0 rfl) (oT rfl) Tryz.underlying36 y0 (by omega) (by omega)))
                           · exact cAf (by kernel_rfl) fun _ => rw_ (rP (plo (oT rfl) (by exact mA 0 rfl) (by omega) (by omega) y0))
                           · exact cAf (by kernel_rfl) fun _ => rw_ (rP (pio (oT rfl) (by exact mA 0 rfl) (oT rfl) Tryz.underlying36 y0 (by omega) (by omega)))
                           · exact cAf (by kernel_rfl) fun _ => ropw_acts rfl (acts_store_own0 (oT rfl) (oT rfl) (by exact pA 0 rfl) (by omega) (by omega) y0) (by exact pA 0 rfl) (fun _ => (by exact pA 0 rfl)) (fun _ _ _ _ h => h)
                          case h =>
                           refine oP (pio (oT rfl) (by exact mA 0 rfl) (oT rfl) Tryz.underlying36 y0 (by omega) (by (simp; omega))) rfl ?_
                           refine oA (acts_store_own0 (oT rfl) (oT rfl) (by exact pA 0 rfl) (by omega) (by (simp; omega)) y0) (by exact pA 0 rfl) rfl rfl (fun _ _ => ?_)
                           refine tn (bn (nn (te (ec 0 rfl (ec 1 rfl (ec 2 rfl (ec 3 rfl (ec 9 rfl (ec 10 rfl (ec 12 rfl en))))))) ?_)))
                           rw [sw1 (by omega) (by omega)]
                           refine rg (mv rfl rfl (oP (pad (oT rfl) ot (by omega)) rfl (av rfl rfl (tn (nn ?_)))))
                           exact tg (k + 1, Sort.swp d5 k (k - 1)) ⟨by show i2 + 1 ≤ k + 1; omega, swp_size.trans hs5, hnx⟩ (by show b - (k + 1) < b - k; omega) (ea (ec 12 rfl en) (ec 0 rfl (ec 1 rfl (ec 2 rfl (ec 3 rfl (ec 9 rfl (ec 10 rfl en))))))) (op (by repeat first | exact pn | refine pc 0 rfl ?_))
                     · try simp only [cq] at c109
                       have hd6 := hsu.symm.trans (su_end (c := c) (d := d5) (b := b) (j := k) (fun h => by omega))
                       rw [hd6] at hon
                       refine tr_exit (tx (tx (bh (bn (nn (te (ec 0 rfl (ec 1 rfl (ec 2 rfl (ec 3 rfl (ec 9 rfl (ec 10 rfl en)))))) (rg (mv rfl rfl (oP (pad (oT rfl) ot (by omega)) rfl (av rfl rfl (tn (nn ?_))))))))))))
                       exact tg (s, i2, d5) ⟨by show s ≤ 5; omega, by show a + 1 ≤ i2; omega, by show i2 ≤ b; omega, hs5, hon.symm⟩ (by omega) (ea (es_cons (t := 10) (by exact OT.val (oT rfl) (congrArg (Value.int _) (by omega))) (ec 9 rfl en)) (ec 0 rfl (ec 1 rfl (ec 2 rfl (ec 3 rfl en))))) (op (by repeat first | exact pn | refine pc 0 rfl ?_))
                 · try simp only [cq] at c104
                   rw [if_neg (by omega : ¬ b - i2 ≥ 2)] at hon
                   refine sk (bn (nn (te (ec 0 rfl (ec 1 rfl (ec 2 rfl (ec 3 rfl (ec 9 rfl (ec 10 rfl en)))))) (rg (mv rfl rfl (oP (pad (oT rfl) ot (by omega)) rfl (av rfl rfl (tn (nn ?_)))))))))
                   exact tg (s, i2, (Sort.swp d1 i2 (i2 - 1))) ⟨by show s ≤ 5; omega, by show a + 1 ≤ i2; omega, by show i2 ≤ b; omega, hs2, hon.symm⟩ (by omega) (ea (es_cons (t := 10) (by exact OT.val (oT rfl) (congrArg (Value.int _) (by omega))) (ec 9 rfl en)) (ec 0 rfl (ec 1 rfl (ec 2 rfl (ec 3 rfl en))))) (op (by repeat first | exact pn | refine pc 0 rfl ?_))
   · try simp only [cq] at c16
     obtain rfl : s0 = 0 := by omega
     have hres := hr.symm.trans pi_zero
     refine tr_exit (tx (tx (bh (nn (sq (te en (rg (ak rfl (tn (nn (tR ?_)))))))))))
     exact ret_one .ret (.inl rfl) rfl () (OT.val (oT rfl) (congrArg Value.bool (by rw [hres]))) trivial (by rw [hres]; exact pc 0 rfl pn)
end Go.Proofs.YtklhdalppmjnaaaGreatDoor
