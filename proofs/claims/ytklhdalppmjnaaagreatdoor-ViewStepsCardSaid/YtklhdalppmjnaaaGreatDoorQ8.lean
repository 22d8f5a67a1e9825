/- The texts G50, DrC, DrS, DrE, Dr1, Dr2, DrF, Dr3, Dr4, DrG, Dr5, DrH, Dr6, DrJ, Dr7, SpA, Sp1, Sp2, Sp3 of this claim, put together in their order. No condition of their own. -/
import Derived.Test.YtklhdalppmjnaaaGreatDoorQ1
import Derived.ArgAppend
import Derived.Test.YtklhdalppmjnaaaGreatDoorQ7
import Derived.Test.YtklhdalppmjnaaaGreatDoorProg
import Derived.Shelf.SlIterI.Nil
import Derived.Shelf.Sort.Plain
import Derived.Shelf.Slices.In.SortNone
import Derived.Shelf.Slices.CompactI
import Derived.Ground.NamesProg
import Derived.Ground.Names2Prog
import Derived.Ground.GgzProg
import Derived.Test.YtklhdalppmjnaaaGreatDoorQ2
/- Typed walks: a piece of a row of one's own taken out in place (slices.Delete). Over any program. -/
namespace Go.Gw
open Go
set_option linter.unusedVariables false
set_option linter.unusedSimpArgs false
def headV (v : Value) (i : Nat) : Value := match v with
 | .slice a _ c => .slice a i c
 | v => v
def TailT (v : Value) (j sz : Nat) : Ty := ⟨fun _ u => ∃ a g n c, v = .slice (some ⟨g, 0, none⟩) n c ∧ u = .slice (some a) (n - j) (c - j) ∧ (j < n → a = ⟨g, j * sz, none⟩), fun _ h => h⟩
section
variable {C : Cx} {Γ : Env} {L R : List It} {Q : Act → World → Prop}
variable {dst : Option Tmp} {ty : TypeId} {pos : String} {after : Array Edge} {guard : Option (Nat × Bool)} {x y z z' : Operand}
variable {α : Type} {d : Kd α} {t el t' : TypeId} {k1 k2 k3 : IntKind} {v : Value} {xs : List α} {i j n : Int}
theorem splice {cur : List Value} {A B N : Nat} (h1 : A ≤ B) (h2 : B ≤ N) (h3 : N ≤ cur.length) : (cur.take A ++ (cur.take N).drop B ++ cur.drop (A + (N - B))).take N = (cur.take N).take A ++ (cur.take N).drop B ++ (cur.take N).drop (A + (N - B)) := by
 have hl : (cur.take A ++ (cur.take N).drop B).length = A + (N - B) := by
  rw [List.length_append, List.length_take, List.length_drop, List.length_take]; omega
 rw [List.take_append, hl, List.take_of_length_le (by rw [hl]; omega), List.take_take, Nat.min_eq_left (by omega)]
 simp only [List.drop_take]
theorem pu_slice3 (hx : OT C.N Γ x (IsV v)) (hm : OwnI t' d v xs ∈ L) (hpos : 0 < xs.length) (hy : OT C.N Γ y (IntT k1 i)) (hz : OT C.N Γ z (IntT k2 j)) (hz' : OT C.N Γ z' (IntT k3 n)) (ht : C.P.underlying t = some (.slice el)) (he : tyOk C.P el d.agg d.sz = true) (h0 : 0 ≤ i) (h1 : i ≤ j) (h2 : j ≤ n) (h3 : n ≤ xs.length) :
 Pure C Γ L ⟨dst, .slice t x (some y) (some z) (some z'), ty, pos, after, guard⟩ AnyT := fun a w H f s ow => by
 have hv : a.eval x = v := hx a H f
 have hi : a.eval y = .int k1 i := hy a H f
 have hj : a.eval z = .int k2 j := hz a H f
 have hn : a.eval z' = .int k3 n := hz' a H f
 obtain ⟨g, cap, cur, cs, rfl, hb, hR, hS, hcs, hcap, hcm, hcc⟩ := own_stand (ow.all _ hm) hpos
 have e1 : n ≤ (cap : Int) := by omega
 have e2 : 0 ≤ j := by omega
 have e3 : 0 ≤ n := by omega
 have e4 : j ≤ max n 0 := by omega
 have e5 : i ≤ max j 0 := by omega
 exact ⟨_, by simp [execOp, Instr.sliceAt, Instr.slice, Instr.sliceBounds, Instr.sliceBound, run_underlying ht, hv, hi, hj, hn, asIntOf, h0, run_sizeOf he, e1, e2, e3, h1, h2, e4, e5]; rfl, trivial⟩
theorem pu_head_own (hx : OT C.N Γ x (IsV v)) (hm : OwnI t' d v xs ∈ L) (hpos : 0 < xs.length) (hy : OT C.N Γ y (IntT k1 i)) (ht : C.P.underlying t = some (.slice el)) (he : tyOk C.P el d.agg d.sz = true) (h0 : 0 ≤ i) (h1 : i ≤ xs.length) :
 Pure C Γ L ⟨dst, .slice t x none (some y) none, ty, pos, after, guard⟩ (IsV (headV v i.toNat)) := fun a w H f s ow => by
 have hv : a.eval x = v := hx a H f
 have hi : a.eval y = .int k1 i := hy a H f
 obtain ⟨g, cap, cur, cs, rfl, hb, hR, hS, hcs, hcap, hcm, hcc⟩ := own_stand (ow.all _ hm) hpos
 have e1 : i ≤ (cap : Int) := by omega
 have e0 : (if cap = 0 then some (⟨g, 0, none⟩ : Addr) else (some (⟨g, 0, none⟩ : Addr)).map (·.add (0 * d.sz))) = some ⟨g, 0, none⟩ := by split <;> simp [add_plain]
 refine ⟨.slice (some ⟨g, 0, none⟩) i.toNat cap, ?_, rfl⟩
 have : (execOp a.eval ⟨dst, .slice t x none (some y) none, ty, pos, after, guard⟩).run C.P w = .ok (.value (.slice (if cap = 0 then some ⟨g, 0, none⟩ else (some (⟨g, 0, none⟩ : Addr)).map (·.add (0 * d.sz))) i.toNat cap)) w := by
  simp [execOp, Instr.sliceAt, Instr.slice, Instr.sliceBounds, Instr.sliceBound, run_underlying ht, hv, hi, asIntOf, h0, run_sizeOf he, e1]
 rw [e0] at this; exact this
theorem pu_tail_own (hx : OT C.N Γ x (IsV v)) (hm : OwnI t' d v xs ∈ L) (hpos : 0 < xs.length) (hy : OT C.N Γ y (IntT k1 i)) (ht : C.P.underlying t = some (.slice el)) (he : tyOk C.P el d.agg d.sz = true) (h0 : 0 ≤ i) (h1 : i ≤ xs.length) :
 Pure C Γ L ⟨dst, .slice t x (some y) none none, ty, pos, after, guard⟩ (TailT v i.toNat d.sz) := fun a w H f s ow => by
 have hv : a.eval x = v := hx a H f
 have hi : a.eval y = .int k1 i := hy a H f
 obtain ⟨g, cap, cur, cs, rfl, hb, hR, hS, hcs, hcap, hcm, hcc⟩ := own_stand (ow.all _ hm) hpos
 by_cases hc : cap = i.toNat
 · exact ⟨.slice (some ⟨g, 0, none⟩) (xs.length - i.toNat) (cap - i.toNat), by simp [execOp, Instr.sliceAt, Instr.slice, Instr.sliceBounds, Instr.sliceBound, run_underlying ht, hv, hi, asIntOf, h0, run_sizeOf he, h1, hc], ⟨g, 0, none⟩, g, xs.length, cap, rfl, rfl, fun h => by omega⟩
 · exact ⟨.slice (some ⟨g, i.toNat * d.sz, none⟩) (xs.length - i.toNat) (cap - i.toNat), by simp [execOp, Instr.sliceAt, Instr.slice, Instr.sliceBounds, Instr.sliceBound, run_underlying ht, hv, hi, asIntOf, h0, run_sizeOf he, h1, hc, add_plain], ⟨g, i.toNat * d.sz, none⟩, g, xs.length, cap, rfl, rfl, fun _ => rfl⟩
theorem pu_cut_head {m : Nat} (hx : OT C.N Γ x (IsV (headV v m))) (hm : OwnI t' d v xs ∈ L) (hpos : 0 < xs.length) (hy : OT C.N Γ y (IntT k1 i)) (hz : OT C.N Γ z (IntT k2 j)) (ht : C.P.underlying t = some (.slice el)) (he : tyOk C.P el d.agg d.sz = true) (h0 : 0 ≤ i) (h1 : i < j) (h2 : j = xs.length) :
 Pure C Γ L ⟨dst, .slice t x (some y) (some z) none, ty, pos, after, guard⟩ (IsV (cutV v i.toNat d.sz)) := fun a w H f s ow => by
 have hv : a.eval x = headV v m := hx a H f
 have hi : a.eval y = .int k1 i := hy a H f
 have hj : a.eval z = .int k2 j := hz a H f
 obtain ⟨g, cap, cur, cs, rfl, hb, hR, hS, hcs, hcap, hcm, hcc⟩ := own_stand (ow.all _ hm) hpos
 have e1 : j ≤ (cap : Int) := by omega
 have e2 : 0 ≤ j := by omega
 have e3 : i ≤ j := by omega
 have e4 : ¬ cap = i.toNat := by omega
 have e5 : j.toNat = xs.length := by omega
 have e6 : i ≤ (xs.length : Int) := by omega
 have e7 : ¬ (xs.length : Int) < i := by omega
 exact ⟨_, by simp [execOp, Instr.sliceAt, Instr.slice, Instr.sliceBounds, Instr.sliceBound, run_underlying ht, hv, headV, hi, hj, asIntOf, h0, run_sizeOf he, e1, e2, e3, e4, e5, e6, e7, cutV, add_plain], rfl⟩
theorem pu_len_head {m : Nat} (hx : OT C.N Γ x (IsV (headV v m))) (hm : OwnI t' d v xs ∈ L) (hpos : 0 < xs.length) (ht : C.P.underlying t = some (.slice el)) : Pure C Γ L ⟨dst, .call ⟨.builtin .len, #[x], #[t]⟩, ty, pos, after, guard⟩ (I64 (m : Int)) := fun a w H f s ow => by
 have hv : a.eval x = headV v m := hx a H f
 obtain ⟨g, cap, cur, cs, rfl, hb, hR, hS, hcs, hcap, hcm, hcc⟩ := own_stand (ow.all _ hm) hpos
 exact ⟨.int .i64 (m : Int), by simp [execOp, resolve, invoke, builtin, Builtin.len_, hv, headV, run_underlying ht, goInt], rfl⟩
theorem acts_app_self {i j : Nat} (hx : OT C.N Γ x (IsV (headV v i))) (hy : OT C.N Γ y (TailT v j d.sz)) (hp : List.Perm L (OwnI el d v xs :: R)) (ht : C.P.underlying t = some (.slice el)) (he : tyOk C.P el d.agg d.sz = true) (hpos : 0 < xs.length) (hij : i ≤ j) (hj : j ≤ xs.length) :
 Acts C Γ L ⟨dst, .call ⟨.builtin .append, #[x, y], #[t, t]⟩, ty, pos, after, guard⟩ [OwnI el d v xs] Unit (fun _ => IsV (headV v (i + (xs.length - j)))) (fun _ => [OwnI el d v (xs.take i ++ xs.drop j ++ xs.drop (i + (xs.length - j)))]) (fun _ => True) := by
 intro a w H f s ow Q' K hK
 have hv : a.eval x = headV v i := hx a H f
 obtain ⟨ad, g', n', c', hv2, hyv, had⟩ := hy a H f
 have o' := ow.perm hp
 obtain ⟨g, cap, cur, cs, rfl, hb, hR, hS, hcs, hcap, hcm, hcc⟩ := own_stand (o'.all _ List.mem_cons_self) hpos
 obtain ⟨rfl, rfl, rfl⟩ : g' = g ∧ n' = xs.length ∧ c' = cap := by cases hv2; exact ⟨rfl, rfl, rfl⟩
 have hown := o'.own g' (blk_mem (i := OwnI el d (.slice (some ⟨g', 0, none⟩) xs.length c') xs) List.mem_cons_self rfl)
 obtain ⟨inf, hinf, hisz⟩ : ∃ inf, C.P.info? el = some inf ∧ inf.size = d.sz := by
  unfold tyOk at he
  cases hu : C.P.underlying el with
  | none => rw [hu] at he; cases he
  | some dd =>
   cases hi : C.P.info? el with
   | none => rw [hu, hi] at he; cases he
   | some inf =>
    rw [hu, hi] at he
    exact ⟨inf, rfl, Nat.eq_of_beq_eq_true ((Bool.and_eq_true _ _).mp he).2⟩
 have hle : xs.length * d.sz ≤ c' * d.sz := Nat.mul_le_mul_right _ hcap
 have hjl : j * d.sz ≤ xs.length * d.sz := Nat.mul_le_mul_right _ hj
 have hil : i * d.sz ≤ j * d.sz := Nat.mul_le_mul_right _ hij
 have hsub : (xs.length - j) * d.sz = xs.length * d.sz - j * d.sz := Nat.sub_mul _ _ _
 have hcl : cur.toList.length = c' * d.sz := by simpa using hcs
 have hRd := hR.drop j hj
 have hnl : (cs.drop (j * d.sz)).length = (xs.length - j) * d.sz := by rw [hRd.1, List.length_drop]
 have hcell : ∀ k u, (cs.drop (j * d.sz))[k]? = some u → w.cell? (ad.add k) = some u := by
  intro k u hk
  have hkl := (List.getElem?_eq_some_iff.1 hk).1
  have hjn : j < xs.length := by
   rcases Nat.lt_or_ge j xs.length with h | h
   · exact h
   · have : j = xs.length := by omega
     rw [hnl, this, Nat.sub_self, Nat.zero_mul] at hkl; omega
  rw [had hjn, Addr.add_lit]
  rw [List.getElem?_drop] at hk
  have := hS _ _ hk
  rw [Nat.zero_add] at this
  simp only [World.cell?, hb, Option.isSome_none, Bool.false_eq_true, if_false]
  exact this
 have hfc := run_firstCells_some (P := C.P) w inf.size (xs.length - j) ad (xs.length - j) (c' - j) (cs.drop (j * d.sz)) (by rw [hisz]; exact hnl) hcell
 have hst := run_storeCells_at (P := C.P) g' (i * d.sz) el (cs.drop (j * d.sz)) 0 cur w hb (by rw [hnl, hsub, hcs]; omega) (fun u hu => hR.cells u (List.mem_of_mem_drop hu))
 simp only [Nat.add_zero] at hst
 have hroom : i + (xs.length - j) ≤ c' := by omega
 have hrun : (execOp a.eval ⟨dst, .call ⟨.builtin .append, #[x, y], #[t, t]⟩, ty, pos, after, guard⟩).run C.P w = .ok (.value (.slice (some ⟨g', 0, none⟩) (i + (xs.length - j)) c')) (w.setRow g' (cur.toList.take (i * d.sz) ++ cs.drop (j * d.sz) ++ cur.toList.drop (i * d.sz + (cs.drop (j * d.sz)).length)).toArray) := by
  rw [← hisz] at hst hfc ⊢
  simp [execOp, resolve, invoke, builtin, hv, headV, hyv, Builtin.append_, run_underlying ht, sizeOf, typeInfo, hinf, Builtin.lenOf, hroom, hfc, Addr.add_lit, hst]
 simp only [Oper.wp, hrun, Oper.upon_value]
 have hmem : g' ∈ blks [OwnI el d (.slice (some ⟨g', 0, none⟩) xs.length c') xs] := blk_mem (i := OwnI el d (.slice (some ⟨g', 0, none⟩) xs.length c') xs) List.mem_cons_self rfl
 have hil2 : i ≤ xs.length := by omega
 have hl2 : (xs.take i ++ xs.drop j ++ xs.drop (i + (xs.length - j))).length = xs.length := by
  rw [List.length_append, List.length_append, List.length_take, List.length_drop, List.length_drop]; omega
 have hRn := ((hR.take i hil2).append hRd).append (hR.drop (i + (xs.length - j)) (by omega))
 have hmul : (i + (xs.length - j)) * d.sz = i * d.sz + (xs.length * d.sz - j * d.sz) := by rw [Nat.add_mul, hsub]
 refine hK () _ _ H trivial (st_setRow s.on hown.2.1 hmem _) rfl ⟨?_, by simp [blks, OwnI, Value.ownBlock], ?_⟩
 · intro it hit
   rw [List.mem_singleton.1 hit]
   refine ⟨_, ⟨hRn.1, .inr ⟨g', c', _, by rw [hl2], Nat.zero_le _, setRow_heap w g' _ _ el _ hb, by rw [hl2]; exact hcap, hcm, ?_, ?_⟩⟩, hRn⟩
   · simp only [List.size_toArray, List.length_append, List.length_take, List.length_drop, hnl, hcl, hsub]
     omega
   · rw [hl2, hnl, hsub, hmul, hcc]
     exact splice hil hjl (by rw [hcl]; exact hle)
 · intro b hb2
   have : b = g' := by simpa [blks, OwnI, Value.ownBlock] using hb2
   subst this
   exact ⟨by simpa using hown.1, hown.2.1, .inl hmem⟩
theorem tr_headV {m : Nat} (hp : List.Perm L (OwnI t d v xs :: R)) (hm : m ≤ xs.length) (hpos : 0 < xs.length) (h : Tr C Γ (OwnI t d (headV v m) (xs.take m) :: R) Q) : Tr C Γ L Q := by
 intro a w H f st ow
 have o' := ow.perm hp
 have hq : (OwnI t d (headV v m) (xs.take m)).blk = (OwnI t d v xs).blk ∧ (OwnI t d (headV v m) (xs.take m)).p w H := by
  obtain ⟨inner, ⟨h2, h3⟩, h4⟩ := o'.all _ List.mem_cons_self
  rcases h3 with ⟨rfl, hl⟩ | ⟨g, cap, cur, rfl, hg0, hb, hc, hm2, hs, hin⟩
  · omega
  · refine ⟨rfl, inner.take (m * d.sz), ⟨?_, .inr ⟨g, cap, cur, ?_, hg0, hb, ?_, hm2, hs, ?_⟩⟩, h4.take _ hm⟩
    · have : m * d.sz ≤ xs.length * d.sz := Nat.mul_le_mul_right _ hm
      rw [List.length_take, List.length_take, h4.1, Nat.min_eq_left this, Nat.min_eq_left hm]
    · show Value.slice _ m cap = _; rw [List.length_take, Nat.min_eq_left hm]
    · rw [List.length_take]; omega
    · have : m * d.sz ≤ xs.length * d.sz := Nat.mul_le_mul_right _ hm
      rw [List.length_take, Nat.min_eq_left hm, ← hin, List.take_take, Nat.min_eq_left this]
 exact h a w H f st (o'.swap1 hq.1 hq.2)
end
end Go.Gw
/- The memory of a relation and of a dred, as items. -/
namespace Go.Proofs.YtklhdalppmjnaaaGreatDoor
open Go Go.Gw Go.So Go.Tu Go.Jn Go.Dr Go.MapKept
set_option linter.unusedVariables false
set_option linter.unusedSimpArgs false
abbrev kRel : Kd (Value × Value × Int) := kpair kraw (kpair kraw kI)
theorem lre0 {t : Value × Value × Int} : Lens kRel kraw 0 t t.1 (fun y => (y, t.2)) := Lens.fst
theorem lre1 {t : Value × Value × Int} : Lens kRel kraw 1 t t.2.1 (fun y => (t.1, y, t.2.2)) := Lens.comp (Lens.snd (a := kraw) (b := kpair kraw kI)) (Lens.fst (a := kraw) (b := kI))
theorem lre2 {t : Value × Value × Int} : Lens kRel kI 2 t t.2.2 (fun y => (t.1, t.2.1, y)) := Lens.comp (Lens.snd (a := kraw) (b := kpair kraw kI)) (Lens.snd (a := kraw) (b := kI))
theorem zRel : ZeroOf Tryz.prog 151 kRel (.map none, .map none, 0) := ⟨.agg #[.map none, .map none, .int .i64 0], by kernel_rfl, fun H => ⟨[.map none, .map none, .int .i64 0], ⟨[_], [_, _], ⟨rfl, rfl⟩, ⟨[_], [_], ⟨rfl, rfl⟩, rfl, rfl⟩, rfl⟩, rfl⟩⟩
structure RO where
 g : Nat
 gf : Nat
 gt : Nat
abbrev relV (o : RO) (n : Int) : Value × Value × Int := (mp o.gf, mp o.gt, n)
def innI (s : Sd) : List It := s.map fun p => MapI p.2.1 encI kbool.T p.2.2
def RelI (o : RO) (r : RS) : List It := BlkI o.g 151 kRel (relV o r.n) :: MapI o.gf encI IsV (hdS r.f) :: MapI o.gt encI IsV (hdS r.t) :: (innI r.f ++ innI r.t)
def osS (s : Sd) (u : Int) : Option Nat := (lkp u s).map (·.1)
def inS (s : Sd) (u : Int) : List (Int × Bool) := ((lkp u s).map (·.2)).getD []
theorem ptS_eq (s : Sd) (u : Int) : ptS s u = .map (osS s u) := by
 unfold osS
 cases h : lkp u s with
 | none => rw [ptS_none h]; rfl
 | some x => rw [ptS_some h]; rfl
theorem look_hd (s : Sd) (u : Int) : (lkp u (hdS s)).getD (.map none) = .map (osS s u) := ptS_eq s u
theorem hasS_eq (s : Sd) (u v : Int) : hasS s u v = (lkp v (inS s u)).getD false := by
 unfold hasS inS
 cases lkp u s <;> rfl
theorem rowS_eq (s : Sd) (u : Int) : rowS s u = keys (inS s u) := by
 unfold rowS inS
 cases lkp u s <;> rfl
theorem innI_some {s : Sd} {u : Int} {x : Inn} (h : lkp u s = some x) : (innI s).Perm (MapI x.1 encI kbool.T x.2 :: innI (dlk u s)) := (lkp_perm h).map fun p : Int × Inn => MapI p.2.1 encI kbool.T p.2.2
theorem innI_back {s : Sd} {u : Int} {x : Inn} : (MapI x.1 encI kbool.T x.2 :: innI (dlk u s)).Perm (innI (ptk u x s)) := ((ptk_perm (k := u) (x := x) (m := s)).map fun p : Int × Inn => MapI p.2.1 encI kbool.T p.2.2).symm
theorem innI_mem {s : Sd} {u : Int} {x : Inn} (h : lkp u s = some x) : MapI x.1 encI kbool.T x.2 ∈ innI s := (innI_some h).mem_iff.2 List.mem_cons_self
theorem ho_mem {s : Sd} {u : Int} {L : List It} (hs : ∀ i ∈ innI s, i ∈ L) : osS s u = none ∧ inS s u = [] ∨ ∃ g, osS s u = some g ∧ MapI g encI kbool.T (inS s u) ∈ L := by
 unfold osS inS
 cases h : lkp u s with
 | none => exact .inl ⟨rfl, rfl⟩
 | some x => exact .inr ⟨x.1, rfl, hs _ (innI_mem h)⟩
section
variable {C : Cx} {Γ : Env} {L R : List It} {φ : Act → World → Prop} {s : Sd} {u : Int}
theorem tr_pickn (u : Int) (hp : L.Perm (innI s ++ R)) (h : ∀ st, Tr C Γ (RanN (osS s u) encI kbool.T (inS s u) st :: (innI (dlk u s) ++ R)) φ) : Tr C Γ L φ := by
 refine tr_perm hp ?_
 unfold osS inS at h
 cases hl : lkp u s with
 | none =>
  rw [hl, dlk_none (lkp_none.1 hl)] at h
  exact tr_mapn0 (h _)
 | some x =>
  rw [hl] at h
  exact tr_mapn (R := innI (dlk u s) ++ R) ((innI_some hl).append_right R) h
theorem tr_backn (u : Int) {st : MS} (hp : L.Perm (RanN (osS s u) encI kbool.T (inS s u) st :: (innI (dlk u s) ++ R))) (h : Tr C Γ (innI s ++ R) φ) : Tr C Γ L φ := by
 refine tr_perm hp ?_
 unfold osS inS
 cases hl : lkp u s with
 | none =>
  rw [dlk_none (lkp_none.1 hl)]
  exact fun a w H f st ow => h a w H f st (Owns.right (L := [RanN none encI kbool.T ([] : List (Int × Bool)) _]) ow)
 | some x => exact tr_mapnc (List.Perm.refl _) (tr_perm ((innI_some hl).symm.append_right R) h)
end
theorem pp0D (H : FH) : kPP.K H (0, 0) [.int .i64 0, .int .i64 0] := ⟨rfl, rfl, fun j x e => by
 match j, e with
 | 0, e => cases e; rfl
 | 1, e => cases e; rfl
 | j + 2, e => simp at e⟩
theorem zBoD : ZeroOf Tryz.prog 4 kbool false := ⟨.bool false, by kernel_rfl, fun H => rfl⟩
theorem zPr : ZeroOf Tryz.prog 109 kPP (0, 0) := ⟨.agg #[.int .i64 0, .int .i64 0], by kernel_rfl, fun H => ⟨[.int .i64 0, .int .i64 0], pp0D H, rfl⟩⟩
abbrev kSd : Kd (Value × Int × Int) := kpair kraw (kpair kI kI)
theorem ls0 {t : Value × Int × Int} : Lens kSd kraw 0 t t.1 (fun y => (y, t.2)) := Lens.fst
theorem ls1 {t : Value × Int × Int} : Lens kSd kI 1 t t.2.1 (fun y => (t.1, y, t.2.2)) := Lens.comp (Lens.snd (a := kraw) (b := kpair kI kI)) (Lens.fst (a := kI) (b := kI))
theorem ls2 {t : Value × Int × Int} : Lens kSd kI 2 t t.2.2 (fun y => (t.1, t.2.1, y)) := Lens.comp (Lens.snd (a := kraw) (b := kpair kI kI)) (Lens.snd (a := kI) (b := kI))
theorem zSd : ZeroOf Tryz.prog 152 kSd (.map none, 0, 0) := ⟨.agg #[.map none, .int .i64 0, .int .i64 0], by kernel_rfl, fun H => ⟨[.map none, .int .i64 0, .int .i64 0], ⟨[_], [_, _], ⟨rfl, rfl⟩, ⟨[_], [_], rfl, rfl, rfl⟩, rfl⟩, rfl⟩⟩
def sdI (g : Nat) (s : Sd) : List It := MapI g encI IsV (hdS s) :: innI s
def sdsI : List Nat → List Sd → List It
 | g :: gs, s :: ss => sdI g s ++ sdsI gs ss
 | _, _ => []
theorem rel_sides (o : RO) (r : RS) : (RelI o r).Perm (BlkI o.g 151 kRel (relV o r.n) :: sdsI [o.gf, o.gt] [r.f, r.t]) := by
 unfold RelI sdsI sdsI sdsI sdI
 refine List.Perm.cons _ ?_
 simp only [List.cons_append, List.append_nil]
 refine List.Perm.cons _ ?_
 exact (perm_mid0 [MapI o.gt encI IsV (hdS r.t)] (innI r.f) (innI r.t))
abbrev RelF (o : RO) (r : RS) (u : Int) : List It := BlkI o.g 151 kRel (relV o r.n) :: MapI o.gf encI IsV (hdS r.f) :: MapI o.gt encI IsV (hdS r.t) :: (innI (dlk u r.f) ++ innI r.t)
abbrev RelT (o : RO) (r : RS) (u : Int) : List It := BlkI o.g 151 kRel (relV o r.n) :: MapI o.gf encI IsV (hdS r.f) :: MapI o.gt encI IsV (hdS r.t) :: (innI r.f ++ innI (dlk u r.t))
theorem hd_back {s : Sd} {u : Int} {x : Inn} {m : List (Int × Bool)} (h : lkp u s = some x) : hdS (ptk u (x.1, m) s) = hdS s := by
 rw [hdS_ptk]
 exact ptk_same (by rw [hdS_lkp, h]; rfl)
theorem rel_openF {o : RO} {r : RS} {u : Int} {x : Inn} {X : List It} (h : lkp u r.f = some x) : (X ++ RelI o r).Perm (MapI x.1 encI kbool.T x.2 :: (X ++ RelF o r u)) := by
 have h1 : (RelI o r).Perm (MapI x.1 encI kbool.T x.2 :: RelF o r u) := by
  have h2 := (innI_some h).append_right (innI r.t)
  exact ((((h2.cons _).cons _).cons _).trans (perm_mid0 [_, _, _] [MapI x.1 encI kbool.T x.2] _))
 exact (h1.append_left X).trans (perm_mid0 X [_] _)
theorem rel_closeF {o : RO} {r : RS} {u : Int} {x : Inn} {m : List (Int × Bool)} {X : List It} (h : lkp u r.f = some x) : (MapI x.1 encI kbool.T m :: (X ++ RelF o r u)).Perm (X ++ RelI o ⟨ptk u (x.1, m) r.f, r.t, r.n⟩) := by
 have h1 : (MapI x.1 encI kbool.T m :: RelF o r u).Perm (RelI o ⟨ptk u (x.1, m) r.f, r.t, r.n⟩) := by
  have h2 := (innI_back (s := r.f) (u := u) (x := (x.1, m))).append_right (innI r.t)
  unfold RelI RelF
  rw [hd_back h]
  exact (perm_mid0 [_, _, _] [MapI x.1 encI kbool.T m] _).symm.trans (((h2.cons _).cons _).cons _)
 exact (perm_mid0 X [_] _).symm.trans (h1.append_left X)
theorem rel_openT {o : RO} {r : RS} {u : Int} {x : Inn} {X : List It} (h : lkp u r.t = some x) : (X ++ RelI o r).Perm (MapI x.1 encI kbool.T x.2 :: (X ++ RelT o r u)) := by
 have h1 : (RelI o r).Perm (MapI x.1 encI kbool.T x.2 :: RelT o r u) := by
  have h2 := (innI_some h).append_left (innI r.f)
  exact ((((h2.cons _).cons _).cons _).trans (perm_mid0 (_ :: _ :: _ :: innI r.f) [MapI x.1 encI kbool.T x.2] _))
 exact (h1.append_left X).trans (perm_mid0 X [_] _)
theorem rel_closeT {o : RO} {r : RS} {u : Int} {x : Inn} {m : List (Int × Bool)} {X : List It} (h : lkp u r.t = some x) : (MapI x.1 encI kbool.T m :: (X ++ RelT o r u)).Perm (X ++ RelI o ⟨r.f, ptk u (x.1, m) r.t, r.n⟩) := by
 have h1 : (MapI x.1 encI kbool.T m :: RelT o r u).Perm (RelI o ⟨r.f, ptk u (x.1, m) r.t, r.n⟩) := by
  have h2 := (innI_back (s := r.t) (u := u) (x := (x.1, m))).append_left (innI r.f)
  unfold RelI RelT
  rw [hd_back h]
  exact (perm_mid0 (_ :: _ :: _ :: innI r.f) [MapI x.1 encI kbool.T m] _).symm.trans (((h2.cons _).cons _).cons _)
 exact (perm_mid0 X [_] _).symm.trans (h1.append_left X)
theorem has_some {s : Sd} {u v : Int} (h : hasS s u v = true) : ∃ x, lkp u s = some x := by
 cases hl : lkp u s with
 | none => rw [hasS_none hl] at h; cases h
 | some x => exact ⟨x, rfl⟩
theorem dropS_some {s : Sd} {u v : Int} {x : Inn} (h : lkp u s = some x) : dropS u v s = ptk u (x.1, dlk v x.2) s := by unfold dropS; rw [h]
theorem putS_some {s : Sd} {u v : Int} {g : Nat} {x : Inn} (h : lkp u s = some x) : putS u v g s = ptk u (x.1, ptk v true x.2) s := by unfold putS; rw [h]
theorem putS_none {s : Sd} {u v : Int} {g : Nat} (h : lkp u s = none) : putS u v g s = ptk u (g, [(v, true)]) s := by unfold putS; rw [h]
theorem hd_some {s : Sd} {u : Int} {x : Inn} (h : lkp u s = some x) : (lkp u (hdS s)).getD (.map none) = mp x.1 := by rw [hdS_lkp, h]; rfl
def addP (P : List Jn.Pr) (p : Jn.Pr) : List Jn.Pr := if p ∈ P then P else P ++ [p]
def sidesK (r : RS) (p : Jn.Pr) (k g1 g2 : Nat) : List Sd := [if 0 < k then putS p.1 p.2 g1 r.f else r.f, if 1 < k then putS p.2 p.1 g2 r.t else r.t]
theorem put_step {o : RO} {r : RS} {p : Jn.Pr} {k : Nat} {ss : List Sd} (hk : k < 2) (hin : ∃ g1 g2, ss = sidesK r p k g1 g2) :
 ∃ gK sK a b Rest, at' [(mp o.gf, p.1, p.2), (mp o.gt, p.2, p.1)] (k : Int) = (mp gK, a, b) ∧ (sdsI [o.gf, o.gt] ss).Perm (sdI gK sK ++ Rest) ∧
  ∀ g', ∃ ss', (sdI gK (putS a b g' sK) ++ Rest).Perm (sdsI [o.gf, o.gt] ss') ∧ ∃ g1 g2, ss' = sidesK r p (k + 1) g1 g2 := by
 obtain ⟨g1, g2, rfl⟩ := hin
 match k, hk with
 | 0, _ => exact ⟨o.gf, r.f, p.1, p.2, sdsI [o.gt] [r.t], rfl, List.Perm.refl _, fun g' => ⟨[putS p.1 p.2 g' r.f, r.t], List.Perm.refl _, g', 0, rfl⟩⟩
 | 1, _ => exact ⟨o.gt, r.t, p.2, p.1, sdsI [o.gf] [putS p.1 p.2 g1 r.f], rfl, by
  show (sdI o.gf (putS p.1 p.2 g1 r.f) ++ (sdI o.gt r.t ++ [])).Perm (sdI o.gt r.t ++ (sdI o.gf (putS p.1 p.2 g1 r.f) ++ []))
  simp only [List.append_nil]
  exact List.perm_append_comm, fun g' => ⟨[putS p.1 p.2 g1 r.f, putS p.2 p.1 g' r.t], by
  show (sdI o.gt (putS p.2 p.1 g' r.t) ++ (sdI o.gf (putS p.1 p.2 g1 r.f) ++ [])).Perm (sdI o.gf (putS p.1 p.2 g1 r.f) ++ (sdI o.gt (putS p.2 p.1 g' r.t) ++ []))
  simp only [List.append_nil]
  exact List.perm_append_comm, g1, g', rfl⟩⟩
theorem put_none {gK g : Nat} {s : Sd} {a b : Int} (hn : lkp a s = none) : (lkp a (ptk a (mp g) (hdS s))).getD (.map none) = mp g ∧ (MapI g encI kbool.T (ptk b true []) :: MapI gK encI IsV (ptk a (mp g) (hdS s)) :: innI s).Perm (sdI gK (putS a b g s)) := by
 refine ⟨by rw [lkp_put, if_pos rfl]; rfl, ?_⟩
 rw [putS_none hn]
 unfold sdI
 rw [hdS_ptk]
 refine (List.Perm.swap _ _ _).trans (List.Perm.cons _ ?_)
 have := innI_back (s := s) (u := a) (x := (g, [(b, true)]))
 rwa [dlk_none (lkp_none.1 hn)] at this
theorem put_some {gK : Nat} {s : Sd} {a b : Int} {x : Inn} (h : lkp a s = some x) : (lkp a (hdS s)).getD (.map none) = mp x.1 ∧ (MapI x.1 encI kbool.T (ptk b true x.2) :: MapI gK encI IsV (hdS s) :: innI (dlk a s)).Perm (sdI gK (putS a b 0 s)) := by
 refine ⟨hd_some h, ?_⟩
 rw [putS_some h]
 unfold sdI
 rw [hd_back h]
 exact (List.Perm.swap _ _ _).trans (List.Perm.cons _ (innI_back (x := (x.1, ptk b true x.2))))
theorem put_fin {M1 X5 M2 B O : It} {Y R S D : List It} (h1 : (M1 :: M2 :: Y).Perm S) (h2 : (S ++ R).Perm D) : ∃ Z, List.Perm (M1 :: X5 :: M2 :: B :: O :: (Y ++ R)) (B :: O :: D ++ Z) := by
 refine ⟨[X5], ?_⟩
 have h3 : (M1 :: M2 :: (Y ++ R)).Perm D := (h1.append_right R).trans h2
 have h4 : (B :: O :: M1 :: M2 :: (Y ++ R)).Perm (B :: O :: D) := (h3.cons _).cons _
 refine (List.Perm.swap _ _ _).trans ?_
 refine List.Perm.trans (List.Perm.cons _ ((perm_mid0 [M1, M2] [B, O] (Y ++ R)).trans h4)) ?_
 exact (List.perm_append_singleton X5 _).symm
abbrev kDr : Kd (Lab × Value × Value × Int) := kpair kS (kpair kraw (kpair kraw kI))
theorem ld0 {t : Lab × Value × Value × Int} : Lens kDr kS 0 t t.1 (fun y => (y, t.2)) := Lens.fst
theorem ld1 {t : Lab × Value × Value × Int} : Lens kDr kraw 1 t t.2.1 (fun y => (t.1, y, t.2.2)) := Lens.comp (Lens.snd (a := kS) (b := kpair kraw (kpair kraw kI))) (Lens.fst (a := kraw) (b := kpair kraw kI))
theorem ld2 {t : Lab × Value × Value × Int} : Lens kDr kraw 2 t t.2.2.1 (fun y => (t.1, t.2.1, y, t.2.2.2)) := Lens.comp (Lens.snd (a := kS) (b := kpair kraw (kpair kraw kI))) (Lens.comp (Lens.snd (a := kraw) (b := kpair kraw kI)) (Lens.fst (a := kraw) (b := kI)))
theorem ld3 {t : Lab × Value × Value × Int} : Lens kDr kI 3 t t.2.2.2 (fun y => (t.1, t.2.1, t.2.2.1, y)) := Lens.comp (Lens.snd (a := kS) (b := kpair kraw (kpair kraw kI))) (Lens.comp (Lens.snd (a := kraw) (b := kpair kraw kI)) (Lens.snd (a := kraw) (b := kI)))
theorem zDr : ZeroOf Tryz.prog 106 kDr ([], .pointer none, .pointer none, 0) := ⟨.agg #[.string (bs []), .pointer none, .pointer none, .int .i64 0], by kernel_rfl, fun H => ⟨[.string (bs []), .pointer none, .pointer none, .int .i64 0], ⟨[_], [_, _, _], rfl, ⟨[_], [_, _], ⟨rfl, rfl⟩, ⟨[_], [_], ⟨rfl, rfl⟩, rfl, rfl⟩, rfl⟩, rfl⟩, rfl⟩⟩
structure DO where
 g : Nat
 lab : Lab
 e : RO
 s : RO
abbrev dV (o : DO) (n : Int) : Lab × Value × Value × Int := (o.lab, pt o.e.g 0, pt o.s.g 0, n)
def DrI (o : DO) (n : Int) (e s : RS) : List It := BlkI o.g 106 kDr (dV o n) :: (RelI o.e e ++ RelI o.s s)
end Go.Proofs.YtklhdalppmjnaaaGreatDoor
/-
 DERIVED: THE SHELF's CONTRACTS AT THIS DUMP, IN PLAIN WORDS (tools/lay-plain.mjs out of 'YtklhdalppmjnaaaGreatDoorDrS0.lean', which tools/lay-shelf.mjs wrote): THE SAME DECLARATIONS UNDER THE SAME NAMES: 'import', 'namespace', 'open', 'def', 'theorem' AND NOTHING ELSE: no command of the shelf's: FOR A HAND-IN. Each laying: the table of numbers ('.._ren') and one theorem, a field a fact of the dump's own or the kernel's comparison; each contract: ONE APPLICATION.
-/
namespace Go.Proofs
open Go.Shelf
def Tryz.lSort_ren : Go.Shelf.Ren := ⟨fun | 189 => 86 | 125 => 99 | 257 => 116 | 128 => 126 | 129 => 127 | 294 => 134 | 295 => 135 | 296 => 136 | 297 => 137 | 298 => 138 | 299 => 139 | 216 => 140 | 300 => 141 | 301 => 142 | 328 => 151 | 329 => 144 | 330 => 145 | 331 => 152 | 332 => 153 | 215 => 148 | 343 => 156 | n => n, fun | 28 => 50 | 3 => 3 | 46 => 175 | 0 => 0 | 51 => 214 | 53 => 216 | 4 => 4 | 183 => 207 | 182 => 206 | 131 => 211 | 5 => 5 | 9 => 9 | 218 => 229 | 222 => 233 | 228 => 240 | 229 => 241 | n => n, fun | n => n⟩
theorem Tryz.lSort : Go.Proofs.Lays.n189 Tryz.prog Tryz.lSort_ren := {
 mixed := by kernel_rfl
 f125 := Tryz.func99.trans (congrArg some (by kernel_rfl))
 f128 := Tryz.func126.trans (congrArg some (by kernel_rfl))
 f129 := Tryz.func127.trans (congrArg some (by kernel_rfl))
 f189 := Tryz.func86.trans (congrArg some (by kernel_rfl))
 f215 := Tryz.func148.trans (congrArg some (by kernel_rfl))
 f216 := Tryz.func140.trans (congrArg some (by kernel_rfl))
 f257 := Tryz.func116.trans (congrArg some (by kernel_rfl))
 f294 := Tryz.func134.trans (congrArg some (by kernel_rfl))
 f295 := Tryz.func135.trans (congrArg some (by kernel_rfl))
 f296 := Tryz.func136.trans (congrArg some (by kernel_rfl))
 f297 := Tryz.func137.trans (congrArg some (by kernel_rfl))
 f298 := Tryz.func138.trans (congrArg some (by kernel_rfl))
 f299 := Tryz.func139.trans (congrArg some (by kernel_rfl))
 f300 := Tryz.func141.trans (congrArg some (by kernel_rfl))
 f301 := Tryz.func142.trans (congrArg some (by kernel_rfl))
 f328 := Tryz.func151.trans (congrArg some (by kernel_rfl))
 f329 := Tryz.func144.trans (congrArg some (by kernel_rfl))
 f330 := Tryz.func145.trans (congrArg some (by kernel_rfl))
 f331 := Tryz.func152.trans (congrArg some (by kernel_rfl))
 f332 := Tryz.func153.trans (congrArg some (by kernel_rfl))
 f343 := Tryz.func156.trans (congrArg some (by kernel_rfl))
 t0 := Tryz.underlying0
 a0 := Tryz.isAgg0
 z0 := Tryz.sizeOf0
 v0 := Tryz.zeroValue0
 t3 := Tryz.underlying3
 a3 := Tryz.isAgg3
 z3 := Tryz.sizeOf3
 v3 := Tryz.zeroValue3
 t4 := Tryz.underlying4
 a4 := Tryz.isAgg4
 z4 := Tryz.sizeOf4
 v4 := Tryz.zeroValue4
 t5 := Tryz.underlying5
 a5 := Tryz.isAgg5
 z5 := Tryz.sizeOf5
 v5 := Tryz.zeroValue5
 t9 := Tryz.underlying9
 a9 := Tryz.isAgg9
 z9 := Tryz.sizeOf9
 v9 := Tryz.zeroValue9
 t28 := Tryz.underlying50
 a28 := Tryz.isAgg50
 z28 := Tryz.sizeOf50
 v28 := Tryz.zeroValue50
 t46 := Tryz.underlying175
 a46 := Tryz.isAgg175
 z46 := Tryz.sizeOf175
 v46 := Tryz.zeroValue175
 t51 := Tryz.underlying214
 a51 := Tryz.isAgg214
 z51 := Tryz.sizeOf214
 v51 := Tryz.zeroValue214
 t53 := Tryz.underlying216
 a53 := Tryz.isAgg216
 z53 := Tryz.sizeOf216
 v53 := Tryz.zeroValue216
 t131 := Tryz.underlying211
 a131 := Tryz.isAgg211
 z131 := Tryz.sizeOf211
 v131 := Tryz.zeroValue211
 t182 := Tryz.underlying206
 a182 := Tryz.isAgg206
 z182 := Tryz.sizeOf206
 v182 := Tryz.zeroValue206
 t183 := Tryz.underlying207
 a183 := Tryz.isAgg207
 z183 := Tryz.sizeOf207
 v183 := Tryz.zeroValue207
 t218 := Tryz.underlying229
 a218 := Tryz.isAgg229
 z218 := Tryz.sizeOf229
 v218 := Tryz.zeroValue229
 t222 := Tryz.underlying233
 a222 := Tryz.isAgg233
 z222 := Tryz.sizeOf233
 v222 := Tryz.zeroValue233
 t228 := Tryz.underlying240
 a228 := Tryz.isAgg240
 z228 := Tryz.sizeOf240
 v228 := Tryz.zeroValue240
 t229 := Tryz.underlying241
 a229 := Tryz.isAgg241
 z229 := Tryz.sizeOf241
 v229 := Tryz.zeroValue241 }
def Tryz.lCompact_ren : Go.Shelf.Ren := ⟨fun | 20 => 87 | n => n, fun | 22 => 50 | 3 => 3 | 4 => 4 | 0 => 0 | n => n, fun | n => n⟩
theorem Tryz.lCompact : Go.Proofs.Lays2.n20 Tryz.prog Tryz.lCompact_ren := {
 mixed := by kernel_rfl
 f20 := Tryz.func87.trans (congrArg some (by kernel_rfl))
 t0 := Tryz.underlying0
 a0 := Tryz.isAgg0
 z0 := Tryz.sizeOf0
 v0 := Tryz.zeroValue0
 t3 := Tryz.underlying3
 a3 := Tryz.isAgg3
 z3 := Tryz.sizeOf3
 v3 := Tryz.zeroValue3
 t4 := Tryz.underlying4
 a4 := Tryz.isAgg4
 z4 := Tryz.sizeOf4
 v4 := Tryz.zeroValue4
 t22 := Tryz.underlying50
 a22 := Tryz.isAgg50
 z22 := Tryz.sizeOf50
 v22 := Tryz.zeroValue50
 i3 := by kernel_rfl }
def Tryz.lKeysB_ren : Go.Shelf.Ren := ⟨fun | 7 => 204 | 10 => 206 | n => n, fun | 23 => 154 | 26 => 3 | 3 => 4 | 28 => 134 | 0 => 0 | 27 => 133 | 33 => 165 | 4 => 4 | n => n, fun | n => n⟩
theorem Tryz.lKeysB : Go.Proofs.SlLaysZI.n7 Tryz.prog Tryz.lKeysB_ren := {
 mixed := by kernel_rfl
 f7 := ⟨Tryz.f204.name, by decide, Tryz.func204.trans (congrArg some (by kernel_rfl))⟩
 f10 := ⟨Tryz.f206.name, by decide, Tryz.func206.trans (congrArg some (by kernel_rfl))⟩
 t0 := Tryz.underlying0
 a0 := Tryz.isAgg0
 z0 := Tryz.sizeOf0
 v0 := Tryz.zeroValue0
 t4 := Tryz.underlying4
 a4 := Tryz.isAgg4
 z4 := Tryz.sizeOf4
 v4 := Tryz.zeroValue4
 t23 := Tryz.underlying154
 a23 := Tryz.isAgg154
 z23 := Tryz.sizeOf154
 v23 := Tryz.zeroValue154
 t26 := Tryz.underlying3
 a26 := Tryz.isAgg3
 z26 := Tryz.sizeOf3
 v26 := Tryz.zeroValue3
 t27 := Tryz.underlying133
 a27 := Tryz.isAgg133
 z27 := Tryz.sizeOf133
 v27 := Tryz.zeroValue133
 t28 := Tryz.underlying134
 a28 := Tryz.isAgg134
 z28 := Tryz.sizeOf134
 v28 := Tryz.zeroValue134
 t33 := Tryz.underlying165
 a33 := Tryz.isAgg165
 z33 := Tryz.sizeOf165
 v33 := Tryz.zeroValue165 }
def Tryz.lCollect_ren : Go.Shelf.Ren := ⟨fun | 8 => 88 | 11 => 117 | n => n, fun | 26 => 3 | 28 => 134 | 24 => 50 | 0 => 0 | 33 => 165 | 4 => 4 | n => n, fun | n => n⟩
theorem Tryz.lCollect : Go.Proofs.SlLaysZI.n8 Tryz.prog Tryz.lCollect_ren := {
 mixed := by kernel_rfl
 f8 := ⟨Tryz.f88.name, by decide, Tryz.func88.trans (congrArg some (by kernel_rfl))⟩
 f11 := ⟨Tryz.f117.name, by decide, Tryz.func117.trans (congrArg some (by kernel_rfl))⟩
 t0 := Tryz.underlying0
 a0 := Tryz.isAgg0
 z0 := Tryz.sizeOf0
 v0 := Tryz.zeroValue0
 t24 := Tryz.underlying50
 a24 := Tryz.isAgg50
 z24 := Tryz.sizeOf50
 v24 := Tryz.zeroValue50
 t26 := Tryz.underlying3
 a26 := Tryz.isAgg3
 z26 := Tryz.sizeOf3
 v26 := Tryz.zeroValue3
 t28 := Tryz.underlying134
 a28 := Tryz.isAgg134
 z28 := Tryz.sizeOf134
 v28 := Tryz.zeroValue134
 i26 := by kernel_rfl }
def Tryz.lKeysL_ren : Go.Shelf.Ren := ⟨fun | 7 => 58 | 10 => 89 | n => n, fun | 23 => 120 | 26 => 3 | 3 => 50 | 28 => 134 | 0 => 0 | 27 => 133 | 33 => 165 | 4 => 4 | n => n, fun | n => n⟩
theorem Tryz.lKeysL : Go.Proofs.SlLaysZI.n7 Tryz.prog Tryz.lKeysL_ren := {
 mixed := by kernel_rfl
 f7 := ⟨Tryz.f58.name, by decide, Tryz.func58.trans (congrArg some (by kernel_rfl))⟩
 f10 := ⟨Tryz.f89.name, by decide, Tryz.func89.trans (congrArg some (by kernel_rfl))⟩
 t0 := Tryz.underlying0
 a0 := Tryz.isAgg0
 z0 := Tryz.sizeOf0
 v0 := Tryz.zeroValue0
 t4 := Tryz.underlying4
 a4 := Tryz.isAgg4
 z4 := Tryz.sizeOf4
 v4 := Tryz.zeroValue4
 t23 := Tryz.underlying120
 a23 := Tryz.isAgg120
 z23 := Tryz.sizeOf120
 v23 := Tryz.zeroValue120
 t26 := Tryz.underlying3
 a26 := Tryz.isAgg3
 z26 := Tryz.sizeOf3
 v26 := Tryz.zeroValue3
 t27 := Tryz.underlying133
 a27 := Tryz.isAgg133
 z27 := Tryz.sizeOf133
 v27 := Tryz.zeroValue133
 t28 := Tryz.underlying134
 a28 := Tryz.isAgg134
 z28 := Tryz.sizeOf134
 v28 := Tryz.zeroValue134
 t33 := Tryz.underlying165
 a33 := Tryz.isAgg165
 z33 := Tryz.sizeOf165
 v33 := Tryz.zeroValue165 }
def Tryz.lSorted_ren : Go.Shelf.Ren := ⟨fun | 6 => 57 | 8 => 88 | 9 => 86 | 11 => 117 | 13 => 99 | 12 => 116 | 23 => 126 | 24 => 127 | 14 => 134 | 15 => 135 | 16 => 136 | 17 => 137 | 18 => 138 | 19 => 139 | 20 => 140 | 21 => 141 | 22 => 142 | 25 => 151 | 26 => 144 | 27 => 145 | 28 => 152 | 29 => 153 | 30 => 148 | 31 => 156 | n => n, fun | 26 => 3 | 28 => 134 | 24 => 50 | 0 => 0 | 3 => 3 | 37 => 175 | 48 => 214 | 50 => 216 | 4 => 4 | 40 => 207 | 39 => 206 | 45 => 211 | 5 => 5 | 9 => 9 | 51 => 229 | 55 => 233 | 57 => 240 | 58 => 241 | 33 => 165 | n => n, fun | n => n⟩
theorem Tryz.lSorted : Go.Proofs.SlLaysZI.n6 Tryz.prog Tryz.lSorted_ren := {
 mixed := by kernel_rfl
 f6 := ⟨Tryz.f57.name, by decide, Tryz.func57.trans (congrArg some (by kernel_rfl))⟩
 f8 := ⟨Tryz.f88.name, by decide, Tryz.func88.trans (congrArg some (by kernel_rfl))⟩
 f11 := ⟨Tryz.f117.name, by decide, Tryz.func117.trans (congrArg some (by kernel_rfl))⟩
 t0 := Tryz.underlying0
 a0 := Tryz.isAgg0
 z0 := Tryz.sizeOf0
 v0 := Tryz.zeroValue0
 t24 := Tryz.underlying50
 a24 := Tryz.isAgg50
 z24 := Tryz.sizeOf50
 v24 := Tryz.zeroValue50
 t26 := Tryz.underlying3
 a26 := Tryz.isAgg3
 z26 := Tryz.sizeOf3
 v26 := Tryz.zeroValue3
 t28 := Tryz.underlying134
 a28 := Tryz.isAgg134
 z28 := Tryz.sizeOf134
 v28 := Tryz.zeroValue134
 i26 := by kernel_rfl }
end Go.Proofs
/- The library's functions that a span and a dred call (keys of a map, sorting, dropping repeats), as contracts. -/
namespace Go.Proofs.YtklhdalppmjnaaaGreatDoor
open Go Go.Gw Go.So Go.Tu Go.Jn Go.MapKept
open Go.Dr hiding Pr
set_option linter.unusedVariables false
set_option linter.unusedSimpArgs false
theorem hasKeys_sd {J : List It} {s : Sd} {u : Int} (hJ : ∀ i ∈ innI s, i ∈ J) (hs : SdOk s) (hin : ∀ v ∈ rowS s u, in64 v) (hl : (inS s u).length ≤ 1000000) : HasKeys kraw (.map (osS s u)) J (rowS s u) := by
 intro H w cs hon hK hO
 refine ⟨_, hK.1, ?_⟩
 unfold osS inS at *
 rw [rowS_eq]
 rw [rowS_eq] at hin
 unfold inS at *
 cases h : lkp u s with
 | none => exact .inl ⟨rfl, rfl⟩
 | some x =>
  rw [h] at hl hin
  obtain ⟨es, clock, h1, h2⟩ := hO.all _ (hJ _ (innI_mem h))
  exact .inr ⟨Bool, x.1, kbool.T, x.2, es, clock, rfl, h1, h2, rfl, hin, hl⟩
theorem keysB_ct (o : Option Nat) : Ct Tryz.prog 204 [kraw.T (.map o)] [] Nat (fun b => IsV (.func (.func 206) #[] #[pt b 0])) (fun b => [BlkI b 154 kraw (.map o)]) (fun _ => True) :=
 keys_ct Tryz.lKeysB fun H v h => ⟨o, h.1⟩
theorem collectB_ct {b : Nat} {x : Value} {J : List It} {l : List Int} (hk : HasKeys kraw x J l) : Ct Tryz.prog 88 [IsV (.func (.func 206) #[] #[pt b 0])] (BlkI b 154 kraw x :: J) (Value × List Int) (fun r => IsV r.1) (fun r => OwnI 3 kI r.1 r.2 :: BlkI b 154 kraw x :: J) (fun r => r.2.Perm l) :=
 collect_ct Tryz.lCollect (σ := Tryz.lKeysB_ren) { Tryz.lKeysB with } (enters_of Tryz.func206 (by kernel_rfl) rfl) hk
theorem sortInts_ct {v : Value} {xs : List Int} (hx : xs.length ≤ 1000000000) : Ct Tryz.prog 86 [IsV v] [OwnI 3 kI v xs] (List Int) (fun _ => AnyT) (fun ys => [OwnI 3 kI v ys]) (fun ys => ys.Perm xs) := sortI_ct Tryz.lSort hx
theorem compactInts_ct {v : Value} {xs : List Int} (hx : xs.length ≤ 1000000000) : Ct Tryz.prog 87 [IsV v] [OwnI 3 kI v xs] (Value × List Int) (fun r => IsV r.1) (fun r => [OwnI 3 kI r.1 r.2]) (fun r => (∀ x, x ∈ r.2 ↔ x ∈ xs) ∧ r.2.length ≤ xs.length) := compactI_ct Tryz.lCompact hx
theorem len_sub {α : Type} [DecidableEq α] : ∀ {l m : List α}, l.Nodup → (∀ x ∈ l, x ∈ m) → l.length ≤ m.length
 | [], _, _, _ => Nat.zero_le _
 | a :: l, m, hn, h => by
  have h1 := List.nodup_cons.1 hn
  have h2 : l.length ≤ (m.erase a).length := len_sub h1.2 fun x hx => (List.mem_erase_of_ne (fun e : x = a => h1.1 (e ▸ hx))).2 (h x (List.mem_cons_of_mem _ hx))
  have h3 := List.length_erase_of_mem (h a List.mem_cons_self)
  have h4 := List.length_pos_of_mem (h a List.mem_cons_self)
  rw [List.length_cons]; omega
abbrev inP (p : Jn.Pr) : Prop := in64 p.1 ∧ in64 p.2
theorem rel_rowF {P : List Jn.Pr} {r : RS} (h : RelOk P r) {u v : Int} : v ∈ rowS r.f u ↔ (u, v) ∈ P := by rw [rowS_mem h.fo, h.f]; simp
theorem rel_rowT {P : List Jn.Pr} {r : RS} (h : RelOk P r) {u v : Int} : v ∈ rowS r.t u ↔ (v, u) ∈ P := by rw [rowS_mem h.to, h.t]; simp
theorem rel_lenF {P : List Jn.Pr} {r : RS} (h : RelOk P r) {u : Int} : (rowS r.f u).length ≤ P.length := by
 have h1 : ((rowS r.f u).map fun v => (u, v)).Nodup := List.Pairwise.map _ (fun a b hab e => hab (congrArg Prod.snd e)) (rowS_nodup h.fo)
 have := len_sub h1 fun x hx => by obtain ⟨v, hv, rfl⟩ := List.mem_map.1 hx; exact (rel_rowF h).1 hv
 rwa [List.length_map] at this
theorem rel_lenT {P : List Jn.Pr} {r : RS} (h : RelOk P r) {u : Int} : (rowS r.t u).length ≤ P.length := by
 have h1 : ((rowS r.t u).map fun v => (v, u)).Nodup := List.Pairwise.map _ (fun a b hab e => hab (congrArg Prod.fst e)) (rowS_nodup h.to)
 have := len_sub h1 fun x hx => by obtain ⟨v, hv, rfl⟩ := List.mem_map.1 hx; exact (rel_rowT h).1 hv
 rwa [List.length_map] at this
def sdB (b : Bool) (r : RS) : Sd := match b with | true => r.t | false => r.f
def gB (b : Bool) (o : RO) : Nat := match b with | true => o.gt | false => o.gf
def swB (b : Bool) (u v : Int) : Jn.Pr := match b with | true => (v, u) | false => (u, v)
theorem gB_mem {b : Bool} {o : RO} {r : RS} : MapI (gB b o) encI IsV (hdS (sdB b r)) ∈ RelI o r := by
 cases b
 · exact List.mem_cons_of_mem _ List.mem_cons_self
 · exact List.mem_cons_of_mem _ (List.mem_cons_of_mem _ List.mem_cons_self)
theorem inn_mem {b : Bool} {o : RO} {r : RS} : ∀ i ∈ innI (sdB b r), i ∈ RelI o r := fun i hi => by
 refine List.mem_cons_of_mem _ (List.mem_cons_of_mem _ (List.mem_cons_of_mem _ ?_))
 cases b
 · exact List.mem_append_left _ hi
 · exact List.mem_append_right _ hi
theorem rel_rowB {P : List Jn.Pr} {r : RS} (h : RelOk P r) {b : Bool} {u v : Int} : v ∈ rowS (sdB b r) u ↔ swB b u v ∈ P := by
 cases b
 · exact rel_rowF h
 · exact rel_rowT h
theorem rel_lenB {P : List Jn.Pr} {r : RS} (h : RelOk P r) {b : Bool} {u : Int} : (rowS (sdB b r) u).length ≤ P.length := by
 cases b
 · exact rel_lenF h
 · exact rel_lenT h
theorem hasKeys_rel {o : RO} {P : List Jn.Pr} {r : RS} (h : RelOk P r) (hi : ∀ p ∈ P, inP p) (hl : P.length ≤ 1000000) (b : Bool) (u : Int) : HasKeys kraw (.map (osS (sdB b r) u)) (RelI o r) (rowS (sdB b r) u) := by
 have h1 : (rowS (sdB b r) u).length ≤ P.length := rel_lenB h
 have h2 : (inS (sdB b r) u).length = (rowS (sdB b r) u).length := by rw [rowS_eq]; simp [keys]
 refine hasKeys_sd inn_mem (by cases b; exact h.fo; exact h.to) (fun v hv => ?_) (by omega)
 have := hi _ ((rel_rowB h).1 hv)
 cases b
 · exact this.2
 · exact this.1
inductive Dels {σ : Type} (stp : σ → Jn.Pr → σ → Bool → Prop) (s : σ) : List Jn.Pr → σ → List Jn.Pr → Prop
 | nil : Dels stp s [] s []
 | snoc {l ys : List Jn.Pr} {s1 s2 : σ} {q : Jn.Pr} {b : Bool} (h : Dels stp s l s1 ys) (h2 : stp s1 q s2 b) : Dels stp s (l ++ [q]) s2 (if b then ys else ys ++ [q])
theorem Dels.yes {σ : Type} {stp : σ → Jn.Pr → σ → Bool → Prop} {s : σ} {xs ys : List Jn.Pr} {k : Nat} {s1 s2 : σ} (hk : k < xs.length) (h : Dels stp s (xs.take k) s1 ys) (h2 : stp s1 (at' xs (k : Int)) s2 true) : Dels stp s (xs.take (k + 1)) s2 ys := by
 rw [List.take_succ_eq_append_getElem hk]
 rw [at'_nat hk] at h2
 exact Dels.snoc h h2
theorem Dels.no {σ : Type} {stp : σ → Jn.Pr → σ → Bool → Prop} {s : σ} {xs ys : List Jn.Pr} {k : Nat} {s1 s2 : σ} (hk : k < xs.length) (h : Dels stp s (xs.take k) s1 ys) (h2 : stp s1 (at' xs (k : Int)) s2 false) : Dels stp s (xs.take (k + 1)) s2 (ys ++ [at' xs (k : Int)]) := by
 rw [List.take_succ_eq_append_getElem hk]
 rw [at'_nat hk] at h2 ⊢
 exact Dels.snoc h h2
theorem Dels.no' {σ : Type} {stp : σ → Jn.Pr → σ → Bool → Prop} {s : σ} {xs : List Jn.Pr} {k : Nat} {s1 s2 : σ} (hk : k < xs.length) (h : Dels stp s (xs.take k) s1 (xs.take k)) (h2 : stp s1 (at' xs (k : Int)) s2 false) : Dels stp s (xs.take (k + 1)) s2 (xs.take (k + 1)) := by
 have := Dels.no hk h h2
 rwa [at'_nat hk, ← List.take_succ_eq_append_getElem hk] at this
def IxD {σ : Type} (stp : σ → Jn.Pr → σ → Bool → Prop) (s : σ) (xs : List Jn.Pr) (r : Int) (s' : σ) : Prop := (r = -1 ∧ Dels stp s xs s' xs) ∨ ∃ (i : Nat) (s1 : σ), i < xs.length ∧ r = (i : Int) ∧ Dels stp s (xs.take i) s1 (xs.take i) ∧ stp s1 (at' xs (i : Int)) s' true
end Go.Proofs.YtklhdalppmjnaaaGreatDoor
/- Walks through the Go functions dred.relation).has, dred.relation).put, dred.relation).drop, dred.newRelation, as typed contracts. -/
namespace Go.Proofs.YtklhdalppmjnaaaGreatDoor
open Go Go.Gw Go.So Go.Tu Go.Jn
open Go.Dr hiding Pr
set_option linter.unusedVariables false
set_option linter.unusedSimpArgs false

set_option maxRecDepth 20000 in
/-- (*rhizome/dred.relation).has -/
theorem dHas_fn (o : RO) (r : RS) (p : Pr) : Ct Tryz.prog 76 [IsV (pt o.g 0), kPP.T p] (RelI o r) Unit (fun _ => BoolT (hasS r.f p.1 p.2)) (fun _ => RelI o r) (fun _ => True) := by
 refine fn_intro Tryz.func76 rfl rfl ?_
 intro H w
 refine tr_perm (List.Perm.refl (BlkI o.g 151 kRel (relV o r.n) :: MapI o.gf encI IsV (hdS r.f) :: MapI o.gt encI IsV (hdS r.t) :: (innI r.f ++ innI r.t))) (sq (te (ec 0 rfl (ec 1 rfl en)) (rg (oA (acts_box (d := kPP) (oT rfl)) pR rfl rfl (fun g0_0 _ => ?_)))))
 refine ak rfl (tn (nn (sq (te (ec 0 rfl (ec 3 rfl en)) ?_))))
 apply tr_any (m := 9) (ns := [[(0, none)], [(5, some 0)], [(6, some 1)], [(7, some 2)], [(3, none)], [(9, some 4)], [(8, some 3), (10, some 5)], [(3, none)], [(12, some 7)]]) (by kernel_rfl) (by kernel_rfl) (Ts := [_, _, _, _, _, _, _, _, _]) rfl
 case hops =>
  refine ⟨?_, ?_, ?_, ?_, ?_, ?_, ?_, ?_, ?_, trivial⟩
  · exact rmv rfl
  · exact rP (pu_nilCheck (oT rfl))
  · exact rP (pf (oT rfl) y90)
  · exact rP (pu_load_rawf (oT rfl) (by exact mA 1 rfl) lre0 y91)
  · exact rP (pu_pair_var0 (oT rfl) (by exact mA 0 rfl) Tryz.underlying109 y2)
  · exact rP (pu_load_p0 (oT rfl) (by exact mA 0 rfl) y2)
  · exact rP (pu_lookup_raw mkI Tryz.underlying149 (z0 := (.map none)) (by kernel_rfl) (oT rfl) (by exact mA 2 rfl) (oT rfl))
  · exact rP (pu_pair_var1 (oT rfl) (by exact mA 0 rfl) Tryz.underlying109 y2)
  · exact rP (pu_load_p1 (oT rfl) (by exact mA 0 rfl) y2)
 case h =>
  exact oP (pu_lookup_opt (o := osS r.f p.1) (m := inS r.f p.1) mkI Tryz.underlying154 zBoD (OT.eq (oT rfl) (congrArg IsV (look_hd _ _))) (ho_mem (fun i hi => List.mem_cons_of_mem _ (List.mem_cons_of_mem _ (List.mem_cons_of_mem _ (List.mem_cons_of_mem _ (List.mem_append_left _ hi)))))) (oT rfl)) rfl (av rfl rfl (tn (nn (tR (ret_one .ret (.inl rfl) rfl () (OT.val (oT rfl) (congrArg Value.bool (hasS_eq _ _ _).symm)) trivial (pd pl))))))
set_option maxRecDepth 20000 in
/-- (*rhizome/dred.relation).put -/
theorem dPut_fn (o : RO) (r : RS) (P : List Pr) (p : Pr) (hr : RelOk P r) (hP : P.length ≤ 100000000000) : Ct Tryz.prog 48 [IsV (pt o.g 0), kPP.T p] (RelI o r) RS (fun q => BoolT (decide (p ∉ P))) (fun q => RelI o q) (fun q => RelOk (addP P p) q) := by
 refine fn_intro Tryz.func48 rfl rfl ?_
 intro H w
 have hn := hr.n
 have hf := hr.f p.1 p.2
 have ht := hr.t p.1 p.2
 have hpl := hP
 refine sq (te (ec 0 rfl (ec 1 rfl en)) (rg (oA (acts_box (d := kPP) (oT rfl)) pR rfl rfl (fun g0_0 _ => ?_))))
 refine ak rfl (tn (nn (sq (sq (te (ec 0 rfl (ec 3 rfl en)) (rg (mv rfl rfl (oP (plv (oT rfl) (by exact mA 0 rfl) y92) rfl ?_))))))))
 refine op_tl [_] rfl (aC (dHas_fn o r p) y93 (oc (oT rfl) (oc (oT rfl) oN)) (perm_tl (X := [_]))) rfl rfl fun _ _ => (tn (nn (tc (oT rfl) (fun c9 => ?_) (fun c9 => ?_))))
 · have hin : p ∈ P := by rw [c9] at hf; exact of_decide_eq_true hf.symm
   refine sq (te en (rg (ak rfl (tn (nn (tR (tt ?_)))))))
   exact ret_one .ret (.inl rfl) rfl r (OT.val (oT rfl) (congrArg Value.bool (by simp [hin]))) (by rw [addP, if_pos hin]; exact hr) (pd pl)
 · have hin : p ∉ P := by rw [c9] at hf; exact of_decide_eq_false hf.symm
   refine tr_perm ((rel_sides o r).cons _) (sk (nn (sq (sq (te (ec 0 rfl (ec 3 rfl en)) ?_)))))
   apply tr_any (m := 21) (ns := [[(0, none)], [(10, some 0)], [(11, some 1)], [(12, some 2)], [(3, none)], [(14, some 4)], [(3, none)], [(16, some 6)], [(13, some 3), (15, some 5), (17, some 7)], [(0, none)], [(19, some 9)], [(20, some 10)], [(21, some 11)], [(3, none)], [(23, some 13)], [(3, none)], [(25, some 15)], [(22, some 12), (24, some 14), (26, some 16)], [(18, some 8), (27, some 17)], [(28, some 18)], []]) (by kernel_rfl) (by kernel_rfl) (Ts := [_, _, _, _, _, _, _, _, _, _, _, _, _, _, _, _, _, _, _, _, _]) rfl
   case hops =>
    refine ⟨?_, ?_, ?_, ?_, ?_, ?_, ?_, ?_, ?_, ?_, ?_, ?_, ?_, ?_, ?_, ?_, ?_, ?_, ?_, ?_, ?_, trivial⟩
    · exact rmv rfl
    · exact rP (pu_nilCheck (oT rfl))
    · exact rP (pf (oT rfl) y90)
    · exact rP (pu_load_rawf (oT rfl) (by exact mA 1 rfl) lre0 y91)
    · exact rP (pu_pair_var0 (oT rfl) (by exact mA 0 rfl) Tryz.underlying109 y2)
    · exact rP (pu_load_p0 (oT rfl) (by exact mA 0 rfl) y2)
    · exact rP (pu_pair_var1 (oT rfl) (by exact mA 0 rfl) Tryz.underlying109 y2)
    · exact rP (pu_load_p1 (oT rfl) (by exact mA 0 rfl) y2)
    · exact rP (pu_build (d := kSd) (v0 := (.map none, 0, 0)) (ps := [(0, 1), (1, 1), (2, 1)]) zSd (by kernel_rfl) rfl (fills_cons rfl ls0 (OT.raw (oT rfl) rfl) (fills_cons rfl ls1 (oT rfl) (fills_cons rfl ls2 (oT rfl) fills_nil))))
    · exact rmv rfl
    · exact rP (pu_nilCheck (oT rfl))
    · exact rP (pf (oT rfl) y94)
    · exact rP (pu_load_rawf (oT rfl) (by exact mA 1 rfl) lre1 y91)
    · exact rP (pu_pair_var1 (oT rfl) (by exact mA 0 rfl) Tryz.underlying109 y2)
    · exact rP (pu_load_p1 (oT rfl) (by exact mA 0 rfl) y2)
    · exact rP (pu_pair_var0 (oT rfl) (by exact mA 0 rfl) Tryz.underlying109 y2)
    · exact rP (pu_load_p0 (oT rfl) (by exact mA 0 rfl) y2)
    · exact rP (pu_build (d := kSd) (v0 := (.map none, 0, 0)) (ps := [(0, 1), (1, 1), (2, 1)]) zSd (by kernel_rfl) rfl (fills_cons rfl ls0 (OT.raw (oT rfl) rfl) (fills_cons rfl ls1 (oT rfl) (fills_cons rfl ls2 (oT rfl) fills_nil))))
    · exact rop_acts rfl (acts_lit (d := kSd) (v0 := (.map none, 0, 0)) y95 y96 zSd (show 2 * 3 ≤ 16777216 from by decide) (by decide) (fills_arr rfl rfl (by decide) (oT rfl) (fills_arr rfl rfl (by decide) (oT rfl) fills_nil))) (fun _ _ _ _ h => h)
    · exact rP (pls (oT rfl) Tryz.underlying153)
    · exact rP (pu_move ot)
   case h =>
    refine tn (nn (tb (tr_loopK (σ := Nat × List Sd) (ec 0 rfl (ec 28 rfl (ec 29 rfl en))) (fun s => [(30, I64 (s.1 : Int))]) (fun s => BlkI g0_0 109 kPP p :: BlkI o.g 151 kRel (relV o r.n) :: sdsI [o.gf, o.gt] s.2) (fun s => s.1 ≤ 2 ∧ ∃ g1 g2, s.2 = sidesK r p s.1 g1 g2) (fun s => 2 - s.1) (0, [r.f, r.t]) ⟨Nat.zero_le _, 0, 0, rfl⟩ ?_ (op pl) ?_)))
    · exact (ec 30 rfl en)
    · rintro ⟨k, ss⟩ ⟨hk, hin2⟩
      dsimp only at hk hin2 ⊢
      refine sq (te (ec 0 rfl (ec 28 rfl (ec 29 rfl (ec 30 rfl en)))) (rg (oP (pu_lss (oT rfl) (oT rfl)) rfl (tn (nn (sq (tc (oT rfl) (fun c31 => ?_) (fun c31 => ?_))))))))
      · refine sk (nn (sq (tb (sq (te (ec 0 rfl (ec 28 rfl (ec 29 rfl (ec 30 rfl en)))) ?_)))))
        have hk2 : k < 2 := by have := c31; simp at this; omega
        obtain ⟨gK, sK, a, b, R, hx, hp, hs⟩ := put_step hk2 hin2
        have hx2 : at' (((List.replicate 2 (Value.map none, (0 : Int), (0 : Int))).set 0 (mp o.gf, p.1, p.2)).set 1 (mp o.gt, p.2, p.1)) (k : Int) = (mp gK, a, b) := hx
        refine tr_perm ((hp.append_left [_, _]).trans (perm_mid0 [_, _] [MapI gK encI IsV (hdS sK)] (innI sK ++ R))) (rg (oP (pu_index (oT rfl) (oT rfl) Tryz.underlying153 y96 (by omega) (by (simp; omega))) rfl (oP (pL (oT rfl) y96) rfl ?_)))
        rw [hx2]
        refine oA (acts_alloc (zSd)) pR rfl rfl (fun g5_2 _ => ?_)
        refine oA (asv (oT rfl) (oT rfl) (by exact pA 0 rfl) y96) (by exact pA 0 rfl) rfl rfl (fun _ _ => ?_)
        refine tn (nn (tr_joinK (σ := List (Int × Value) × Inn × List It) (ec 0 rfl (ec 6 rfl (ec 28 rfl (ec 29 rfl (ec 30 rfl en))))) (fun q => []) (fun q => BlkI g5_2 152 kSd (mp gK, a, b) :: MapI q.2.1.1 encI kbool.T q.2.1.2 :: MapI gK encI IsV q.1 :: BlkI g0_0 109 kPP p :: BlkI o.g 151 kRel (relV o r.n) :: (q.2.2 ++ R)) (fun q => (lkp a q.1).getD (.map none) = mp q.2.1.1 ∧ ∃ g3, (MapI q.2.1.1 encI kbool.T (ptk b true q.2.1.2) :: MapI gK encI IsV q.1 :: q.2.2).Perm (sdI gK (putS a b g3 sK))) ?_ ?_))
        · refine sq (te (ec 0 rfl (ec 6 rfl (ec 28 rfl (ec 29 rfl (ec 30 rfl en))))) (rg (oP (pf (oT rfl) y97) rfl (oP (pu_load_rawf (oT rfl) (by exact mA 0 rfl) ls0 y91) rfl ?_))))
          refine oP (pf (oT rfl) y98) rfl (oP (plb (oT rfl) (by exact mA 0 rfl) ls1 y2) rfl ?_)
          refine oP (pu_lookup_raw mkI Tryz.underlying149 (z0 := (.map none)) (by kernel_rfl) (oT rfl) (by exact mA 1 rfl) (oT rfl)) rfl ?_
          refine oP (pu_map_eql Tryz.underlying154 (OT.eq (oT rfl) (congrArg IsV (look_hd _ _)))) rfl (tn (nn (tc (oT rfl) (fun c39 => ?_) (fun c39 => ?_))))
          · have hn1 : lkp a sK = none := by
             unfold osS at c39
             cases hl : lkp a sK with
             | none => rfl
             | some x => rw [hl] at c39; cases c39
            refine te (ec 0 rfl (ec 6 rfl (ec 28 rfl (ec 29 rfl (ec 30 rfl en))))) (rg (oP (pf (oT rfl) y97) rfl (oP (pu_load_rawf (oT rfl) (by exact mA 0 rfl) ls0 y91) rfl ?_)))
            refine oP (pf (oT rfl) y98) rfl (oP (plb (oT rfl) (by exact mA 0 rfl) ls1 y2) rfl ?_)
            refine oA (acts_makeMap encI kbool.T) pR rfl rfl (fun g7_4 _ => ?_)
            refine oA (acts_update mkI Tryz.underlying149 (oT rfl) (by exact pA 2 rfl) (oT rfl) (oT rfl)) (by exact pA 2 rfl) rfl rfl (fun _ _ => ?_)
            exact tn (nn (tr_joined (ptk a (mp g7_4) (hdS sK), (g7_4, []), innI sK) (let h := put_none (gK := gK) (g := g7_4) (b := b) hn1; ⟨h.1, _, h.2⟩) (ea en (ec 0 rfl (ec 6 rfl (ec 28 rfl (ec 29 rfl (ec 30 rfl en)))))) (op (pc 2 rfl (pc 1 rfl (pc 0 rfl pl))))))
          · have hn1 : ∃ x, lkp a sK = some x := by
             unfold osS at c39
             cases hl : lkp a sK with
             | none => rw [hl] at c39; cases c39
             | some x => exact ⟨x, rfl⟩
            obtain ⟨x, hn1⟩ := hn1
            exact sk (nn (tr_joined (hdS sK, x, innI (dlk a sK)) (let h := put_some (gK := gK) (b := b) hn1; ⟨h.1, _, h.2⟩) (ea en (ec 0 rfl (ec 6 rfl (ec 28 rfl (ec 29 rfl (ec 30 rfl en)))))) (op (picks_perm (List.Perm.cons _ ((((innI_some hn1).append_right R).append_left [_, _, _]).trans (perm_mid0 [_, _, _] [_] _)))))))
        · rintro ⟨hh, x, Y⟩ hq
          refine te (ec 0 rfl (ec 6 rfl (ec 28 rfl (ec 29 rfl (ec 30 rfl en))))) (rg (oP (pf (oT rfl) y97) rfl (oP (pu_load_rawf (oT rfl) (by exact mA 0 rfl) ls0 y91) rfl ?_)))
          refine oP (pf (oT rfl) y98) rfl (oP (plb (oT rfl) (by exact mA 0 rfl) ls1 y2) rfl ?_)
          refine oP (pu_lookup_raw mkI Tryz.underlying149 (z0 := (.map none)) (by kernel_rfl) (oT rfl) (by exact mA 2 rfl) (oT rfl)) rfl ?_
          refine oP (pf (oT rfl) y99) rfl (oP (plb (oT rfl) (by exact mA 0 rfl) ls2 y2) rfl ?_)
          refine oA (acts_update (V := kbool.T) (v := true) mkI Tryz.underlying154 (OT.eq (oT rfl) (congrArg IsV hq.1)) (by exact pA 1 rfl) (oT rfl) ot) (by exact pA 1 rfl) rfl rfl (fun _ _ => ?_)
          refine tn (bn (nn (te (ec 0 rfl (ec 28 rfl (ec 29 rfl (ec 30 rfl en)))) ?_)))
          obtain ⟨g3, hg3⟩ := hq.2
          obtain ⟨ss2, hp2, hs2⟩ := hs g3
          refine rg (oP (pad (oT rfl) ot (by omega)) rfl (mv rfl rfl (tn (nn ?_))))
          exact tg (k + 1, ss2) ⟨(by show k + 1 ≤ 2; omega), hs2⟩ (by show 2 - (k + 1) < 2 - k; omega) (ea (ec 30 rfl en) (ec 0 rfl (ec 28 rfl (ec 29 rfl en)))) (op (put_fin hg3 hp2))
      · refine tr_exit (tx (tx (bh (nn (sq (te (ec 0 rfl en) ?_))))))
        obtain rfl : k = 2 := by have := c31; simp at this; omega
        obtain ⟨g1, g2, rfl⟩ := hin2
        have hss : sidesK r p 2 g1 g2 = [putS p.1 p.2 g1 r.f, putS p.2 p.1 g2 r.t] := rfl
        rw [hss]
        refine rg (mv rfl rfl (oP (pu_nilCheck (oT rfl)) rfl (oP (pf (oT rfl) y100) rfl (oP (plb (oT rfl) (by exact mA 1 rfl) lre2 y2) rfl ?_))))
        refine oP (pad (oT rfl) ot (by (simp; omega))) rfl (oP (pu_nilCheck (oT rfl)) rfl (oP (pf (oT rfl) y100) rfl (oA (acts_store_blk (oT rfl) (oT rfl) (by exact pA 1 rfl) lre2 y2) (by exact pA 1 rfl) rfl rfl (fun _ _ => ?_))))
        refine tn (nn (sq (te en (rg (ak rfl (tn (nn (tR ?_))))))))
        exact ret_one .ret (.inl rfl) rfl (⟨putS p.1 p.2 g1 r.f, putS p.2 p.1 g2 r.t, r.n + 1⟩) (OT.val (oT rfl) (congrArg Value.bool (by simp [hin]))) (by rw [addP, if_neg hin]; exact hr.put hin) (picks_trans (pc 0 rfl (pd pl)) (picks_perm (rel_sides o ⟨putS p.1 p.2 g1 r.f, putS p.2 p.1 g2 r.t, r.n + 1⟩).symm))
set_option maxRecDepth 20000 in
/-- (*rhizome/dred.relation).drop -/
theorem dDrop_fn (o : RO) (r : RS) (P : List Pr) (p : Pr) (hr : RelOk P r) (hP : P.length ≤ 100000000000) : Ct Tryz.prog 196 [IsV (pt o.g 0), kPP.T p] (RelI o r) RS (fun q => BoolT (decide (p ∈ P))) (fun q => RelI o q) (fun q => RelOk (P.erase p) q) := by
 refine fn_intro Tryz.func196 rfl rfl ?_
 intro H w
 have hn := hr.n
 have hf := hr.f p.1 p.2
 have ht := hr.t p.1 p.2
 have hpl := hP
 refine sq (te (ec 0 rfl (ec 1 rfl en)) (rg (oA (acts_box (d := kPP) (oT rfl)) pR rfl rfl (fun g0_0 _ => ?_))))
 refine ak rfl (tn (nn (sq (sq (te (ec 0 rfl (ec 3 rfl en)) (rg (mv rfl rfl (oP (plv (oT rfl) (by exact mA 0 rfl) y92) rfl ?_))))))))
 refine op_tl [_] rfl (aC (dHas_fn o r p) y93 (oc (oT rfl) (oc (oT rfl) oN)) (perm_tl (X := [_]))) rfl rfl fun _ _ => (oP (pu_not (oT rfl)) rfl (tn (nn (tc (oT rfl) (fun c8 => ?_) (fun c8 => ?_)))))
 · have hin : p ∉ P := fun h => by rw [hf, decide_eq_true h] at c8; cases c8
   refine sq (te en (rg (ak rfl (tn (nn (tR (tt ?_)))))))
   exact ret_one .ret (.inl rfl) rfl r (OT.val (oT rfl) (congrArg Value.bool (by simp [hin]))) (by rw [List.erase_of_not_mem hin]; exact hr) (pd pl)
 · have hin : p ∈ P := Classical.byContradiction fun h => by rw [hf, decide_eq_false h] at c8; cases c8
   have hpos := List.length_pos_of_mem hin
   obtain ⟨x, hl⟩ := has_some (s := r.f) (by rw [hf, decide_eq_true hin])
   obtain ⟨x2, hl2⟩ := has_some (s := r.t) (by rw [ht, decide_eq_true hin])
   refine sk (nn (sq (te (ec 0 rfl (ec 3 rfl en)) (tr_perm (rel_openF (X := [_]) hl) ?_))))
   apply tr_any (m := 9) (ns := [[(0, none)], [(9, some 0)], [(10, some 1)], [(11, some 2)], [(3, none)], [(13, some 4)], [(12, some 3), (14, some 5)], [(3, none)], [(16, some 7)]]) (by kernel_rfl) (by kernel_rfl) (Ts := [_, _, _, _, _, _, _, _, _]) rfl
   case hops =>
    refine ⟨?_, ?_, ?_, ?_, ?_, ?_, ?_, ?_, ?_, trivial⟩
    · exact rmv rfl
    · exact rP (pu_nilCheck (oT rfl))
    · exact rP (pf (oT rfl) y90)
    · exact rP (pu_load_rawf (oT rfl) (by exact mA 2 rfl) lre0 y91)
    · exact rP (pu_pair_var0 (oT rfl) (by exact mA 1 rfl) Tryz.underlying109 y2)
    · exact rP (pu_load_p0 (oT rfl) (by exact mA 1 rfl) y2)
    · exact rP (pu_lookup_raw mkI Tryz.underlying149 (z0 := (.map none)) (by kernel_rfl) (oT rfl) (by exact mA 3 rfl) (oT rfl))
    · exact rP (pu_pair_var1 (oT rfl) (by exact mA 1 rfl) Tryz.underlying109 y2)
    · exact rP (pu_load_p1 (oT rfl) (by exact mA 1 rfl) y2)
   case h =>
    refine oA (acts_delete (m := x.2) (V := kbool.T) mkI Tryz.underlying154 rfl (OT.eq (oT rfl) (congrArg IsV (hd_some hl))) pR (oT rfl)) pR rfl rfl (fun _ _ => ?_)
    refine tn (tr_perm (rel_closeF (X := [_]) hl) (nn (sq (te (ec 0 rfl (ec 3 rfl en)) (tr_perm (rel_openT (X := [_]) (r := ⟨ptk p.1 (x.1, dlk p.2 x.2) r.f, r.t, r.n⟩) hl2) ?_)))))
    apply tr_any (m := 9) (ns := [[(0, none)], [(18, some 0)], [(19, some 1)], [(20, some 2)], [(3, none)], [(22, some 4)], [(21, some 3), (23, some 5)], [(3, none)], [(25, some 7)]]) (by kernel_rfl) (by kernel_rfl) (Ts := [_, _, _, _, _, _, _, _, _]) rfl
    case hops =>
     refine ⟨?_, ?_, ?_, ?_, ?_, ?_, ?_, ?_, ?_, trivial⟩
     · exact rmv rfl
     · exact rP (pu_nilCheck (oT rfl))
     · exact rP (pf (oT rfl) y94)
     · exact rP (pu_load_rawf (oT rfl) (by exact mA 2 rfl) lre1 y91)
     · exact rP (pu_pair_var1 (oT rfl) (by exact mA 1 rfl) Tryz.underlying109 y2)
     · exact rP (pu_load_p1 (oT rfl) (by exact mA 1 rfl) y2)
     · exact rP (pu_lookup_raw mkI Tryz.underlying149 (z0 := (.map none)) (by kernel_rfl) (oT rfl) (by exact mA 4 rfl) (oT rfl))
     · exact rP (pu_pair_var0 (oT rfl) (by exact mA 1 rfl) Tryz.underlying109 y2)
     · exact rP (pu_load_p0 (oT rfl) (by exact mA 1 rfl) y2)
    case h =>
     refine oA (acts_delete (m := x2.2) (V := kbool.T) mkI Tryz.underlying154 rfl (OT.eq (oT rfl) (congrArg IsV (hd_some hl2))) pR (oT rfl)) pR rfl rfl (fun _ _ => ?_)
     refine tn (tr_perm (rel_closeT (X := [_]) (r := ⟨ptk p.1 (x.1, dlk p.2 x.2) r.f, r.t, r.n⟩) hl2) (nn (sq (te (ec 0 rfl en) (rg (mv rfl rfl (oP (pu_nilCheck (oT rfl)) rfl (oP (pf (oT rfl) y100) rfl (oP (plb (oT rfl) (by exact mA 1 rfl) lre2 y2) rfl ?_)))))))))
     refine oP (pu_sub' (oT rfl) ot (by (simp; omega))) rfl (oP (pu_nilCheck (oT rfl)) rfl (oP (pf (oT rfl) y100) rfl (oA (acts_store_blk (oT rfl) (oT rfl) (by exact pA 1 rfl) lre2 y2) (by exact pA 1 rfl) rfl rfl (fun _ _ => ?_))))
     refine tn (nn (sq (te en (rg (ak rfl (tn (nn (tR ?_))))))))
     exact ret_one .ret (.inl rfl) rfl (⟨ptk p.1 (x.1, dlk p.2 x.2) r.f, ptk p.2 (x2.1, dlk p.1 x2.2) r.t, r.n - 1⟩) (OT.val (oT rfl) (congrArg Value.bool (by simp [hin]))) (by have := hr.drop hin; rw [dropS_some hl, dropS_some hl2] at this; exact this) (pc 0 rfl (pd pl))
set_option maxRecDepth 20000 in
/-- rhizome/dred.newRelation -/
theorem dNewRel_fn  : Ct Tryz.prog 47 [] ([]) RO (fun o => IsV (pt o.g 0)) (fun o => RelI o ⟨[], [], 0⟩) (fun _ => True) := by
 refine fn_intro Tryz.func47 rfl rfl ?_
 intro H w
 refine sq (te en (rg (ak rfl (tn (nn (sq (te en (rg (oA (acts_makeMap encI IsV) pR rfl rfl (fun g1_0 _ => ?_))))))))))
 refine oA (acts_makeMap encI IsV) pR rfl rfl (fun g1_1 _ => ?_)
 refine oP (pu_build (d := kRel) (v0 := (.map none, .map none, 0)) (ps := [(0, 1), (1, 1), (2, 1)]) zRel (by kernel_rfl) rfl (fills_cons rfl lre0 (OT.raw (oT rfl) rfl) (fills_cons rfl lre1 (OT.raw (oT rfl) rfl) fills_nil))) rfl (oA (acts_box (d := kRel) (oT rfl)) pR rfl rfl (fun g1_3 _ => ?_))
 exact av rfl rfl (tn (nn (tR (ret_one .ret (.inl rfl) rfl (⟨g1_3, g1_0, g1_1⟩) (oT rfl) trivial (picks_perm (perm_at 0 rfl |>.trans (List.Perm.cons _ (List.Perm.swap _ _ _))))))))
end Go.Proofs.YtklhdalppmjnaaaGreatDoor
/- Walks through the Go functions dred.around, dred.Dred).insert$1, dred.Dred).remove$1, dred.pair], dred.pair], as typed contracts. -/
namespace Go.Proofs.YtklhdalppmjnaaaGreatDoor
open Go Go.Gw Go.So Go.Tu Go.Jn
open Go.Dr hiding Pr
set_option linter.unusedVariables false
set_option linter.unusedSimpArgs false
theorem idx_eq {k i : Nat} (h : (k : Int) = (i : Int)) : k = i := by omega

set_option maxRecDepth 20000 in
/-- rhizome/dred.around -/
theorem around_fn (o : RO) (r : RS) (P : List Pr) (b : Bool) (n : Int) (hr : RelOk P r) (hi : ∀ p ∈ P, inP p) (hP : P.length ≤ 100000) : Ct Tryz.prog 198 [I64 n, IsV (mp (gB b o))] (RelI o r) (Value × List Int) (fun q => IsV q.1) (fun q => OwnI 3 kI q.1 q.2 :: RelI o r) (fun q => q.2.Perm (rowS (sdB b r) n ++ [n])) := by
 refine fn_intro Tryz.func198 rfl rfl ?_
 intro H w
 have hlb := rel_lenB hr (b := b) (u := n)
 refine sq (te (ec 0 rfl (ec 1 rfl en)) (rg (ak rfl (tn (nn (sq (te (ec 0 rfl (ec 1 rfl en)) (rg (mv rfl rfl (mv rfl rfl (oP (pu_lookup_raw mkI Tryz.underlying149 (z0 := (.map none)) (by kernel_rfl) (oT rfl) gB_mem (oT rfl)) rfl (oA (aC (keysB_ct _) y101 (oc (OT.raw (OT.eq (oT rfl) (congrArg IsV (look_hd _ _))) rfl) oN) pR) pR rfl rfl fun bk _ => (op_tl [] rfl (aC (collectB_ct (hasKeys_rel hr hi (by omega) b n)) y102 (oc (oT rfl) oN) (perm_tl (X := []))) rfl rfl fun q hq => (mv rfl rfl ?_))))))))))))))
 have hql := hq.length_eq
 refine oA (acts_lit (d := kI) (v0 := 0) y73 y2 zI (show 1 * 1 ≤ 16777216 from by decide) (by decide) (fills_arr rfl rfl (by decide) (oT rfl) fills_nil)) pR rfl rfl (fun _ _ => ?_)
 refine oA (acts_append (oT rfl) (by exact pA 0 rfl) (oT rfl) y73 (by (simp; omega)) (by (simp [maxLen]; omega))) (by exact pA 0 rfl) rfl rfl (fun v1_7 _ => ?_)
 exact av rfl rfl (tn (nn (tR (ret_one .ret (.inl rfl) rfl (v1_7, q.2 ++ [n]) (oT rfl) (hq.append_right _) (pc 0 rfl (pd pl))))))
set_option maxRecDepth 20000 in
/-- (*rhizome/dred.Dred).insert$1 -/
theorem ins1_fn (d : DO) (n : Int) (b : Nat) (r : RS) (S : List Pr) (q : Pr) (hr : RelOk S r) (hS : S.length ≤ 100000000000) : Ct Tryz.prog 203 [kPP.T q, IsV (pt b 0)] (BlkI b 75 kraw (pt d.g 0) :: BlkI d.g 106 kDr (dV d n) :: RelI d.s r) RS (fun u => BoolT (!decide (q ∉ S))) (fun u => BlkI b 75 kraw (pt d.g 0) :: BlkI d.g 106 kDr (dV d n) :: RelI d.s u) (fun u => RelOk (addP S q) u) := by
 refine fn_intro Tryz.func203 rfl rfl ?_
 intro H w
 refine sq (te (ec 0 rfl (ec 1 rfl en)) (rg (oA (acts_box (d := kPP) (oT rfl)) pR rfl rfl (fun g0_0 _ => ?_))))
 refine ak rfl (tn (nn (sq (te (ec 1 rfl (ec 2 rfl en)) ?_))))
 apply tr_any (m := 5) (ns := [[(1, none)], [(4, some 0)], [(5, some 1)], [(6, some 2)], [(2, none)]]) (by kernel_rfl) (by kernel_rfl) (Ts := [_, _, _, _, _]) rfl
 case hops =>
  refine ⟨?_, ?_, ?_, ?_, ?_, trivial⟩
  · exact rP (pu_load_rawv (oT rfl) (by exact mA 1 rfl) y103)
  · exact rP (pu_nilCheck (oT rfl))
  · exact rP (pf (oT rfl) y104)
  · exact rP (pu_load_rawf (oT rfl) (by exact mA 2 rfl) ld2 y105)
  · exact rP (plv (oT rfl) (by exact mA 0 rfl) y92)
 case h =>
  exact op_tl [_, _, _] rfl (aC (dPut_fn d.s r S q hr hS) y106 (oc (oT rfl) (oc (oT rfl) oN)) (perm_tl (X := [_, _, _]))) rfl rfl fun u hu => (oP (pu_not (oT rfl)) rfl (av rfl rfl (tn (nn (tR (ret_one .ret (.inl rfl) rfl u (oT rfl) hu (pd pl)))))))
set_option maxRecDepth 20000 in
/-- (*rhizome/dred.Dred).remove$1 -/
theorem rem1_fn (d : DO) (n : Int) (b : Nat) (r : RS) (S : List Pr) (q : Pr) (hr : RelOk S r) (hS : S.length ≤ 100000000000) : Ct Tryz.prog 200 [kPP.T q, IsV (pt b 0)] (BlkI b 75 kraw (pt d.g 0) :: BlkI d.g 106 kDr (dV d n) :: RelI d.s r) RS (fun u => BoolT (!decide (q ∈ S))) (fun u => BlkI b 75 kraw (pt d.g 0) :: BlkI d.g 106 kDr (dV d n) :: RelI d.s u) (fun u => RelOk (S.erase q) u) := by
 refine fn_intro Tryz.func200 rfl rfl ?_
 intro H w
 refine sq (te (ec 0 rfl (ec 1 rfl en)) (rg (oA (acts_box (d := kPP) (oT rfl)) pR rfl rfl (fun g0_0 _ => ?_))))
 refine ak rfl (tn (nn (sq (te (ec 1 rfl (ec 2 rfl en)) ?_))))
 apply tr_any (m := 5) (ns := [[(1, none)], [(4, some 0)], [(5, some 1)], [(6, some 2)], [(2, none)]]) (by kernel_rfl) (by kernel_rfl) (Ts := [_, _, _, _, _]) rfl
 case hops =>
  refine ⟨?_, ?_, ?_, ?_, ?_, trivial⟩
  · exact rP (pu_load_rawv (oT rfl) (by exact mA 1 rfl) y103)
  · exact rP (pu_nilCheck (oT rfl))
  · exact rP (pf (oT rfl) y104)
  · exact rP (pu_load_rawf (oT rfl) (by exact mA 2 rfl) ld2 y105)
  · exact rP (plv (oT rfl) (by exact mA 0 rfl) y92)
 case h =>
  exact op_tl [_, _, _] rfl (aC (dDrop_fn d.s r S q hr hS) y107 (oc (oT rfl) (oc (oT rfl) oN)) (perm_tl (X := [_, _, _]))) rfl rfl fun u hu => (oP (pu_not (oT rfl)) rfl (av rfl rfl (tn (nn (tR (ret_one .ret (.inl rfl) rfl u (oT rfl) hu (pd pl)))))))
set_option maxRecDepth 20000 in
/-- slices.IndexFunc[[]rhizome/dred.pair,rhizome/dred.pair] -/
theorem IndexD_fn {σ : Type} (J : σ → List It) (inv : Nat → σ → Prop) (stp : σ → Pr → σ → Bool → Prop) (fv v : Value) (xs : List Pr) (s0 : σ) (hm : xs.length ≤ 100000000000) (hv : inv xs.length s0) (hD : ∀ m s q, inv (m + 1) s → CtV Tryz.prog fv [kPP.T q] (J s) (σ × Bool) (fun u => BoolT u.2) (fun u => J u.1) (fun u => inv m u.1 ∧ stp s q u.1 u.2)) : Ct Tryz.prog 205 [IsV v, IsV fv] (OwnI 109 kPP v xs :: J s0) (Int × σ) (fun q => I64 q.1) (fun q => OwnI 109 kPP v xs :: J q.2) (fun q => IxD stp s0 xs q.1 q.2 ∧ (∀ i : Nat, q.1 = (i : Int) → inv (xs.length - (i + 1)) q.2) ∧ (q.1 = -1 → inv 0 q.2)) := by
 refine fn_intro Tryz.func205 rfl rfl ?_
 intro H w
 refine sq (te (ec 0 rfl (ec 1 rfl en)) (rg (ak rfl (tn (nn (sq (sq (te (ec 0 rfl (ec 1 rfl en)) (rg (mv rfl rfl (oP (pu_len_own (oT rfl) (by exact mA 0 rfl) Tryz.underlying273) rfl ?_)))))))))))
 refine oP (pu_move ot) rfl (tn (nn (tb (tr_loopK (σ := Nat × σ) (ec 0 rfl (ec 1 rfl (ec 7 rfl en))) (fun s => [(8, I64 (s.1 : Int))]) (fun s => OwnI 109 kPP v xs :: J s.2) (fun s => s.1 ≤ xs.length ∧ Dels stp s0 (xs.take s.1) s.2 (xs.take s.1) ∧ inv (xs.length - s.1) s.2) (fun s => xs.length - s.1) (0, s0) ⟨Nat.zero_le _, Dels.nil, hv⟩ ?_ (op pl) ?_))))
 · exact (ec 8 rfl en)
 · rintro ⟨k, s1⟩ ⟨hk, hno, hv1⟩
   dsimp only at hk hno hv1 ⊢
   refine sq (te (ec 0 rfl (ec 1 rfl (ec 7 rfl (ec 8 rfl en)))) (rg (oP (pu_lss (oT rfl) (oT rfl)) rfl (tn (nn (sq (tc (oT rfl) (fun c9 => ?_) (fun c9 => ?_))))))))
   · refine sk (nn (sq (tb (sq (te (ec 0 rfl (ec 1 rfl (ec 7 rfl (ec 8 rfl en)))) ?_)))))
     have hkl : k < xs.length := by simp only [decide_eq_true_eq] at c9; omega
     have hvk : inv (xs.length - (k + 1) + 1) s1 := by rw [show xs.length - (k + 1) + 1 = xs.length - k from by omega]; exact hv1
     refine rg (mv rfl rfl (av rfl rfl (tn (nn (sq (te (ec 0 rfl (ec 1 rfl (ec 5 rfl (ec 7 rfl (ec 8 rfl en))))) (rg (mv rfl rfl (mv rfl rfl (mv rfl rfl (oP (pio (oT rfl) (by exact mA 0 rfl) (oT rfl) Tryz.underlying273 y92 (by omega) (by omega)) rfl ?_)))))))))))
     refine oP (plo (oT rfl) (by exact mA 0 rfl) (by omega) (by omega) y92) rfl ?_
     refine op_tl [_] rfl (acts_callv (oT rfl) (hD _ _ _ hvk) (oc (oT rfl) oN) (perm_tl (X := [_]))) rfl rfl fun u hu => (tn (nn (tc (oT rfl) (fun c16 => ?_) (fun c16 => ?_))))
     · have hst := hu.2
       rw [c16] at hst
       refine sq (te (ec 5 rfl en) (rg (mv rfl rfl (av rfl rfl (tn (nn (tR (block_ret (tt (tt (block_ret (tt ?_))))))))))))
       exact ret_one .ret (.inl rfl) rfl ((k : Int), u.1) (oT rfl) ⟨.inr ⟨k, s1, hkl, rfl, hno, hst⟩, fun i hi => (idx_eq hi ▸ hu.1), fun h => absurd h (by show ¬ (k : Int) = -1; omega)⟩ pl
     · have hst := hu.2
       rw [c16] at hst
       have hst := Dels.no' hkl hno hst
       refine sk (bn (nn (te (ec 0 rfl (ec 1 rfl (ec 7 rfl (ec 8 rfl en)))) (rg (oP (pad (oT rfl) ot (by omega)) rfl (mv rfl rfl (tn (nn ?_))))))))
       exact tg (k + 1, u.1) ⟨hkl, hst, hu.1⟩ (by show xs.length - (k + 1) < xs.length - k; omega) (ea (ec 8 rfl en) (ec 0 rfl (ec 1 rfl (ec 7 rfl en)))) (op pl)
   · refine tr_exit (tx (tx (bh (nn (sq (te en ?_))))))
     obtain rfl : k = xs.length := by simp only [decide_eq_false_iff_not] at c9; omega
     rw [List.take_length] at hno
     rw [Nat.sub_self] at hv1
     refine rg (ak rfl (tn (nn (tR ?_))))
     exact ret_one .ret (.inl rfl) rfl (-1, s1) (oT rfl) ⟨.inl ⟨rfl, hno⟩, fun i hi => absurd hi (by show ¬ (-1 : Int) = (i : Int); omega), fun _ => hv1⟩ pl
set_option maxRecDepth 20000 in
/-- slices.DeleteFunc[[]rhizome/dred.pair,rhizome/dred.pair] -/
theorem DeleteD_fn {σ : Type} (J : σ → List It) (inv : Nat → σ → Prop) (stp : σ → Pr → σ → Bool → Prop) (fv v : Value) (xs : List Pr) (s0 : σ) (hm : xs.length ≤ 100000000000) (hv : inv xs.length s0) (hD : ∀ m s q, inv (m + 1) s → CtV Tryz.prog fv [kPP.T q] (J s) (σ × Bool) (fun u => BoolT u.2) (fun u => J u.1) (fun u => inv m u.1 ∧ stp s q u.1 u.2)) : Ct Tryz.prog 199 [IsV v, IsV fv] (OwnI 109 kPP v xs :: J s0) (Value × List Pr × σ) (fun q => IsV q.1) (fun q => OwnI 109 kPP q.1 q.2.1 :: J q.2.2) (fun q => Dels stp s0 xs q.2.2 q.2.1 ∧ inv 0 q.2.2 ∧ q.2.1.length ≤ xs.length) := by
 refine fn_intro Tryz.func199 rfl rfl ?_
 intro H w
 refine sq (te (ec 0 rfl (ec 1 rfl en)) (rg (ak rfl (tn (nn (sq (te (ec 0 rfl (ec 1 rfl en)) (rg (mv rfl rfl (mv rfl rfl (op_tl [] rfl (aC (IndexD_fn J inv stp fv v xs s0 hm hv hD) y108 (oc (oT rfl) (oc (oT rfl) oN)) (perm_tl (X := []))) rfl rfl fun qi hqi => (av rfl rfl (tn (nn (sq (sq (te (ec 0 rfl (ec 1 rfl (ec 5 rfl en))) (rg (mv rfl rfl (oP (pu_eql (oT rfl) ot) rfl (tn (nn (tc (oT rfl) (fun c12 => ?_) (fun c12 => ?_))))))))))))))))))))))))
 · have hm1 : qi.1 = -1 := of_decide_eq_true c12
   have hall : Dels stp s0 xs qi.2 xs := by
    rcases hqi.1 with ⟨_, h⟩ | ⟨i, _, _, h, _⟩
    · exact h
    · omega
   have hv0 := hqi.2.2 hm1
   exact sq (te (ec 0 rfl en) (rg (mv rfl rfl (av rfl rfl (tn (nn (tR (tt (ret_one .ret (.inl rfl) rfl (v, xs, qi.2) (oT rfl) ⟨hall, hv0, Nat.le_refl _⟩ pl)))))))))
 · have hm1 : ¬ qi.1 = -1 := of_decide_eq_false c12
   obtain ⟨i0, s1, hi0, hqe, hdi, hst0⟩ : ∃ (i : Nat) (s1 : σ), i < xs.length ∧ qi.1 = (i : Int) ∧ Dels stp s0 (xs.take i) s1 (xs.take i) ∧ stp s1 (at' xs (i : Int)) qi.2 true := by
    rcases hqi.1 with ⟨h, _⟩ | h
    · exact absurd h hm1
    · exact h
   have hvi := hqi.2.1 i0 hqe
   have hst1 := Dels.yes hi0 hdi hst0
   obtain ⟨qv, qs⟩ := qi
   dsimp only at hqe hvi hst1 ⊢
   subst hqe
   refine sk (nn (sq (sq (te (ec 0 rfl (ec 1 rfl (ec 5 rfl en))) (rg (mv rfl rfl (oP (pad (oT rfl) ot (by omega)) rfl (av rfl rfl (tn (nn (tb (tr_loopK (σ := Nat × Nat × List Pr × σ) (ec 0 rfl (ec 1 rfl en)) (fun s => [(6, I64 (s.1 : Int)), (5, I64 (s.2.1 : Int))]) (fun s => OwnI 109 kPP v s.2.2.1 :: J s.2.2.2) (fun s => s.2.1 < s.1 ∧ s.1 ≤ xs.length ∧ s.2.2.1.length = xs.length ∧ Dels stp s0 (xs.take s.1) s.2.2.2 (s.2.2.1.take s.2.1) ∧ s.2.2.1.drop s.1 = xs.drop s.1 ∧ inv (xs.length - s.1) s.2.2.2) (fun s => xs.length - s.1) (i0 + 1, i0, xs, qs) ⟨Nat.lt_succ_self _, hi0, rfl, hst1, rfl, hvi⟩ ?_ (op pl) ?_))))))))))))
   · exact (ec 6 rfl (ec 5 rfl en))
   · rintro ⟨j, i, ys, s1⟩ ⟨hij, hj, hyl, hyt, hyd, hv1⟩
     dsimp only at hij hj hyl hyt hyd hv1 ⊢
     refine sq (sq (te (ec 0 rfl (ec 1 rfl (ec 5 rfl (ec 6 rfl en)))) (rg (mv rfl rfl (mv rfl rfl (oP (pu_len_own (oT rfl) (by exact mA 0 rfl) Tryz.underlying273) rfl ?_))))))
     refine oP (pu_lss (oT rfl) (oT rfl)) rfl (tn (nn (tc (oT rfl) (fun c19 => ?_) (fun c19 => ?_))))
     · refine sk (nn (sq (tb (sq (te (ec 0 rfl (ec 1 rfl (ec 5 rfl (ec 6 rfl en)))) ?_)))))
       have hjl : j < xs.length := by simp only [decide_eq_true_eq] at c19; omega
       have hy : at' ys (j : Int) = at' xs (j : Int) := drop_at' hyd (Nat.le_refl _) (by omega) hjl
       have hvk : inv (xs.length - (j + 1) + 1) s1 := by rw [show xs.length - (j + 1) + 1 = xs.length - j from by omega]; exact hv1
       refine rg (mv rfl rfl (mv rfl rfl (oP (pio (oT rfl) (by exact mA 0 rfl) (oT rfl) Tryz.underlying273 y92 (by omega) (by omega)) rfl ?_)))
       refine oP (plo (oT rfl) (by exact mA 0 rfl) (by omega) (by omega) y92) rfl ?_
       refine oA (acts_alloc (zPr)) pR rfl rfl (fun g7_4 _ => ?_)
       refine oA (asv (oT rfl) (oT rfl) (by exact pA 0 rfl) y92) (by exact pA 0 rfl) rfl rfl (fun _ _ => ?_)
       refine tn ?_
       rw [hy]
       refine nn (sq (te (ec 0 rfl (ec 1 rfl (ec 5 rfl (ec 6 rfl (ec 7 rfl en))))) (rg (mv rfl rfl (oP (plv (oT rfl) (by exact mA 0 rfl) y92) rfl ?_)))))
       refine op_tl [_, _] rfl (acts_callv (oT rfl) (hD _ _ _ hvk) (oc (oT rfl) oN) (perm_tl (X := [_, _]))) rfl rfl fun u hu => (oP (pu_not (oT rfl)) rfl (tn (nn (tc (oT rfl) (fun c29 => ?_) (fun c29 => ?_)))))
       · have hst := hu.2
         have hub : u.2 = false := by simpa using c29
         rw [hub] at hst
         have hst := Dels.no hjl hyt hst
         refine sq (te (ec 0 rfl (ec 1 rfl (ec 5 rfl (ec 6 rfl (ec 7 rfl en))))) (rg (mv rfl rfl (mv rfl rfl (oP (plv (oT rfl) (by exact mA 0 rfl) y92) rfl ?_)))))
         refine oP (pio (oT rfl) (by exact mA 1 rfl) (oT rfl) Tryz.underlying273 y92 (by omega) (by omega)) rfl ?_
         refine oA (acts_store_own0 (oT rfl) (oT rfl) (by exact pA 1 rfl) (by omega) (by omega) y92) (by exact pA 1 rfl) rfl rfl (fun _ _ => ?_)
         refine tn (nn (te (ec 0 rfl (ec 1 rfl (ec 5 rfl (ec 6 rfl en)))) (rg (mv rfl rfl (oP (pad (oT rfl) ot (by omega)) rfl (av rfl rfl (tn (bn (nn (te (ec 0 rfl (ec 1 rfl (ec 5 rfl (ec 6 rfl en)))) (rg (mv rfl rfl (oP (pad (oT rfl) ot (by omega)) rfl (av rfl rfl (tn (nn ?_))))))))))))))))
         exact tg (j + 1, i + 1, ys.set i (at' xs (j : Int)), u.1) ⟨(by show i + 1 < j + 1; omega), (by show j + 1 ≤ xs.length; omega), (by show (ys.set i _).length = _; rw [List.length_set]; exact hyl), (by show Dels stp s0 (xs.take (j + 1)) u.1 ((ys.set i _).take (i + 1)); rw [set_take (by omega)]; exact hst), (by show (ys.set i _).drop (j + 1) = xs.drop (j + 1); rw [List.drop_set, if_pos (by omega)]; exact drop_more hyd (by omega)), hu.1⟩ (by show xs.length - (j + 1) < xs.length - j; omega) (ea (ec 6 rfl (ec 5 rfl en)) (ec 0 rfl (ec 1 rfl en))) (op (pc 0 rfl (pd pl)))
       · have hst := hu.2
         have hub : u.2 = true := by simpa using c29
         rw [hub] at hst
         have hst := Dels.yes hjl hyt hst
         refine sk (bn (nn (te (ec 0 rfl (ec 1 rfl (ec 5 rfl (ec 6 rfl en)))) (rg (mv rfl rfl (oP (pad (oT rfl) ot (by omega)) rfl (av rfl rfl (tn (nn ?_)))))))))
         exact tg (j + 1, i, ys, u.1) ⟨(by show i < j + 1; omega), (by show j + 1 ≤ xs.length; omega), hyl, hst, (by show ys.drop (j + 1) = xs.drop (j + 1); exact drop_more hyd (by omega)), hu.1⟩ (by show xs.length - (j + 1) < xs.length - j; omega) (ea (ec 6 rfl (ec 5 rfl en)) (ec 0 rfl (ec 1 rfl en))) (op (pd pl))
     · refine tr_exit (tx (tx (bh (nn (sq (te (ec 0 rfl (ec 5 rfl en)) ?_))))))
       obtain rfl : j = xs.length := by simp only [decide_eq_false_iff_not] at c19; omega
       rw [List.take_length] at hyt
       rw [Nat.sub_self] at hv1
       refine rg (mv rfl rfl (mv rfl rfl (oP (pu_cut_own (oT rfl) (by exact mA 0 rfl) (oT rfl) Tryz.underlying273 y92 (by omega) (by omega)) rfl ?_)))
       refine oA (acts_clear_cut (d := kPP) (v0 := (0, 0)) (oT rfl) (by exact pA 0 rfl) Tryz.underlying273 y92 zPr (show 0 < 2 from by decide) (by omega)) (by exact pA 0 rfl) rfl rfl (fun _ _ => ?_)
       refine tn (nn (sq (te (ec 0 rfl (ec 5 rfl en)) (rg (mv rfl rfl (mv rfl rfl (oA (acts_slice_own_hi (oT rfl) (by exact pA 0 rfl) (oT rfl) Tryz.underlying273 y92 (by omega) (by (simp; omega))) (by exact pA 0 rfl) rfl rfl (fun v12_2 _ => ?_))))))))
       refine av rfl rfl (tn (nn (tR ?_)))
       exact ret_one .ret (.inl rfl) rfl (_, ys.take i, s1) (oT rfl) ⟨hyt, hv1, by rw [List.length_take]; omega⟩ (by simp only [Int.toNat_natCast]; rw [cut_take (by omega)]; exact pl)
end Go.Proofs.YtklhdalppmjnaaaGreatDoor
/- Pairs compared; edges as keys; a dred's items opened for a range. -/
namespace Go.Proofs.YtklhdalppmjnaaaGreatDoor
open Go Go.Gw Go.So Go.Tu Go.Jn Go.MapKept
open Go.Dr hiding Pr
set_option linter.unusedVariables false
set_option linter.unusedSimpArgs false
theorem run_equalPr (w : World) (d : Nat) (u v : Pr) : (Op.equalIn (d + 1 + 1) 109 (encP u) (encP v)).run Tryz.prog w = .ok (decide (u = v)) w := by
 have hu : Tryz.prog.underlying 109 = some (.array 2 3) := Tryz.underlying109
 have hk : Tryz.prog.plainKey 3 = true := by decide +kernel
 have h3 : Tryz.prog.underlying 3 = some (.int .i64) := Tryz.underlying3
 have hc : Tryz.prog.cellsOf 3 = 1 := by decide +kernel
 obtain ⟨i, hi⟩ : ∃ i, Tryz.prog.info? 3 = some i := Option.isSome_iff_exists.1 (by decide +kernel)
 rw [run_equalIn_array w (d + 1) _ _ hu hi, hc]
 have p : ∀ (xs : Array Value) (o : Nat) (q : Value), xs[o]? = some q → (part 3 xs o).run Tryz.prog w = .ok q w := fun xs o q h => run_part_plain w hk h
 have e : ∀ (a b : Int), (Op.equalIn (d + 1) 3 (.int .i64 a) (.int .i64 b)).run Tryz.prog w = .ok (a == b) w := fun a b => run_equalIn_int w d 3 .i64 .i64 a b h3
 have p0 : ∀ a b : Int, (part 3 #[.int .i64 a, .int .i64 b] 0).run Tryz.prog w = .ok (.int .i64 a) w := fun a b => p _ 0 _ rfl
 have p1 : ∀ a b : Int, (part 3 #[.int .i64 a, .int .i64 b] 1).run Tryz.prog w = .ok (.int .i64 b) w := fun a b => p _ 1 _ rfl
 obtain ⟨u1, u2⟩ := u
 obtain ⟨v1, v2⟩ := v
 simp only [show List.range 2 = [0, 1] from rfl, Op.eqItems, Sem.run_bind, Nat.mul_one, p0, p1, e, Result.andThen_ok]
 by_cases h1 : u1 = v1
 · by_cases h2 : u2 = v2
   · simp [h1, h2, p1, e]
   · simp [h1, h2, p1, e]
 · simp [h1]
theorem eqPr : EqOk Tryz.prog 109 kPP := fun H w u v a b x y ha hb => by
 rw [aggP ha, aggP hb]
 have hg : Tryz.prog.eqGuardType Tryz.prog.depth 109 = false := by decide +kernel
 refine ⟨run_eqGuard_agg w .eql 109 x y _ _ hg, run_eqGuard_agg w .neq 109 x y _ _ hg, ?_, ?_⟩
 · rw [run_eql_struct w 109, show (Op.equalIn 10000 109 (encP u) (encP v)).run Tryz.prog w = _ from run_equalPr w 9998 u v]; rfl
 · rw [run_neq_struct w 109, show (Op.equalIn 10000 109 (encP u) (encP v)).run Tryz.prog w = _ from run_equalPr w 9998 u v]; rfl
section
variable {C : Cx} {Γ : Env} {L L' R : List It} {φ : Act → World → Prop}
theorem tr_less (h : Picks L L') (ht : Tr C Γ L' φ) : Tr C Γ L φ := by
 obtain ⟨R, hp⟩ := h
 exact tr_perm hp fun a w H f st ow => ht a w H f st (Owns.left ow)
variable {oe os : RO} {e s : RS} {b Bd : It}
theorem tr_openD (u : Int) (h : ∀ st, Tr C Γ (RanN (osS e.f u) encI kbool.T (inS e.f u) st :: b :: Bd :: BlkI oe.g 151 kRel (relV oe e.n) :: MapI oe.gf encI IsV (hdS e.f) :: MapI oe.gt encI IsV (hdS e.t) :: ((innI (dlk u e.f) ++ innI e.t) ++ RelI os s)) φ) : Tr C Γ (b :: Bd :: (RelI oe e ++ RelI os s)) φ := by
 refine tr_pickn (s := e.f) u (R := [b, Bd, BlkI oe.g 151 kRel (relV oe e.n), MapI oe.gf encI IsV (hdS e.f), MapI oe.gt encI IsV (hdS e.t)] ++ (innI e.t ++ RelI os s)) ?_ fun st => ?_
 · refine List.Perm.trans (List.Perm.of_eq ?_) (perm_mid0 [b, Bd, BlkI oe.g 151 kRel (relV oe e.n), MapI oe.gf encI IsV (hdS e.f), MapI oe.gt encI IsV (hdS e.t)] (innI e.f) _)
   simp [RelI]
 · refine tr_perm (List.Perm.cons _ ((perm_mid0 [b, Bd, BlkI oe.g 151 kRel (relV oe e.n), MapI oe.gf encI IsV (hdS e.f), MapI oe.gt encI IsV (hdS e.t)] (innI (dlk u e.f)) _).symm.trans (List.Perm.of_eq ?_))) (h st)
   simp
theorem tr_closeD (u : Int) {st : MS} (hp : L.Perm (RanN (osS e.f u) encI kbool.T (inS e.f u) st :: b :: Bd :: BlkI oe.g 151 kRel (relV oe e.n) :: MapI oe.gf encI IsV (hdS e.f) :: MapI oe.gt encI IsV (hdS e.t) :: ((innI (dlk u e.f) ++ innI e.t) ++ RelI os s))) (h : Tr C Γ (b :: Bd :: (RelI oe e ++ RelI os s)) φ) : Tr C Γ L φ := by
 refine tr_perm hp ?_
 refine tr_backn (s := e.f) u (st := st) (R := [b, Bd, BlkI oe.g 151 kRel (relV oe e.n), MapI oe.gf encI IsV (hdS e.f), MapI oe.gt encI IsV (hdS e.t)] ++ (innI e.t ++ RelI os s)) (List.Perm.cons _ ?_) (tr_perm ?_ h)
 · refine List.Perm.trans (List.Perm.of_eq ?_) (perm_mid0 [b, Bd, BlkI oe.g 151 kRel (relV oe e.n), MapI oe.gf encI IsV (hdS e.f), MapI oe.gt encI IsV (hdS e.t)] (innI (dlk u e.f)) _)
   simp
 · refine (perm_mid0 [b, Bd, BlkI oe.g 151 kRel (relV oe e.n), MapI oe.gf encI IsV (hdS e.f), MapI oe.gt encI IsV (hdS e.t)] (innI e.f) _).symm.trans (List.Perm.of_eq ?_)
   simp [RelI]
end
def dvB (E S : List Pr) (q : Pr) : Bool := decide (q ∈ E) || E.any fun p => decide (p.1 = q.1) && decide ((p.2, q.2) ∈ S)
theorem dvB_iff {E S : List Pr} {q : Pr} : dvB E S q = true ↔ Drv E (fun a b => (a, b) ∈ S) q.1 q.2 := by
 unfold dvB Drv
 simp only [Bool.or_eq_true, decide_eq_true_eq, List.any_eq_true, Bool.and_eq_true]
 constructor
 · rintro (h | ⟨p, hp, h1, h2⟩)
   · exact .inl h
   · exact .inr ⟨p.2, by rw [← h1]; exact hp, h2⟩
 · rintro (h | ⟨c, h1, h2⟩)
   · exact .inl h
   · exact .inr ⟨(q.1, c), h1, rfl, h2⟩
theorem dvB_some {E S : List Pr} {r : RS} (hr : RelOk E r) {q : Pr} {c : Int} (h1 : c ∈ keys (inS r.f q.1)) (h2 : (c, q.2) ∈ S) : dvB E S q = true := by
 rw [← rowS_eq, rel_rowF hr] at h1
 exact dvB_iff.2 (.inr ⟨c, h1, h2⟩)
theorem dvB_none {E S : List Pr} {r : RS} (hr : RelOk E r) {q : Pr} (h0 : q ∉ E) (h : ∀ c ∈ keys (inS r.f q.1), (c, q.2) ∉ S) : dvB E S q = false := by
 cases hb : dvB E S q with
 | false => rfl
 | true =>
  rcases dvB_iff.1 hb with h1 | ⟨c, h1, h2⟩
  · exact absurd h1 h0
  · exact absurd h2 (h c (by rw [← rowS_eq, rel_rowF hr]; exact h1))
theorem lkp_keyD {κ α : Type} [DecidableEq κ] {k : κ} {m : List (κ × α)} (h : k ∈ keys m) : ∃ v, lkp k m = some v := by
 cases hl : lkp k m with
 | none => exact absurd h (lkp_none.1 hl)
 | some v => exact ⟨v, rfl⟩
abbrev tpl (p : Pr) : Tp := [p.1, p.2]
theorem tpl_inj {p q : Pr} (h : tpl p = tpl q) : p = q := by
 have h1 : p.1 = q.1 ∧ p.2 = q.2 := by simpa [tpl] using h
 exact Prod.ext h1.1 h1.2
abbrev tplL (l : List Pr) : List Tp := l.map tpl
theorem tplL_small {l : List Pr} (h : l.length ≤ 100000) : Small (tplL l) := ⟨by rw [List.length_map]; omega, fun t ht => by obtain ⟨p, _, rfl⟩ := List.mem_map.1 ht; show (2 : Nat) ≤ _; omega⟩
end Go.Proofs.YtklhdalppmjnaaaGreatDoor
/- Walks through the Go functions dred.pair], dred.pair], dred.pair], dred.tuples, dred.Dred).derived, as typed contracts. -/
namespace Go.Proofs.YtklhdalppmjnaaaGreatDoor
open Go Go.Gw Go.So Go.Tu Go.Jn
open Go.Dr hiding Pr
set_option linter.unusedVariables false
set_option linter.unusedSimpArgs false
theorem not_stepP {e : Pr} {xs : List Pr} {k : Nat} (h : k < xs.length) (h0 : e ∉ xs.take k) (h1 : ¬ e = at' xs (k : Int)) : e ∉ xs.take (k + 1) := by
 rw [at'_nat h] at h1
 rw [List.take_succ_eq_append_getElem h, List.mem_append, List.mem_singleton]
 rintro (h2 | h2)
 · exact h0 h2
 · exact h1 h2
theorem at_inP {e : Pr} {xs : List Pr} {k : Nat} (h : k < xs.length) (h1 : e = at' xs (k : Int)) : e ∈ xs := by
 rw [h1]; exact at_mem h

set_option maxRecDepth 20000 in
/-- slices.Delete[[]rhizome/dred.pair,rhizome/dred.pair] -/
theorem DeleteR_fn (v : Value) (xs : List Pr) (i : Nat) (hm : xs.length ≤ 1000000) (hi : i < xs.length) : Ct Tryz.prog 202 [IsV v, I64 (i : Int), I64 ((i : Int) + 1)] ([OwnI 109 kPP v xs]) Value (fun u => IsV u) (fun u => [OwnI 109 kPP u (xs.take i ++ xs.drop (i + 1))]) (fun _ => True) := by
 refine fn_intro Tryz.func202 rfl rfl ?_
 intro H w
 refine sq (te (ec 0 rfl (ec 1 rfl (ec 2 rfl en))) (rg (ak rfl (tn (nn (sq (te (ec 0 rfl (ec 1 rfl (ec 2 rfl en))) (rg (mv rfl rfl (mv rfl rfl (mv rfl rfl (mv rfl rfl (oP (pu_len_own (oT rfl) (by exact mA 0 rfl) Tryz.underlying273) rfl ?_)))))))))))))
 refine oP (pu_slice3 (oT rfl) (mem_at 0 rfl) (by omega) (oT rfl) (oT rfl) (oT rfl) Tryz.underlying273 y92 (by omega) (by omega) (by omega) (by omega)) rfl (tn (nn (sq (sq (te (ec 0 rfl (ec 1 rfl (ec 2 rfl en))) (rg (mv rfl rfl (mv rfl rfl (oP (pu_eql (oT rfl) (oT rfl)) rfl (tn (nn (tc (oT rfl) (fun c16 => ?_) (fun c16 => ?_)))))))))))))
 · exfalso
   simp only [decide_eq_true_eq] at c16
   omega --done
 · refine sk (nn (sq (te (ec 0 rfl (ec 1 rfl (ec 2 rfl en))) (rg (mv rfl rfl (oP (pu_len_own (oT rfl) (by exact mA 0 rfl) Tryz.underlying273) rfl ?_))))))
   refine av rfl rfl (tn (nn (sq (te (ec 0 rfl (ec 1 rfl (ec 2 rfl (ec 7 rfl en)))) ?_))))
   apply tr_any (m := 6) (ns := [[(0, none)], [(1, none)], [(20, some 0), (21, some 1)], [(0, none)], [(2, none)], [(23, some 3), (24, some 4)]]) (by kernel_rfl) (by kernel_rfl) (Ts := [_, _, _, _, _, _]) rfl
   case hops =>
    refine ⟨?_, ?_, ?_, ?_, ?_, ?_, trivial⟩
    · exact rmv rfl
    · exact rmv rfl
    · exact rP (pu_head_own (oT rfl) (mem_at 0 rfl) (by omega) (oT rfl) Tryz.underlying273 y92 (by omega) (by omega))
    · exact rmv rfl
    · exact rmv rfl
    · exact rP (pu_tail_own (oT rfl) (mem_at 0 rfl) (by omega) (oT rfl) Tryz.underlying273 y92 (by omega) (by omega))
   case h =>
    refine oA (acts_app_self (i := i) (j := i + 1) (oT rfl) (oT rfl) (perm_at 0 rfl) Tryz.underlying273 y92 (by omega) (by omega) (by omega)) (perm_at 0 rfl) rfl rfl (fun _ _ => ?_)
    refine av rfl rfl (tn (nn (sq (te (ec 0 rfl (ec 7 rfl en)) ?_))))
    obtain ⟨ys, hys⟩ : ∃ ys, xs.take i ++ xs.drop (i + 1) ++ xs.drop (i + (xs.length - (i + 1))) = ys := ⟨_, rfl⟩
    have hm1 : i + (xs.length - (i + 1)) = xs.length - 1 := by omega
    have hyl : ys.length = xs.length := by rw [← hys]; simp only [List.length_append, List.length_take, List.length_drop]; omega
    have hyt : ys.take (xs.length - 1) = xs.take i ++ xs.drop (i + 1) := by
     rw [← hys, List.take_append_of_le_length (by simp only [List.length_append, List.length_take, List.length_drop]; omega), List.take_of_length_le (by simp only [List.length_append, List.length_take, List.length_drop]; omega)]
    rw [hys, hm1]
    refine rg (mv rfl rfl (mv rfl rfl (oP (pu_len_head (oT rfl) (mem_at 0 rfl) (by omega) Tryz.underlying273) rfl (mv rfl rfl (oP (pu_cut_head (oT rfl) (mem_at 0 rfl) (by omega) (oT rfl) (oT rfl) Tryz.underlying273 y92 (by omega) (by omega) (by omega)) rfl (oA (acts_clear_cut (j := xs.length - 1) (oT rfl) (perm_at 0 rfl) Tryz.underlying273 y92 zPr (by decide) (by omega)) (perm_at 0 rfl) rfl rfl (fun _ _ => ?_)))))))
    refine tn (nn (sq (te (ec 0 rfl en) (tr_headV (m := xs.length - 1) pR (by simp only [List.length_append, List.length_take, List.length_replicate]; omega) (by simp only [List.length_append, List.length_take, List.length_replicate]; omega) ?_))))
    refine rg (mv rfl rfl (av rfl rfl (tn (nn (tR ?_)))))
    exact ret_one .ret (.inl rfl) rfl (headV v (xs.length - 1)) (oT rfl) trivial (by rw [cut_take (by omega), hyt]; exact pl)
set_option maxRecDepth 20000 in
/-- slices.Index[[]rhizome/dred.pair,rhizome/dred.pair] -/
theorem IndexP_fn (es : List Pr) (e : Pr) (hm : es.length ≤ 1000000) : Ct Tryz.prog 197 [SlT kPP es, kPP.T e] ([]) Int (fun r => I64 r) (fun _ => []) (fun r => decide (0 ≤ r) = decide (e ∈ es)) := by
 refine fn_intro Tryz.func197 rfl rfl ?_
 intro H w
 refine sq (te (ec 0 rfl (ec 1 rfl en)) (rg (oA (acts_box (d := kPP) (oT rfl)) pR rfl rfl (fun g0_0 _ => ?_))))
 refine ak rfl (tn (nn (sq (sq (te (ec 0 rfl (ec 3 rfl en)) (rg (mv rfl rfl (oP (pls (oT rfl) Tryz.underlying273) rfl (oP (pu_move ot) rfl (tn (nn (tb (tr_loopK (σ := Nat) (ec 0 rfl (ec 3 rfl (ec 7 rfl en))) (fun k => [(8, I64 (k : Int))]) (fun k => [BlkI g0_0 109 kPP e]) (fun k => k ≤ es.length ∧ e ∉ es.take k) (fun k => es.length - k) 0 ⟨Nat.zero_le _, by simp⟩ ?_ (op (by repeat first | exact pn | refine pc 0 rfl ?_)) ?_)))))))))))))
 · exact (ec 8 rfl en)
 · rintro k ⟨hk, hno⟩
   refine sq (te (ec 0 rfl (ec 3 rfl (ec 7 rfl (ec 8 rfl en)))) (rg (oP (pu_lss (oT rfl) (oT rfl)) rfl (tn (nn (sq (tc (oT rfl) (fun c9 => ?_) (fun c9 => ?_))))))))
   · try simp only [cq] at c9
     refine sk (nn (sq (tb (sq (te (ec 0 rfl (ec 3 rfl (ec 7 rfl (ec 8 rfl en)))) ?_)))))
     have hkl : k < es.length := by omega
     refine rg (mv rfl rfl (av rfl rfl (tn (nn (sq (te (ec 0 rfl (ec 3 rfl (ec 5 rfl (ec 7 rfl (ec 8 rfl en))))) ?_))))))
     apply tr_any (m := 5) (ns := [[(3, none)], [(0, none)], [(5, none)], [(12, some 1), (13, some 2)], [(14, some 3)]]) (by kernel_rfl) (by kernel_rfl) (Ts := [_, _, _, _, _]) rfl
     case hops =>
      refine ⟨?_, ?_, ?_, ?_, ?_, trivial⟩
      · exact rP (plv (oT rfl) (by exact mA 0 rfl) y92)
      · exact rmv rfl
      · exact rmv rfl
      · exact rP (pu_index (oT rfl) (oT rfl) Tryz.underlying273 y92 (by omega) (by omega))
      · exact rP (pL (oT rfl) y92)
     case h =>
      refine oP (pu_eq_of eqPr (oT rfl) (oT rfl)) rfl (tn (nn (tc (oT rfl) (fun c16 => ?_) (fun c16 => ?_))))
      · try simp only [cq] at c16
        refine sq (te (ec 5 rfl en) (rg (mv rfl rfl (av rfl rfl (tn (nn (tR (block_ret (tt (tt (block_ret (tt ?_))))))))))))
        exact ret_one .ret (.inl rfl) rfl (k : Int) (oT rfl) (by rw [decide_eq_true (at_inP hkl c16), decide_eq_true (by omega)]) (by exact pn)
      · try simp only [cq] at c16
        have hst := not_stepP hkl hno c16
        refine sk (bn (nn (te (ec 0 rfl (ec 3 rfl (ec 7 rfl (ec 8 rfl en)))) (rg (oP (pad (oT rfl) ot (by omega)) rfl (mv rfl rfl (tn (nn ?_))))))))
        exact tg (k + 1) ⟨by omega, hst⟩ (by omega) (ea (ec 8 rfl en) (ec 0 rfl (ec 3 rfl (ec 7 rfl en)))) (op (by repeat first | exact pn | refine pc 0 rfl ?_))
   · try simp only [cq] at c9
     refine tr_exit (tx (tx (bh (nn (sq (te en ?_))))))
     obtain rfl : k = es.length := by omega
     rw [List.take_length] at hno
     refine rg (ak rfl (tn (nn (tR ?_))))
     exact ret_one .ret (.inl rfl) rfl (-1) (oT rfl) (by rw [decide_eq_false hno]; rfl) (by exact pn)
set_option maxRecDepth 20000 in
/-- slices.Contains[[]rhizome/dred.pair,rhizome/dred.pair] -/
theorem ContainsP_fn (es : List Pr) (e : Pr) (hm : es.length ≤ 1000000) : Ct Tryz.prog 192 [SlT kPP es, kPP.T e] ([]) Unit (fun _ => BoolT (decide (e ∈ es))) (fun _ => []) (fun _ => True) := by
 refine fn_intro Tryz.func192 rfl rfl ?_
 intro H w
 refine sq (te (ec 0 rfl (ec 1 rfl en)) (rg (oA (acts_box (d := kPP) (oT rfl)) pR rfl rfl (fun g0_0 _ => ?_))))
 refine ak rfl (tn (nn (sq (te (ec 0 rfl (ec 3 rfl en)) (rg (mv rfl rfl (oP (plv (oT rfl) (by exact mA 0 rfl) y92) rfl ?_)))))))
 refine oA (aC (IndexP_fn _ _ (by omega)) y109 (oc (oT rfl) (oc (oT rfl) oN)) pR) pR rfl rfl (fun r1_2 hr1_2 => ?_)
 refine oP (pu_geq (oT rfl) ot) rfl (av rfl rfl (tn (nn (tR ?_))))
 exact ret_one .ret (.inl rfl) rfl () (OT.val (oT rfl) (congrArg Value.bool (hr1_2))) trivial (by exact pn)
set_option maxRecDepth 20000 in
/-- rhizome/dred.tuples -/
theorem tuples_fn (l : List Pr) (hl : l.length ≤ 100000) : Ct Tryz.prog 193 [SlT kPP l] ([]) Unit (fun _ => SlT kT (setR (tplL l))) (fun _ => []) (fun _ => True) := by
 refine fn_intro Tryz.func193 rfl rfl ?_
 intro H w
 have hsm := tplL_small hl
 refine sq (te (ec 0 rfl en) (rg (ak rfl (tn (nn (sq (te (ec 0 rfl en) (rg (ak rfl (tn (nn (sq (sq (te (ec 0 rfl (ec 3 rfl en)) (rg (mv rfl rfl (oP (pls (oT rfl) Tryz.underlying273) rfl (oP (pu_move ot) rfl (tn (tr_nilItem 51 kT (nn (tb (tr_loopK (σ := Nat × Value) (ec 6 rfl (ec 7 rfl en)) (fun s => [(8, I64 (s.1 : Int)), (3, IsV s.2)]) (fun s => [OwnI 51 kT s.2 (tplL (l.take s.1))]) (fun s => s.1 ≤ l.length) (fun s => l.length - s.1) (0, nilS) (Nat.zero_le _) ?_ (op (by repeat first | exact pn | refine pc 0 rfl ?_)) ?_)))))))))))))))))))))))
 · exact (ec 8 rfl (ec 3 rfl en))
 · rintro ⟨k, u⟩ hk
   dsimp only at hk ⊢
   refine sq (te (ec 3 rfl (ec 6 rfl (ec 7 rfl (ec 8 rfl en)))) (rg (oP (pu_lss (oT rfl) (oT rfl)) rfl (tn (nn (sq (tc (oT rfl) (fun c9 => ?_) (fun c9 => ?_))))))))
   · refine sk (nn (sq (tb (sq (te (ec 3 rfl (ec 6 rfl (ec 7 rfl (ec 8 rfl en)))) ?_)))))
     have hkl : k < l.length := by simp only [decide_eq_true_eq] at c9; omega
     obtain ⟨p, hp⟩ : ∃ p, at' l (k : Int) = p := ⟨_, rfl⟩
     have hst : tplL (l.take (k + 1)) = tplL (l.take k) ++ [[p.1, p.2]] := by rw [List.take_succ_eq_append_getElem hkl, tplL, List.map_append, ← hp, at'_nat hkl]; rfl
     have htl : (tplL (l.take k)).length = k := by rw [List.length_map, List.length_take]; omega
     refine rg (oP (pu_index (oT rfl) (oT rfl) Tryz.underlying273 y92 (by omega) (by omega)) rfl (oP (pL (oT rfl) y92) rfl (oA (acts_alloc (zPr)) pR rfl rfl (fun g4_2 _ => ?_))))
     refine oA (asv (oT rfl) (oT rfl) (by exact pA 0 rfl) y92) (by exact pA 0 rfl) rfl rfl (fun _ _ => ?_)
     refine tn ?_
     rw [hp]
     refine nn (te (ec 3 rfl (ec 5 rfl (ec 6 rfl (ec 7 rfl (ec 8 rfl en))))) (rg (mv rfl rfl (oP (pu_pair_var0 (oT rfl) (by exact mA 0 rfl) Tryz.underlying109 y2) rfl ?_))))
     refine oP (pu_load_p0 (oT rfl) (by exact mA 0 rfl) y2) rfl ?_
     refine oP (pu_pair_var1 (oT rfl) (by exact mA 0 rfl) Tryz.underlying109 y2) rfl ?_
     refine oP (pu_load_p1 (oT rfl) (by exact mA 0 rfl) y2) rfl ?_
     refine oA (acts_lit (d := kI) (v0 := 0) y33 y2 zI (show 2 * 1 ≤ 16777216 from by decide) (by decide) (fills_arr rfl rfl (by decide) (oT rfl) (fills_arr rfl rfl (by decide) (oT rfl) fills_nil))) pR rfl rfl (fun _ _ => ?_)
     refine oA (acts_lit (d := kT) (v0 := []) y29 y0 zT (show 1 * 1 ≤ 16777216 from by decide) (by decide) (fills_arr rfl rfl (by decide) (oT rfl) fills_nil)) pR rfl rfl (fun _ _ => ?_)
     refine oA (acts_append (oT rfl) (by exact pA 1 rfl) (oT rfl) y29 (by (simp; omega)) (by (simp [maxLen]; omega))) (by exact pA 1 rfl) rfl rfl (fun v5_7 _ => ?_)
     refine av rfl rfl (tn (bn (nn (te (ec 3 rfl (ec 6 rfl (ec 7 rfl (ec 8 rfl en)))) (rg (oP (pad (oT rfl) ot (by omega)) rfl (mv rfl rfl (tn (nn ?_)))))))))
     exact tg (k + 1, v5_7) (by show k + 1 ≤ l.length; omega) (by show l.length - (k + 1) < l.length - k; omega) (ea (ec 8 rfl (ec 3 rfl en)) (ec 6 rfl (ec 7 rfl en))) (op (by rw [hst]; exact (by repeat first | exact pn | refine pc 0 rfl ?_)))
   · refine tr_exit (tx (tx (bh (nn (sq (te (ec 3 rfl en) ?_))))))
     obtain rfl : k = l.length := by simp only [decide_eq_false_iff_not] at c9; omega
     rw [List.take_length]
     refine tr_freeze (perm_at 0 rfl) 3 (oT rfl) (rg (mv rfl rfl (oA (acts_callM (Set_fn (K0 := noK) (n0 := 0) _ hsm) mk_none y77 (oc (oT rfl) oN) pR) pR rfl rfl (fun _ _ => ?_))))
     refine av rfl rfl (tn (nn (tR ?_)))
     exact ret_one .ret (.inl rfl) rfl () (OT.unfr2 (oT rfl)) trivial (by exact pn)
set_option maxRecDepth 20000 in
/-- (*rhizome/dred.Dred).derived -/
theorem derived_fn (d : DO) (n : Int) (re rs : RS) (E S : List Pr) (q : Pr) (he : RelOk E re) (hs : RelOk S rs) : Ct Tryz.prog 201 [IsV (pt d.g 0), kPP.T q] (DrI d n re rs) Unit (fun _ => BoolT (dvB E S q)) (fun _ => DrI d n re rs) (fun _ => True) := by
 refine fn_intro Tryz.func201 rfl rfl ?_
 intro H w
 have hq := he.f q.1 q.2
 refine tr_perm (List.Perm.refl (BlkI d.g 106 kDr (dV d n) :: (RelI d.e re ++ RelI d.s rs))) (sq (te (ec 0 rfl (ec 1 rfl en)) (rg (oA (acts_box (d := kPP) (oT rfl)) pR rfl rfl (fun g0_0 _ => ?_)))))
 refine ak rfl (tn (nn (sq (sq (te (ec 0 rfl (ec 3 rfl en)) ?_)))))
 apply tr_any (m := 5) (ns := [[(0, none)], [(6, some 0)], [(7, some 1)], [(8, some 2)], [(3, none)]]) (by kernel_rfl) (by kernel_rfl) (Ts := [_, _, _, _, _]) rfl
 case hops =>
  refine ⟨?_, ?_, ?_, ?_, ?_, trivial⟩
  · exact rmv rfl
  · exact rP (pu_nilCheck (oT rfl))
  · exact rP (pf (oT rfl) y110)
  · exact rP (pu_load_rawf (oT rfl) (by exact mA 1 rfl) ld1 y105)
  · exact rP (plv (oT rfl) (by exact mA 0 rfl) y92)
 case h =>
  refine op_midl [_, _] (RelI d.s rs) rfl (aC (dHas_fn d.e re q) y93 (oc (oT rfl) (oc (oT rfl) oN)) (perm_mid0 [_, _] (RelI d.e re) (RelI d.s rs))) rfl rfl fun _ _ => (tn (nn (tc (oT rfl) (fun c11 => ?_) (fun c11 => ?_))))
  · have hqe : q ∈ E := by rw [c11] at hq; exact of_decide_eq_true hq.symm
    have hres : dvB E S q = true := by unfold dvB; rw [decide_eq_true hqe]; rfl
    exact sq (te en (rg (ak rfl (tn (nn (tR (tt (ret_one .ret (.inl rfl) rfl () (OT.val (oT rfl) (congrArg Value.bool hres.symm)) trivial (pd pl)))))))))
  · have hqe : q ∉ E := by rw [c11] at hq; exact of_decide_eq_false hq.symm
    refine tr_openD q.1 fun st => (sk (nn (sq (sq (te (ec 0 rfl (ec 3 rfl en)) ?_)))))
    apply tr_any (m := 9) (ns := [[(0, none)], [(12, some 0)], [(13, some 1)], [(14, some 2)], [(15, some 3)], [(16, some 4)], [(17, some 5)], [(3, none)], [(19, some 7)]]) (by kernel_rfl) (by kernel_rfl) (Ts := [_, _, _, _, _, _, _, _, _]) rfl
    case hops =>
     refine ⟨?_, ?_, ?_, ?_, ?_, ?_, ?_, ?_, ?_, trivial⟩
     · exact rmv rfl
     · exact rP (pu_nilCheck (oT rfl))
     · exact rP (pf (oT rfl) y110)
     · exact rP (pu_load_rawf (oT rfl) (by exact mA 2 rfl) ld1 y105)
     · exact rP (pu_nilCheck (oT rfl))
     · exact rP (pf (oT rfl) y90)
     · exact rP (pu_load_rawf (oT rfl) (by exact mA 3 rfl) lre0 y91)
     · exact rP (pu_pair_var0 (oT rfl) (by exact mA 1 rfl) Tryz.underlying109 y2)
     · exact rP (pu_load_p0 (oT rfl) (by exact mA 1 rfl) y2)
    case h =>
     refine oP (pu_lookup_raw mkI Tryz.underlying149 (z0 := (.map none)) (by kernel_rfl) (oT rfl) (by exact mA 4 rfl) (oT rfl)) rfl ?_
     refine oA (acts_range_mapn Tryz.underlying154 (OT.eq (oT rfl) (congrArg IsV (look_hd _ _))) (mem_at 0 rfl)) pR rfl rfl (fun r3_10 hr3_10 => ?_)
     refine tn (nn (tb (tr_loopK (σ := IS × List Int × Option Int) (ec 0 rfl (ec 3 rfl (ec 22 rfl en))) (fun s => []) (fun s => RanQ r3_10.1 (osS re.f q.1) s.1 :: RanN (osS re.f q.1) encI kbool.T (inS re.f q.1) st :: BlkI g0_0 109 kPP q :: BlkI d.g 106 kDr (dV d n) :: BlkI d.e.g 151 kRel (relV d.e re.n) :: MapI d.e.gf encI IsV (hdS re.f) :: MapI d.e.gt encI IsV (hdS re.t) :: ((innI (dlk q.1 re.f) ++ innI re.t) ++ RelI d.s rs)) (fun s => RanOk (inS re.f q.1) st s.1 s.2.1 s.2.2 ∧ ∀ c ∈ keys (inS re.f q.1), c ∉ s.2.1 → (c, q.2) ∉ S) (fun s => s.2.1.length) (r3_10.2, keys (inS re.f q.1), none) ⟨hr3_10, fun c h1 h2 => absurd h1 h2⟩ ?_ (op pl) ?_)))
     · exact en
     · rintro ⟨i, todo, cur⟩ ⟨hok, hin⟩
       dsimp only at hok hin ⊢
       refine sq (te (ec 0 rfl (ec 3 rfl (ec 22 rfl en))) (rg (oA (acts_next_mapn (oT rfl) (mem_at 1 rfl) (perm_at 0 rfl) hok) (perm_at 0 rfl) rfl rfl (fun q4_0 hq4_0 => ?_))))
       refine oP (pu_nextm (oT rfl)) rfl (tn (nn (sq (tc (oT rfl) (fun c24 => ?_) (fun c24 => ?_)))))
       · obtain ⟨i2, o2⟩ := q4_0
         obtain ⟨key, rfl⟩ : ∃ k, o2 = some k := by
          cases o2 with
          | none => exact Bool.noConfusion c24
          | some k => exact ⟨k, rfl⟩
         dsimp only at hq4_0 c24 ⊢
         obtain ⟨hkt, hok2⟩ := hq4_0
         obtain ⟨bv, hbv⟩ := lkp_keyD (hok.sub _ hkt)
         refine sk (nn (tb (sq (te (ec 0 rfl (ec 3 rfl (ec 22 rfl en))) (rg (oP (pu_entry_mapn (D := IsV _) (oT rfl) (mem_at 0 rfl) (mem_at 1 rfl) hok2 hbv (fun H => rfl)) rfl (oP (pu_extract (oT rfl) rfl) rfl (av rfl rfl (tn (nn (sq (te (ec 0 rfl (ec 3 rfl (ec 5 rfl (ec 22 rfl en)))) ?_))))))))))))
         apply tr_any (m := 8) (ns := [[(0, none)], [(27, some 0)], [(28, some 1)], [(29, some 2)], [(5, none)], [(3, none)], [(32, some 5)], [(31, some 4), (33, some 6)]]) (by kernel_rfl) (by kernel_rfl) (Ts := [_, _, _, _, _, _, _, _]) rfl
         case hops =>
          refine ⟨?_, ?_, ?_, ?_, ?_, ?_, ?_, ?_, trivial⟩
          · exact rmv rfl
          · exact rP (pu_nilCheck (oT rfl))
          · exact rP (pf (oT rfl) y104)
          · exact rP (pu_load_rawf (oT rfl) (by exact mA 3 rfl) ld2 y105)
          · exact rmv rfl
          · exact rP (pu_pair_var1 (oT rfl) (by exact mA 2 rfl) Tryz.underlying109 y2)
          · exact rP (pu_load_p1 (oT rfl) (by exact mA 2 rfl) y2)
          · exact rP (pu_build_arr (d := kPP) (v0 := (0, 0)) (agg := false) Tryz.underlying109 y2 zPr rfl (fills_cons rfl Lens.p0 (oT rfl) (fills_cons rfl Lens.p1 (oT rfl) fills_nil)))
         case h =>
          refine op_tl2 [_, _, _, _, _, _, _] (innI (dlk q.1 re.f) ++ innI re.t) rfl (aC (dHas_fn d.s rs (key, q.2)) y93 (oc (oT rfl) (oc (oT rfl) oN)) (perm_tl2 (X := [_, _, _, _, _, _, _]) (Y := (innI (dlk q.1 re.f) ++ innI re.t)))) rfl rfl fun _ _ => (tn (nn (tc (oT rfl) (fun c35 => ?_) (fun c35 => ?_))))
          · have hres : dvB E S q = true := by
             rw [hs.f] at c35
             exact dvB_some he (hok.sub _ hkt) (of_decide_eq_true c35)
            exact sq (te en (tr_less (pd pl) (tr_closeD q.1 pR (rg (ak rfl (tn (nn (tR (block_ret (tt (block_ret (tt (ret_one .ret (.inl rfl) rfl () (OT.val (oT rfl) (congrArg Value.bool hres.symm)) trivial (pd pl))))))))))))))
          · have hnS : (key, q.2) ∉ S := by
             rw [hs.f] at c35
             exact of_decide_eq_false c35
            have hle : (todo.erase key).length < todo.length := by
             have h1 := List.length_erase_of_mem hkt
             have h2 := List.length_pos_of_mem hkt
             omega
            refine sk (bn (nn ?_))
            exact tg (i2, todo.erase key, some key) ⟨hok2, fun c h1 h2 => by
                        by_cases hck : c = key
                        · subst hck; exact hnS
                        · exact hin c h1 fun h3 => h2 ((List.mem_erase_of_ne hck).2 h3)⟩ hle (ea en (ec 0 rfl (ec 3 rfl (ec 22 rfl en)))) (op pl)
       · obtain ⟨i2, o2⟩ := q4_0
         obtain rfl : o2 = none := by
          cases o2 with
          | none => rfl
          | some k => exact Bool.noConfusion c24
         dsimp only at hq4_0 ⊢
         obtain ⟨rfl, hok2⟩ := hq4_0
         have hres : dvB E S q = false := dvB_none he hqe fun c hc => hin c hc (by simp)
         exact tr_less (pd pl) (tr_closeD q.1 pR (tr_exit (tx (tx (bh (nn (sq (te en (rg (ak rfl (tn (nn (tR (ret_one .ret (.inl rfl) rfl () (OT.val (oT rfl) (congrArg Value.bool hres.symm)) trivial (pd pl)))))))))))))))
section
variable {C : Cx} {Γ : Env} {L : List It} {φ : Act → World → Prop} {s : Sd}
theorem tr_picknX (X R : List It) (u : Int) (hL : L = X ++ (innI s ++ R)) (h : ∀ st, Tr C Γ (RanN (osS s u) encI kbool.T (inS s u) st :: (X ++ (innI (dlk u s) ++ R))) φ) : Tr C Γ L φ := by
 subst hL
 exact tr_pickn (s := s) u (R := X ++ R) (perm_mid0 _ _ _) fun st => tr_perm (List.Perm.cons _ (perm_mid0 _ _ _).symm) (h st)
theorem tr_backnX (X R : List It) (u : Int) {st : MS} (hL : L = RanN (osS s u) encI kbool.T (inS s u) st :: (X ++ (innI (dlk u s) ++ R))) (h : Tr C Γ (X ++ (innI s ++ R)) φ) : Tr C Γ L φ := by
 subst hL
 exact tr_backn (s := s) u (R := X ++ R) (List.Perm.cons _ (perm_mid0 _ _ _)) (tr_perm (perm_mid0 _ _ _).symm h)
end
abbrev RdI (d : DO) (n : Int) (re rs : RS) : List It := BlkI d.g 106 kDr (dV d n) :: BlkI d.s.g 151 kRel (relV d.s rs.n) :: MapI d.s.gf encI IsV (hdS rs.f) :: MapI d.s.gt encI IsV (hdS rs.t) :: (innI rs.f ++ (innI rs.t ++ RelI d.e re))
theorem dr_read (d : DO) (n : Int) (re rs : RS) : (DrI d n re rs).Perm (RdI d n re rs) := by
 refine List.Perm.cons _ ((List.perm_append_comm).trans (List.Perm.of_eq ?_))
 simp [RelI]
theorem rd_start {S : List Pr} {r : RS} (hr : RelOk S r) (t : Tp) : t ∈ ([] : List Tp) ↔ ∃ a b : Int, t = [a, b] ∧ a ∉ keys (hdS r.f) ∧ (a, b) ∈ S := by
 refine ⟨fun h => (by cases h), ?_⟩
 rintro ⟨a, b, _, h1, h2⟩
 refine absurd ?_ h1
 have h3 := (rel_rowF hr).2 h2
 cases hl : lkp a r.f with
 | none => rw [rowS_eq] at h3; unfold inS at h3; rw [hl] at h3; cases h3
 | some x =>
  have : keys (hdS r.f) = keys r.f := keys_map (fun x : Inn => mp x.1)
  rw [this]
  exact Classical.byContradiction fun h => by rw [lkp_none.2 h] at hl; cases hl
theorem rd_len {S : List Pr} {M : List Tp} {p : Int → Prop} (hn : M.Nodup) (h : ∀ t, t ∈ M → ∃ a b : Int, t = [a, b] ∧ (a, b) ∈ S) : M.length ≤ S.length := by
 have := len_sub (m := tplL S) hn fun t ht => by obtain ⟨a, b, rfl, h1⟩ := h t ht; exact List.mem_map.2 ⟨(a, b), h1, rfl⟩
 rwa [List.length_map] at this
theorem rd_in {S : List Pr} {r : RS} (hr : RelOk S r) {todo : List Int} {M M1 : List Tp} {key : Int} {todo1 : List Int} (hM : ∀ t, t ∈ M ↔ ∃ a b : Int, t = [a, b] ∧ a ∉ todo ∧ (a, b) ∈ S) (h1 : ∀ t, t ∈ M1 ↔ t ∈ M ∨ ∃ b, t = [key, b] ∧ b ∈ keys (inS r.f key) ∧ b ∉ todo1) : ∀ t, t ∈ M1 → ∃ a b : Int, t = [a, b] ∧ (a, b) ∈ S := fun t ht => by
 rcases (h1 t).1 ht with h | ⟨b, h2, h3, _⟩
 · obtain ⟨a, b, h2, _, h3⟩ := (hM t).1 h; exact ⟨a, b, h2, h3⟩
 · exact ⟨key, b, h2, (rel_rowF hr).1 (by rw [rowS_eq]; exact h3)⟩
theorem rd_new {S : List Pr} {todo : List Int} {M M1 : List Tp} {key b : Int} {ks todo1 : List Int} (hk : key ∈ todo) (hb : b ∈ todo1) (hM : ∀ t, t ∈ M ↔ ∃ a b : Int, t = [a, b] ∧ a ∉ todo ∧ (a, b) ∈ S) (h1 : ∀ t, t ∈ M1 ↔ t ∈ M ∨ ∃ b, t = [key, b] ∧ b ∈ ks ∧ b ∉ todo1) : [key, b] ∉ M1 := fun h => by
 rcases (h1 _).1 h with h | ⟨b2, h2, _, h3⟩
 · obtain ⟨a, b2, h2, h3, _⟩ := (hM _).1 h
   have : a = key := by have := List.cons.inj h2; exact this.1.symm
   exact h3 (this ▸ hk)
 · have : b2 = b := by have := (List.cons.inj (List.cons.inj h2).2).1; exact this.symm
   exact h3 (this ▸ hb)
theorem rd_step1 {M M1 : List Tp} {key b : Int} {ks todo1 : List Int} (hn : todo1.Nodup) (hb : b ∈ todo1) (hbk : b ∈ ks) (h1 : ∀ t, t ∈ M1 ↔ t ∈ M ∨ ∃ b, t = [key, b] ∧ b ∈ ks ∧ b ∉ todo1) (t : Tp) : t ∈ M1 ++ [[key, b]] ↔ t ∈ M ∨ ∃ b', t = [key, b'] ∧ b' ∈ ks ∧ b' ∉ todo1.erase b := by
 rw [List.mem_append, List.mem_singleton, h1]
 constructor
 · rintro ((h | ⟨b2, h2, h3, h4⟩) | h)
   · exact .inl h
   · exact .inr ⟨b2, h2, h3, fun h => h4 (List.mem_of_mem_erase h)⟩
   · exact .inr ⟨b, h, hbk, fun h => (hn.mem_erase_iff.1 h).1 rfl⟩
 · rintro (h | ⟨b2, h2, h3, h4⟩)
   · exact .inl (.inl h)
   · by_cases e : b2 = b
     · subst e; exact .inr h2
     · exact .inl (.inr ⟨b2, h2, h3, fun h => h4 (hn.mem_erase_iff.2 ⟨e, h⟩)⟩)
theorem rd_step {S : List Pr} {r : RS} (hr : RelOk S r) {todo : List Int} {M M1 : List Tp} {key : Int} (hn : todo.Nodup) (hk : key ∈ todo) (hM : ∀ t, t ∈ M ↔ ∃ a b : Int, t = [a, b] ∧ a ∉ todo ∧ (a, b) ∈ S) (h1 : ∀ t, t ∈ M1 ↔ t ∈ M ∨ ∃ b, t = [key, b] ∧ b ∈ keys (inS r.f key) ∧ b ∉ ([] : List Int)) (t : Tp) : t ∈ M1 ↔ ∃ a b : Int, t = [a, b] ∧ a ∉ todo.erase key ∧ (a, b) ∈ S := by
 rw [h1, hM]
 constructor
 · rintro (⟨a, b, h2, h3, h4⟩ | ⟨b, h2, h3, _⟩)
   · exact ⟨a, b, h2, fun h => h3 (List.mem_of_mem_erase h), h4⟩
   · exact ⟨key, b, h2, fun h => (hn.mem_erase_iff.1 h).1 rfl, (rel_rowF hr).1 (by rw [rowS_eq]; exact h3)⟩
 · rintro ⟨a, b, h2, h3, h4⟩
   by_cases e : a = key
   · subst e
     have := (rel_rowF hr).2 h4
     rw [rowS_eq] at this
     exact .inr ⟨b, h2, this, by simp⟩
   · exact .inl ⟨a, b, h2, fun h => h3 (hn.mem_erase_iff.2 ⟨e, h⟩), h4⟩
theorem rd_done {S : List Pr} {M : List Tp} (hM : ∀ t, t ∈ M ↔ ∃ a b : Int, t = [a, b] ∧ a ∉ ([] : List Int) ∧ (a, b) ∈ S) : setR M = setR (tplL S) := by
 refine rises_unique (setR_spec M).1 (setR_spec (tplL S)).1 fun x => ?_
 rw [(setR_spec M).2, (setR_spec (tplL S)).2, hM, List.mem_map]
 constructor
 · rintro ⟨a, b, rfl, _, h⟩; exact ⟨(a, b), h, rfl⟩
 · rintro ⟨p, h, rfl⟩; exact ⟨p.1, p.2, rfl, by simp, h⟩
theorem rd_small {S : List Pr} {M : List Tp} (hn : M.Nodup) (hl : S.length ≤ 100000) (h : ∀ t, t ∈ M → ∃ a b : Int, t = [a, b] ∧ (a, b) ∈ S) : Small M := ⟨by have := rd_len (p := fun _ => True) hn h; omega, fun t ht => by obtain ⟨a, b, rfl, _⟩ := h t ht; show (2 : Nat) ≤ _; omega⟩

set_option maxRecDepth 20000 in
/-- (*rhizome/dred.Dred).Read -/
theorem DRead_fn (d : DO) (n : Int) (re rs : RS) (S : List Pr) (hs : RelOk S rs) (hl : S.length ≤ 100000) : Ct Tryz.prog 191 [IsV (pt d.g 0)] (DrI d n re rs) Unit (fun _ => SlT kT (setR (tplL S))) (fun _ => DrI d n re rs) (fun _ => True) := by
 refine fn_intro Tryz.func191 rfl rfl ?_
 intro H w
 refine tr_perm (dr_read d n re rs) (sq (te (ec 0 rfl en) (rg (ak rfl (tn (nn (sq (te (ec 0 rfl en) (rg (ak rfl (tn (nn (sq (sq (te (ec 0 rfl (ec 3 rfl en)) (tr_mapx (perm_at 2 rfl) fun s0 => (rg (mv rfl rfl (oP (pu_nilCheck (oT rfl)) rfl (oP (pf (oT rfl) y104) rfl (oP (pu_load_rawf (oT rfl) (by exact mA 1 rfl) ld2 y105) rfl ?_)))))))))))))))))))))
 refine oP (pu_nilCheck (oT rfl)) rfl (oP (pf (oT rfl) y90) rfl (oP (pu_load_rawf (oT rfl) (by exact mA 2 rfl) lre0 y91) rfl ?_))
 refine oA (acts_range_map Tryz.underlying149 (oT rfl) (by exact mA 0 rfl)) pR rfl rfl (fun r2_7 hr2_7 => ?_)
 refine tn (tr_nilItem 51 kT (nn (tb (tr_loopK (σ := IS × List Int × Option Int × Value × List Tp) (ec 14 rfl en) (fun s => [(3, IsV s.2.2.2.1)]) (fun s => RanR r2_7.1 d.s.gf s.1 :: RanM d.s.gf encI IsV (hdS rs.f) s0 :: BlkI d.g 106 kDr (dV d n) :: BlkI d.s.g 151 kRel (relV d.s rs.n) :: MapI d.s.gt encI IsV (hdS rs.t) :: OwnI 51 kT s.2.2.2.1 s.2.2.2.2 :: (innI rs.f ++ (innI rs.t ++ RelI d.e re))) (fun s => RanOk (hdS rs.f) s0 s.1 s.2.1 s.2.2.1 ∧ s.2.2.2.2.Nodup ∧ ∀ t, t ∈ s.2.2.2.2 ↔ ∃ a b : Int, t = [a, b] ∧ a ∉ s.2.1 ∧ (a, b) ∈ S) (fun s => s.2.1.length) (r2_7.2, keys (hdS rs.f), none, nilS, []) ⟨hr2_7, List.nodup_nil, rd_start hs⟩ ?_ (op (pc 1 rfl (pc 1 rfl (pc 1 rfl (pc 1 rfl (pc 1 rfl (pc 0 rfl pl))))))) ?_))))
 · exact (ec 3 rfl en)
 · rintro ⟨i, todo, cur, u, M⟩ ⟨hok, hnd, hM⟩
   dsimp only at hok hnd hM ⊢
   refine sq (te (ec 3 rfl (ec 14 rfl en)) (rg (oA (acts_next_map (oT rfl) (mem_at 1 rfl) (perm_at 0 rfl) hok) (perm_at 0 rfl) rfl rfl (fun q3_0 hq3_0 => ?_))))
   refine oP (pu_nextm (oT rfl)) rfl (tn (nn (sq (tc (oT rfl) (fun c16 => ?_) (fun c16 => ?_)))))
   · obtain ⟨i2, o2⟩ := q3_0
     obtain ⟨key, rfl⟩ : ∃ k, o2 = some k := by
      cases o2 with
      | none => exact Bool.noConfusion c16
      | some k => exact ⟨k, rfl⟩
     dsimp only at hq3_0 c16 ⊢
     obtain ⟨hkt, hok2⟩ := hq3_0
     obtain ⟨x, hx⟩ : ∃ x, lkp key rs.f = some x := by
      have h1 := hok.sub _ hkt
      rw [show keys (hdS rs.f) = keys rs.f from keys_map (fun x : Inn => mp x.1)] at h1
      exact lkp_keyD h1
     have hbv : lkp key (hdS rs.f) = some (mp x.1) := by rw [hdS_lkp, hx]; rfl
     have hmp : mp x.1 = .map (osS rs.f key) := by unfold osS; rw [hx]; rfl
     have hle : (todo.erase key).length < todo.length := by
      have h1 := List.length_erase_of_mem hkt
      have h2 := List.length_pos_of_mem hkt
      omega
     refine sk (nn (tb (sq (te (ec 3 rfl (ec 14 rfl en)) (rg (oP (pu_entry_map (D := IsV _) (oT rfl) (mem_at 0 rfl) (mem_at 1 rfl) hok2 hbv (fun H => rfl)) rfl (oP (pu_extract (oT rfl) rfl) rfl (oP (pu_extract (oT rfl) rfl) rfl (av rfl rfl (av rfl rfl (tn (nn (sq (te (ec 3 rfl (ec 4 rfl (ec 5 rfl (ec 14 rfl en)))) (tr_picknX (s := rs.f) [_, _, _, _, _, _] (innI rs.t ++ RelI d.e re) key rfl fun st => (rg (mv rfl rfl (oA (acts_range_mapn Tryz.underlying154 (OT.eq (oT rfl) (congrArg IsV hmp)) (mem_at 0 rfl)) pR rfl rfl (fun r5_1 hr5_1 => ?_)))))))))))))))))))
     refine tn (nn (tb (tr_loopK (σ := IS × List Int × Option Int × Value × List Tp) (ec 4 rfl (ec 14 rfl (ec 21 rfl en))) (fun s => [(3, IsV s.2.2.2.1)]) (fun s => RanQ r5_1.1 (osS rs.f key) s.1 :: RanN (osS rs.f key) encI kbool.T (inS rs.f key) st :: RanR r2_7.1 d.s.gf i2 :: RanM d.s.gf encI IsV (hdS rs.f) s0 :: BlkI d.g 106 kDr (dV d n) :: BlkI d.s.g 151 kRel (relV d.s rs.n) :: MapI d.s.gt encI IsV (hdS rs.t) :: OwnI 51 kT s.2.2.2.1 s.2.2.2.2 :: (innI (dlk key rs.f) ++ (innI rs.t ++ RelI d.e re))) (fun s => RanOk (inS rs.f key) st s.1 s.2.1 s.2.2.1 ∧ s.2.2.2.2.Nodup ∧ ∀ t, t ∈ s.2.2.2.2 ↔ t ∈ M ∨ ∃ b, t = [key, b] ∧ b ∈ keys (inS rs.f key) ∧ b ∉ s.2.1) (fun s => s.2.1.length) (r5_1.2, keys (inS rs.f key), none, u, M) ⟨hr5_1, hnd, fun t => ⟨.inl, fun h => h.elim id fun ⟨b, _, h1, h2⟩ => absurd h1 h2⟩⟩ ?_ (op pl) ?_)))
     · exact (ec 3 rfl en)
     · rintro ⟨i3, todo1, cur1, u1, M1⟩ ⟨hok3, hn1, hM1⟩
       dsimp only at hok3 hn1 hM1 ⊢
       refine sq (te (ec 3 rfl (ec 4 rfl (ec 14 rfl (ec 21 rfl en)))) (rg (oA (acts_next_mapn (oT rfl) (mem_at 1 rfl) (perm_at 0 rfl) hok3) (perm_at 0 rfl) rfl rfl (fun q6_0 hq6_0 => ?_))))
       refine oP (pu_nextm (oT rfl)) rfl (tn (nn (sq (tc (oT rfl) (fun c23 => ?_) (fun c23 => ?_)))))
       · obtain ⟨i4, o2⟩ := q6_0
         obtain ⟨kb, rfl⟩ : ∃ k, o2 = some k := by
          cases o2 with
          | none => exact Bool.noConfusion c23
          | some k => exact ⟨k, rfl⟩
         dsimp only at hq6_0 c23 ⊢
         obtain ⟨hkt1, hok4⟩ := hq6_0
         have hbk := hok3.sub _ hkt1
         obtain ⟨bv, hbv1⟩ := lkp_keyD hbk
         have hle1 : (todo1.erase kb).length < todo1.length := by
          have h1 := List.length_erase_of_mem hkt1
          have h2 := List.length_pos_of_mem hkt1
          omega
         have hlen := rd_len (p := fun _ => True) hn1 (rd_in hs hM hM1)
         have hnew := rd_new hkt hkt1 hM hM1
         refine sk (nn (tb (sq (te (ec 3 rfl (ec 4 rfl (ec 14 rfl (ec 21 rfl en)))) (rg (oP (pu_entry_mapn (D := IsV _) (oT rfl) (mem_at 0 rfl) (mem_at 1 rfl) hok4 hbv1 (fun H => rfl)) rfl (oP (pu_extract (oT rfl) rfl) rfl (av rfl rfl (tn (nn (te (ec 3 rfl (ec 4 rfl (ec 6 rfl (ec 14 rfl (ec 21 rfl en))))) (rg (mv rfl rfl (mv rfl rfl (mv rfl rfl (oA (acts_lit (d := kI) (v0 := 0) y33 y2 zI (show 2 * 1 ≤ 16777216 from by decide) (by decide) (fills_arr rfl rfl (by decide) (oT rfl) (fills_arr rfl rfl (by decide) (oT rfl) fills_nil))) pR rfl rfl (fun _ _ => ?_)))))))))))))))))
         refine oA (acts_lit (d := kT) (v0 := []) y29 y0 zT (show 1 * 1 ≤ 16777216 from by decide) (by decide) (fills_arr rfl rfl (by decide) (oT rfl) fills_nil)) pR rfl rfl (fun _ _ => ?_)
         refine oA (acts_append (oT rfl) (by exact pA 7 rfl) (oT rfl) y29 (by (simp; omega)) (by (simp [maxLen]; omega))) (by exact pA 7 rfl) rfl rfl (fun v8_5 _ => ?_)
         refine av rfl rfl (tn (bn (nn ?_)))
         exact tg (i4, todo1.erase kb, some kb, v8_5, M1 ++ [[key, kb]]) ⟨hok4, List.nodup_append.2 ⟨hn1, by simp, fun a ha b hb e => hnew (by rw [← (by simpa using hb : b = [key, kb]), ← e]; exact ha)⟩, rd_step1 hok3.nd hkt1 hbk hM1⟩ hle1 (ea (ec 3 rfl en) (ec 4 rfl (ec 14 rfl (ec 21 rfl en)))) (op (pc 1 rfl (pc 1 rfl (pc 1 rfl (pc 1 rfl (pc 1 rfl (pc 1 rfl (pc 1 rfl (pc 0 rfl pl)))))))))
       · obtain ⟨i4, o2⟩ := q6_0
         obtain rfl : o2 = none := by
          cases o2 with
          | none => rfl
          | some k => exact Bool.noConfusion c23
         dsimp only at hq6_0 ⊢
         obtain ⟨rfl, hok4⟩ := hq6_0
         exact tr_less (pd pl) (tr_backnX (s := rs.f) [_, _, _, _, _, _] (innI rs.t ++ RelI d.e re) key rfl (tr_exit (tx (tx (bh (bn (nn (tg (i2, todo.erase key, some key, u1, M1) ⟨hok2, hn1, rd_step hs hok.nd hkt hM hM1⟩ hle (ea (ec 3 rfl en) (ec 14 rfl en)) (op pl)))))))))
   · obtain ⟨i2, o2⟩ := q3_0
     obtain rfl : o2 = none := by
      cases o2 with
      | none => rfl
      | some k => exact Bool.noConfusion c16
     dsimp only at hq3_0 ⊢
     obtain ⟨rfl, hok2⟩ := hq3_0
     have hsm := rd_small hnd hl fun t ht => by obtain ⟨a, b, h1, _, h2⟩ := (hM t).1 ht; exact ⟨a, b, h1, h2⟩
     refine tr_mapc (perm_at 1 rfl) (tr_freeze (perm_at 5 rfl) 3 (oT rfl) (tr_exit (tx (tx (bh (nn (sq (te (ec 3 rfl en) (rg (mv rfl rfl (oA (acts_callM (Set_fn (K0 := noK) (n0 := 0) _ hsm) mk_none y77 (oc (oT rfl) oN) pR) pR rfl rfl (fun _ _ => ?_))))))))))))
     exact av rfl rfl (tn (nn (tR (ret_one .ret (.inl rfl) rfl () (OT.eq (OT.unfr2 (oT rfl)) (congrArg (SlT kT) (rd_done hM))) trivial (picks_trans (pc 2 rfl (pc 2 rfl (pc 0 rfl (pc 1 rfl (pd pl))))) (picks_perm (dr_read d n re rs).symm))))))
end Go.Proofs.YtklhdalppmjnaaaGreatDoor
/- What insert and remove of a dred do to lists of pairs. Plain; and closures as tests with a state. -/
namespace Go.Proofs.YtklhdalppmjnaaaGreatDoor
open Go Go.Gw Go.So Go.Tu Go.Jn Go.MapKept
open Go.Dr hiding Pr
set_option linter.unusedVariables false
set_option linter.unusedSimpArgs false
theorem Ct.via {P : Program} {f : FuncId} {As : List Ty} {J : List It} {ρ ρ' : Type} {T : ρ → Ty} {I : ρ → List It} {φ : ρ → Prop} {T' : ρ' → Ty} {I' : ρ' → List It} {φ' : ρ' → Prop} (g : ρ → ρ') (h : Ct P f As J ρ T I φ) (hT : ∀ r, φ r → ∀ H v, (T r).p H v → (T' (g r)).p H v) (hI : ∀ r, φ r → I' (g r) = I r) (hφ : ∀ r, φ r → φ' (g r)) : Ct P f As J ρ' T' I' φ' := by
 intro H w args hon hA hO
 refine (h H w args hon hA hO).mono ?_
 rintro e w' ⟨r, v, H', rfl, h1, h2, h3, h4⟩
 exact ⟨g r, v, H', rfl, hφ r h1, h2, hT r h1 H' v h3, by rw [hI r h1]; exact h4⟩
def stpPut (s : RS × List Pr) (q : Pr) (s' : RS × List Pr) (b : Bool) : Prop := s'.2 = addP s.2 q ∧ b = decide (q ∈ s.2)
def stpDrop (s : RS × List Pr) (q : Pr) (s' : RS × List Pr) (b : Bool) : Prop := s'.2 = s.2.erase q ∧ b = !decide (q ∈ s.2)
def invR (m : Nat) (s : RS × List Pr) : Prop := RelOk s.2 s.1 ∧ s.2.length + m ≤ 100000000000
abbrev JdR (d : DO) (n : Int) (b : Nat) (s : RS × List Pr) : List It := BlkI b 75 kraw (pt d.g 0) :: BlkI d.g 106 kDr (dV d n) :: RelI d.s s.1
theorem addP_len (P : List Pr) (q : Pr) : (addP P q).length ≤ P.length + 1 := by unfold addP; split <;> simp
theorem put_test (d : DO) (n : Int) (b m : Nat) (s : RS × List Pr) (q : Pr) (h : invR (m + 1) s) : CtV Tryz.prog (.func (.func 203) #[] #[pt b 0]) [kPP.T q] (JdR d n b s) ((RS × List Pr) × Bool) (fun u => BoolT u.2) (fun u => JdR d n b u.1) (fun u => invR m u.1 ∧ stpPut s q u.1 u.2) := by
 have hc := ins1_fn d n b s.1 s.2 q h.1 (by have := h.2; omega)
 refine CtV.of [pt b 0] ?_ (by kernel_rfl)
 refine Ct.via (fun r => ((r, addP s.2 q), decide (q ∈ s.2))) hc (fun r hr H v hv => ?_) (fun r hr => rfl) fun r hr => ⟨⟨hr, ?_⟩, rfl, rfl⟩
 · have h1 : v = .bool (!decide (q ∉ s.2)) := hv
   rw [h1]; show Value.bool _ = Value.bool _; congr 1; by_cases hq : q ∈ s.2 <;> simp [hq]
 · have h1 := h.2; have h2 := addP_len s.2 q; show (addP s.2 q).length + m ≤ _; omega
theorem drop_test (d : DO) (n : Int) (b m : Nat) (s : RS × List Pr) (q : Pr) (h : invR (m + 1) s) : CtV Tryz.prog (.func (.func 200) #[] #[pt b 0]) [kPP.T q] (JdR d n b s) ((RS × List Pr) × Bool) (fun u => BoolT u.2) (fun u => JdR d n b u.1) (fun u => invR m u.1 ∧ stpDrop s q u.1 u.2) := by
 have hc := rem1_fn d n b s.1 s.2 q h.1 (by have := h.2; omega)
 refine CtV.of [pt b 0] ?_ (by kernel_rfl)
 refine Ct.via (fun r => ((r, s.2.erase q), !decide (q ∈ s.2))) hc (fun r hr H v hv => hv) (fun r hr => rfl) fun r hr => ⟨⟨hr, ?_⟩, rfl, rfl⟩
 have h1 := h.2; have h2 := List.length_erase_le (a := q) (l := s.2); show (s.2.erase q).length + m ≤ _; omega
theorem dels_put {s s' : RS × List Pr} {l ys : List Pr} (h : Dels stpPut s l s' ys) : s'.2 = s.2 ++ ys ∧ ∀ x, x ∈ s'.2 ↔ x ∈ s.2 ∨ x ∈ l := by
 induction h with
 | nil => exact ⟨by simp, fun x => by simp⟩
 | @snoc l ys s1 s2 q b h h2 ih =>
  obtain ⟨h3, rfl⟩ := h2
  unfold addP at h3
  by_cases hq : q ∈ s1.2
  · rw [if_pos hq] at h3
    rw [h3]
    refine ⟨by simpa [hq] using ih.1, fun x => ?_⟩
    rw [ih.2, List.mem_append, List.mem_singleton]
    constructor
    · rintro (h | h); exact .inl h; exact .inr (.inl h)
    · rintro (h | h | rfl)
      · exact .inl h
      · exact .inr h
      · exact (ih.2 x).1 hq
  · rw [if_neg hq] at h3
    rw [h3]
    refine ⟨by simp only [hq, decide_false, Bool.false_eq_true, if_false]; rw [ih.1, List.append_assoc], fun x => ?_⟩
    rw [List.mem_append, ih.2, List.mem_append, or_assoc]
theorem dels_drop {s s' : RS × List Pr} {l ys : List Pr} (h : Dels stpDrop s l s' ys) (hn : s.2.Nodup) : s'.2.Nodup ∧ ys.Nodup ∧ (∀ x, x ∈ s'.2 ↔ x ∈ s.2 ∧ x ∉ l) ∧ ∀ x, x ∈ ys ↔ x ∈ s.2 ∧ x ∈ l := by
 induction h with
 | nil => exact ⟨hn, List.nodup_nil, fun x => by simp, fun x => by simp⟩
 | @snoc l ys s1 s2 q b h h2 ih =>
  obtain ⟨h3, rfl⟩ := h2
  obtain ⟨i1, i2, i3, i4⟩ := ih
  rw [h3]
  have hm : ∀ x, x ∈ s1.2.erase q ↔ x ∈ s.2 ∧ x ∉ l ++ [q] := fun x => by
   rw [i1.mem_erase_iff, i3, List.mem_append, List.mem_singleton, not_or]
   exact ⟨fun ⟨h, h1, h2⟩ => ⟨h1, h2, h⟩, fun ⟨h1, h2, h⟩ => ⟨h, h1, h2⟩⟩
  by_cases hq : q ∈ s1.2
  · have hql := (i3 q).1 hq
    have hqy : q ∉ ys := fun h => hql.2 ((i4 q).1 h).2
    simp only [hq, decide_true, Bool.not_true, Bool.false_eq_true, if_false]
    refine ⟨i1.erase q, List.nodup_append.2 ⟨i2, by simp, fun a ha b hb e => hqy (by rw [← (by simpa using hb : b = q), ← e]; exact ha)⟩, hm, fun x => ?_⟩
    rw [List.mem_append, List.mem_singleton, i4, List.mem_append, List.mem_singleton]
    constructor
    · rintro (⟨h1, h2⟩ | rfl)
      · exact ⟨h1, .inl h2⟩
      · exact ⟨hql.1, .inr rfl⟩
    · rintro ⟨h1, h2 | h2⟩
      · exact .inl ⟨h1, h2⟩
      · exact .inr h2
  · simp only [hq, decide_false, Bool.not_false, if_true]
    refine ⟨i1.erase q, i2, hm, fun x => ?_⟩
    rw [i4, List.mem_append, List.mem_singleton]
    constructor
    · rintro ⟨h1, h2⟩; exact ⟨h1, .inl h2⟩
    · rintro ⟨h1, h2 | rfl⟩
      · exact ⟨h1, h2⟩
      · exact ⟨h1, Classical.byContradiction fun hl => hq ((i3 x).2 ⟨h1, hl⟩)⟩
def arF (S : List Pr) (v b : Int) : Prop := b = v ∨ (v, b) ∈ S
def arT (S : List Pr) (v a : Int) : Prop := a = v ∨ (a, v) ∈ S
theorem ar_T {S : List Pr} {r : RS} (hr : RelOk S r) {v : Int} {l : List Int} (h : l.Perm (rowS (sdB true r) v ++ [v])) (a : Int) : a ∈ l ↔ arT S v a := by
 rw [h.mem_iff, List.mem_append, List.mem_singleton, show (a ∈ rowS (sdB true r) v) = (a ∈ rowS r.t v) from rfl, rel_rowT hr]
 unfold arT
 exact ⟨fun h => h.elim .inr .inl, fun h => h.elim .inr .inl⟩
theorem ar_F {S : List Pr} {r : RS} (hr : RelOk S r) {v : Int} {l : List Int} (h : l.Perm (rowS (sdB false r) v ++ [v])) (a : Int) : a ∈ l ↔ arF S v a := by
 rw [h.mem_iff, List.mem_append, List.mem_singleton, show (a ∈ rowS (sdB false r) v) = (a ∈ rowS r.f v) from rfl, rel_rowF hr]
 unfold arF
 exact ⟨fun h => h.elim .inr .inl, fun h => h.elim .inr .inl⟩
theorem ar_len {S : List Pr} {r : RS} (hr : RelOk S r) {b : Bool} {v : Int} {l : List Int} (h : l.Perm (rowS (sdB b r) v ++ [v])) : l.length ≤ S.length + 1 := by
 have h1 := h.length_eq
 have h2 := rel_lenB hr (b := b) (u := v)
 rw [List.length_append, List.length_singleton] at h1; omega
theorem mem_take1 {l : List Int} {k : Nat} (h : k < l.length) {x : Int} : x ∈ l.take (k + 1) ↔ x ∈ l.take k ∨ x = at' l (k : Int) := by
 rw [List.take_succ_eq_append_getElem h, List.mem_append, List.mem_singleton, at'_nat h]
theorem dr_perm {O B1 B2 B3 : It} {X Y : List It} : (O :: B1 :: B2 :: B3 :: (X ++ Y)).Perm ((O :: B2 :: B3 :: Y) ++ (B1 :: X)) := by
 refine List.Perm.cons _ ?_
 refine List.Perm.trans ?_ List.perm_append_comm
 exact List.Perm.cons _ (perm_mid0 [B2, B3] X Y)
theorem dr_own {B1 B2 B3 : It} {X Y : List It} : Picks (B2 :: B3 :: (Y ++ (B1 :: X))) (B3 :: (X ++ Y)) := by
 refine picks_drop ⟨[B1], ?_⟩
 refine List.Perm.cons _ ?_
 have h : (Y ++ ([B1] ++ X)).Perm (([B1] ++ X) ++ Y) := List.perm_append_comm
 refine h.trans ?_
 rw [List.append_assoc]
 exact List.perm_append_comm
end Go.Proofs.YtklhdalppmjnaaaGreatDoor
/- Walks through the Go functions dred.Dred).insert, as typed contracts. -/
namespace Go.Proofs.YtklhdalppmjnaaaGreatDoor
open Go Go.Gw Go.So Go.Tu Go.Jn
open Go.Dr hiding Pr
set_option linter.unusedVariables false
set_option linter.unusedSimpArgs false
theorem ins_step {S F1 : List Pr} {F : List Pr} {a : Int} {l : List Int} {j : Nat} (hj : j < l.length) (h : ∀ x, x ∈ F1 ↔ x ∈ F ∨ (x ∉ S ∧ x.1 = a ∧ x.2 ∈ l.take j)) (hn : (a, at' l (j : Int)) ∉ S) (x : Pr) : x ∈ F1 ++ [(a, at' l (j : Int))] ↔ x ∈ F ∨ (x ∉ S ∧ x.1 = a ∧ x.2 ∈ l.take (j + 1)) := by
 rw [List.mem_append, List.mem_singleton, h, mem_take1 hj]
 constructor
 · rintro ((h1 | ⟨h1, h2, h3⟩) | rfl)
   · exact .inl h1
   · exact .inr ⟨h1, h2, .inl h3⟩
   · exact .inr ⟨hn, rfl, .inr rfl⟩
 · rintro (h1 | ⟨h1, h2, h3 | h3⟩)
   · exact .inl (.inl h1)
   · exact .inl (.inr ⟨h1, h2, h3⟩)
   · exact .inr (Prod.ext h2 h3)
theorem ins_skip {S F1 : List Pr} {F : List Pr} {a : Int} {l : List Int} {j : Nat} (hj : j < l.length) (h : ∀ x, x ∈ F1 ↔ x ∈ F ∨ (x ∉ S ∧ x.1 = a ∧ x.2 ∈ l.take j)) (hn : (a, at' l (j : Int)) ∈ S) (x : Pr) : x ∈ F1 ↔ x ∈ F ∨ (x ∉ S ∧ x.1 = a ∧ x.2 ∈ l.take (j + 1)) := by
 rw [h, mem_take1 hj]
 constructor
 · rintro (h1 | ⟨h1, h2, h3⟩)
   · exact .inl h1
   · exact .inr ⟨h1, h2, .inl h3⟩
 · rintro (h1 | ⟨h1, h2, h3 | h3⟩)
   · exact .inl h1
   · exact .inr ⟨h1, h2, h3⟩
   · exact absurd (by rw [← h2, ← h3] at hn; exact hn) h1
theorem ins_next {S F F1 : List Pr} {p : Pr} {l l2 : List Int} {k : Nat} (hk : k < l.length) (h2 : ∀ b, b ∈ l2 ↔ arF S p.2 b) (h : ∀ x : Pr, x ∈ F ↔ x ∉ S ∧ x.1 ∈ l.take k ∧ arF S p.2 x.2) (h1 : ∀ x : Pr, x ∈ F1 ↔ x ∈ F ∨ (x ∉ S ∧ x.1 = at' l (k : Int) ∧ x.2 ∈ l2.take l2.length)) (x : Pr) : x ∈ F1 ↔ x ∉ S ∧ x.1 ∈ l.take (k + 1) ∧ arF S p.2 x.2 := by
 rw [h1, h, mem_take1 hk, List.take_length, h2]
 constructor
 · rintro (⟨q1, q2, q3⟩ | ⟨q1, q2, q3⟩)
   · exact ⟨q1, .inl q2, q3⟩
   · exact ⟨q1, .inr q2, q3⟩
 · rintro ⟨q1, q2 | q2, q3⟩
   · exact .inl ⟨q1, q2, q3⟩
   · exact .inr ⟨q1, q2, q3⟩
/-- What insert says. -/
structure InsSays (E S : List Pr) (p : Pr) (re rs : RS) (F : List Pr) : Prop where
 e : RelOk (addP E p) re
 s : RelOk (S ++ F) rs
 m : ∀ x : Pr, x ∈ F ↔ x ∉ S ∧ arT S p.1 x.1 ∧ arF S p.2 x.2
theorem ins_says {E S F ys : List Pr} {p : Pr} {re : RS} {rs rs' : RS} {S' : List Pr} {l : List Int} (he : RelOk (addP E p) re) (hl : ∀ a, a ∈ l ↔ arT S p.1 a) (hF : ∀ x : Pr, x ∈ F ↔ x ∉ S ∧ x.1 ∈ l.take l.length ∧ arF S p.2 x.2) (hd : Dels stpPut (rs, S) F (rs', S') ys) (hi : invR 0 (rs', S')) : InsSays E S p re rs' ys := by
 obtain ⟨h1, h2⟩ := dels_put hd
 have h1 : S' = S ++ ys := h1
 subst h1
 refine ⟨he, hi.1, fun x => ?_⟩
 have hnd := (List.nodup_append.1 hi.1.nd)
 have h3 : x ∈ S ++ ys ↔ x ∈ S ∨ x ∈ F := h2 x
 rw [List.take_length] at hF
 constructor
 · intro hx
   have hxS : x ∉ S := fun h => hnd.2.2 x h x hx rfl
   have := ((h3.1 (List.mem_append_right _ hx)).resolve_left hxS)
   have := (hF x).1 this
   exact ⟨hxS, (hl _).1 this.2.1, this.2.2⟩
 · rintro ⟨hxS, ha, hb⟩
   have := h3.2 (.inr ((hF x).2 ⟨hxS, (hl _).2 ha, hb⟩))
   exact (List.mem_append.1 this).resolve_left hxS

set_option maxHeartbeats 1000000 in
set_option maxRecDepth 20000 in
/-- (*rhizome/dred.Dred).insert -/
theorem insert_fnD (d : DO) (n : Int) (re rs : RS) (E S : List Pr) (p : Pr) (he : RelOk E re) (hs : RelOk S rs) (hSi : ∀ x ∈ S, inP x) (hEl : E.length ≤ 100000) (hSl : S.length ≤ 10000) : Ct Tryz.prog 195 [IsV (pt d.g 0), kPP.T p] (DrI d n re rs) (RS × RS × List Pr) (fun q => SlT kPP q.2.2) (fun q => DrI d n q.1 q.2.1) (fun q => InsSays E S p q.1 q.2.1 q.2.2) := by
 refine fn_intro Tryz.func195 rfl rfl ?_
 intro H w
 refine tr_perm (List.Perm.refl (BlkI d.g 106 kDr (dV d n) :: (RelI d.e re ++ RelI d.s rs))) (sq (te (ec 0 rfl (ec 1 rfl en)) (rg (oA (acts_box (d := kraw) (OT.raw (oT rfl) rfl)) pR rfl rfl (fun g0_0 _ => ?_)))))
 refine oA (acts_box (d := kPP) (oT rfl)) pR rfl rfl (fun g0_1 _ => ?_)
 refine ak rfl (tn (nn (sq (te (ec 2 rfl (ec 3 rfl en)) ?_))))
 apply tr_any (m := 5) (ns := [[(2, none)], [(10, some 0)], [(11, some 1)], [(12, some 2)], [(3, none)]]) (by kernel_rfl) (by kernel_rfl) (Ts := [_, _, _, _, _]) rfl
 case hops =>
  refine ⟨?_, ?_, ?_, ?_, ?_, trivial⟩
  · exact rP (pu_load_rawv (oT rfl) (by exact mA 1 rfl) y103)
  · exact rP (pu_nilCheck (oT rfl))
  · exact rP (pf (oT rfl) y110)
  · exact rP (pu_load_rawf (oT rfl) (by exact mA 2 rfl) ld1 y105)
  · exact rP (plv (oT rfl) (by exact mA 0 rfl) y92)
 case h =>
  refine op_midl [_, _, _] (RelI d.s rs) rfl (aC (dPut_fn d.e re E p he (by omega)) y106 (oc (oT rfl) (oc (oT rfl) oN)) (perm_mid0 [_, _, _] (RelI d.e re) (RelI d.s rs))) rfl rfl fun re2 hre2 => (tn (nn (sq (te (ec 2 rfl (ec 3 rfl en)) (rg (ak rfl (tn (tr_nilItem 109 kPP (nn (sq (sq (te (ec 2 rfl (ec 3 rfl (ec 5 rfl en))) ?_))))))))))))
  apply tr_anyG (ρ := Value × List Int) (φ := fun rr => rr.2.Perm (rowS (sdB true rs) p.1 ++ [p.1])) (p := 9) (Lf := fun c rr => cond c (OwnI 3 kI rr.1 rr.2 :: OwnI 109 kPP nilS ([] : List Pr) :: BlkI g0_1 109 kPP p :: BlkI g0_0 75 kraw (pt d.g 0) :: BlkI d.g 106 kDr (dV d n) :: (RelI d.e re2 ++ RelI d.s rs)) (OwnI 109 kPP nilS ([] : List Pr) :: BlkI g0_1 109 kPP p :: BlkI g0_0 75 kraw (pt d.g 0) :: BlkI d.g 106 kDr (dV d n) :: (RelI d.e re2 ++ RelI d.s rs))) (nilS, []) (by kernel_rfl) (m := 12) (ns := [[(3, none)], [(16, some 0)], [(2, none)], [(18, some 2)], [(19, some 3)], [(20, some 4)], [(21, some 5)], [(22, some 6)], [(23, some 7)], [(17, some 1), (24, some 8)], [(25, some 9)], []]) (by kernel_rfl) (by kernel_rfl) (Ts := fun rr => [_, _, _, _, _, _, _, _, _, IsV rr.1, I64 (rr.2.length : Int), _]) (fun _ => rfl)
  case hops =>
   refine ⟨?_, ?_, ?_, ?_, ?_, ?_, ?_, ?_, ?_, ?_, ?_, ?_, trivial⟩
   · exact ⟨cBf (by kernel_rfl) fun r _ => rgo r rfl ⟨rfl, trivial⟩ (rP (pu_pair_var0 (oT rfl) (by exact mA 1 rfl) Tryz.underlying109 y2)), fun _ _ _ _ => rfl⟩
   · exact ⟨cBf (by kernel_rfl) fun r _ => rgo r rfl ⟨rfl, trivial⟩ (rP (pu_load_p0 (oT rfl) (by exact mA 1 rfl) y2)), fun _ _ _ _ => rfl⟩
   · exact ⟨cBf (by kernel_rfl) fun r _ => rgo r rfl ⟨rfl, trivial⟩ (rP (pu_load_rawv (oT rfl) (by exact mA 2 rfl) y103)), fun _ _ _ _ => rfl⟩
   · exact ⟨cBf (by kernel_rfl) fun r _ => rgo r rfl ⟨rfl, trivial⟩ (rP (pu_nilCheck (oT rfl))), fun _ _ _ _ => rfl⟩
   · exact ⟨cBf (by kernel_rfl) fun r _ => rgo r rfl ⟨rfl, trivial⟩ (rP (pf (oT rfl) y104)), fun _ _ _ _ => rfl⟩
   · exact ⟨cBf (by kernel_rfl) fun r _ => rgo r rfl ⟨rfl, trivial⟩ (rP (pu_load_rawf (oT rfl) (by exact mA 3 rfl) ld2 y105)), fun _ _ _ _ => rfl⟩
   · exact ⟨cBf (by kernel_rfl) fun r _ => rgo r rfl ⟨rfl, trivial⟩ (rP (pu_nilCheck (oT rfl))), fun _ _ _ _ => rfl⟩
   · exact ⟨cBf (by kernel_rfl) fun r _ => rgo r rfl ⟨rfl, trivial⟩ (rP (pf (oT rfl) y94)), fun _ _ _ _ => rfl⟩
   · exact ⟨cBf (by kernel_rfl) fun r _ => rgo r rfl ⟨rfl, trivial⟩ (rP (pu_load_rawf (oT rfl) (List.mem_cons_of_mem _ (List.mem_cons_of_mem _ (List.mem_cons_of_mem _ (List.mem_cons_of_mem _ (List.mem_append_right _ List.mem_cons_self))))) lre1 y91)), fun _ _ _ _ => rfl⟩
   · refine ⟨?_, ?_⟩
     · exact cBf (by kernel_rfl) fun r _ => ropg_acts rfl (aC (around_fn d.s rs S true p.1 hs hSi (by omega)) y111 (oc (oT rfl) (oc (oT rfl) oN)) (perm_tl2 (X := [_, _, _, _]) (Y := RelI d.e re2))) (perm_tl2 (X := [_, _, _, _]) (Y := RelI d.e re2)) (fun r => (List.Perm.cons _ (perm_tl2 (X := [_, _, _, _]) (Y := RelI d.e re2)).symm)) (fun _ h _ => h) (fun _ _ _ _ h => h)
     · exact fun _ h => absurd h (by decide)
   · refine ⟨?_, ?_⟩
     · exact cBt (by kernel_rfl) fun r _ => rgo r rfl ⟨rfl, trivial⟩ (rP (pu_len_own (oT rfl) (by exact mA 0 rfl) Tryz.underlying50))
     · exact fun h => Bool.noConfusion (h.symm.trans (by kernel_rfl : okFlag _ _ _ _ = false))
   · exact ⟨by intro c r hc; cases c <;> exact rgo r rfl ⟨rfl, trivial⟩ (rP (pu_move ot)), fun _ _ _ _ => rfl⟩
  case h =>
   intro q hq
   refine tn ?_
   have hql := ar_len hs hq
   have hqm := ar_T hs hq
   refine tr_freeze (perm_at 0 rfl) 25 (oT rfl) (nn (tb (tr_loopK (σ := Nat × Value × List Pr) (ec 2 rfl (ec 3 rfl (ec 25 rfl (ec 26 rfl en)))) (fun s => [(27, I64 (s.1 : Int)), (5, IsV s.2.1)]) (fun s => OwnI 109 kPP s.2.1 s.2.2 :: BlkI g0_1 109 kPP p :: BlkI g0_0 75 kraw (pt d.g 0) :: BlkI d.g 106 kDr (dV d n) :: (RelI d.e re2 ++ RelI d.s rs)) (fun s => s.1 ≤ q.2.length ∧ (∀ x : Pr, x ∈ s.2.2 ↔ x ∉ S ∧ x.1 ∈ q.2.take s.1 ∧ arF S p.2 x.2) ∧ s.2.2.length ≤ s.1 * 10001) (fun s => q.2.length - s.1) (0, nilS, []) ⟨Nat.zero_le _, fun x => by simp, Nat.zero_le _⟩ ?_ (op pl) ?_)))
   · exact (ec 27 rfl (ec 5 rfl en))
   · rintro ⟨k, u, F⟩ ⟨hkl, hF, hFl⟩
     dsimp only at hkl hF hFl ⊢
     refine sq (te (ec 2 rfl (ec 3 rfl (ec 5 rfl (ec 25 rfl (ec 26 rfl (ec 27 rfl en)))))) (rg (oP (pu_lss (oT rfl) (oT rfl)) rfl (tn (nn (sq (tc (oT rfl) (fun c28 => ?_) (fun c28 => ?_))))))))
     · refine sk (nn (sq (tb (sq (te (ec 2 rfl (ec 3 rfl (ec 5 rfl (ec 25 rfl (ec 26 rfl (ec 27 rfl en)))))) ?_)))))
       have hk : k < q.2.length := by simp only [decide_eq_true_eq] at c28; omega
       obtain ⟨a, ha⟩ : ∃ a, at' q.2 (k : Int) = a := ⟨_, rfl⟩
       refine rg (oP (pu_index (oT rfl) (oT rfl) Tryz.underlying50 y2 (by omega) (by omega)) rfl (oP (pL (oT rfl) y2) rfl (av rfl rfl (tn ?_))))
       rw [ha]
       refine nn (sq (te (ec 2 rfl (ec 3 rfl (ec 5 rfl (ec 7 rfl (ec 25 rfl (ec 26 rfl (ec 27 rfl en))))))) ?_))
       apply tr_anyG (ρ := Value × List Int) (φ := fun rr => rr.2.Perm (rowS (sdB false rs) p.2 ++ [p.2])) (p := 9) (Lf := fun c rr => cond c (OwnI 3 kI rr.1 rr.2 :: OwnI 109 kPP u F :: BlkI g0_1 109 kPP p :: BlkI g0_0 75 kraw (pt d.g 0) :: BlkI d.g 106 kDr (dV d n) :: (RelI d.e re2 ++ RelI d.s rs)) (OwnI 109 kPP u F :: BlkI g0_1 109 kPP p :: BlkI g0_0 75 kraw (pt d.g 0) :: BlkI d.g 106 kDr (dV d n) :: (RelI d.e re2 ++ RelI d.s rs))) (nilS, []) (by kernel_rfl) (m := 12) (ns := [[(3, none)], [(31, some 0)], [(2, none)], [(33, some 2)], [(34, some 3)], [(35, some 4)], [(36, some 5)], [(37, some 6)], [(38, some 7)], [(32, some 1), (39, some 8)], [(40, some 9)], []]) (by kernel_rfl) (by kernel_rfl) (Ts := fun rr => [_, _, _, _, _, _, _, _, _, IsV rr.1, I64 (rr.2.length : Int), _]) (fun _ => rfl)
       case hops =>
        refine ⟨?_, ?_, ?_, ?_, ?_, ?_, ?_, ?_, ?_, ?_, ?_, ?_, trivial⟩
        · exact ⟨cBf (by kernel_rfl) fun r _ => rgo r rfl ⟨rfl, trivial⟩ (rP (pu_pair_var1 (oT rfl) (by exact mA 1 rfl) Tryz.underlying109 y2)), fun _ _ _ _ => rfl⟩
        · exact ⟨cBf (by kernel_rfl) fun r _ => rgo r rfl ⟨rfl, trivial⟩ (rP (pu_load_p1 (oT rfl) (by exact mA 1 rfl) y2)), fun _ _ _ _ => rfl⟩
        · exact ⟨cBf (by kernel_rfl) fun r _ => rgo r rfl ⟨rfl, trivial⟩ (rP (pu_load_rawv (oT rfl) (by exact mA 2 rfl) y103)), fun _ _ _ _ => rfl⟩
        · exact ⟨cBf (by kernel_rfl) fun r _ => rgo r rfl ⟨rfl, trivial⟩ (rP (pu_nilCheck (oT rfl))), fun _ _ _ _ => rfl⟩
        · exact ⟨cBf (by kernel_rfl) fun r _ => rgo r rfl ⟨rfl, trivial⟩ (rP (pf (oT rfl) y104)), fun _ _ _ _ => rfl⟩
        · exact ⟨cBf (by kernel_rfl) fun r _ => rgo r rfl ⟨rfl, trivial⟩ (rP (pu_load_rawf (oT rfl) (by exact mA 3 rfl) ld2 y105)), fun _ _ _ _ => rfl⟩
        · exact ⟨cBf (by kernel_rfl) fun r _ => rgo r rfl ⟨rfl, trivial⟩ (rP (pu_nilCheck (oT rfl))), fun _ _ _ _ => rfl⟩
        · exact ⟨cBf (by kernel_rfl) fun r _ => rgo r rfl ⟨rfl, trivial⟩ (rP (pf (oT rfl) y90)), fun _ _ _ _ => rfl⟩
        · exact ⟨cBf (by kernel_rfl) fun r _ => rgo r rfl ⟨rfl, trivial⟩ (rP (pu_load_rawf (oT rfl) (List.mem_cons_of_mem _ (List.mem_cons_of_mem _ (List.mem_cons_of_mem _ (List.mem_cons_of_mem _ (List.mem_append_right _ List.mem_cons_self))))) lre0 y91)), fun _ _ _ _ => rfl⟩
        · refine ⟨?_, ?_⟩
          · exact cBf (by kernel_rfl) fun r _ => ropg_acts rfl (aC (around_fn d.s rs S false p.2 hs hSi (by omega)) y111 (oc (oT rfl) (oc (oT rfl) oN)) (perm_tl2 (X := [_, _, _, _]) (Y := RelI d.e re2))) (perm_tl2 (X := [_, _, _, _]) (Y := RelI d.e re2)) (fun r => (List.Perm.cons _ (perm_tl2 (X := [_, _, _, _]) (Y := RelI d.e re2)).symm)) (fun _ h _ => h) (fun _ _ _ _ h => h)
          · exact fun _ h => absurd h (by decide)
        · refine ⟨?_, ?_⟩
          · exact cBt (by kernel_rfl) fun r _ => rgo r rfl ⟨rfl, trivial⟩ (rP (pu_len_own (oT rfl) (by exact mA 0 rfl) Tryz.underlying50))
          · exact fun h => Bool.noConfusion (h.symm.trans (by kernel_rfl : okFlag _ _ _ _ = false))
        · exact ⟨by intro c r hc; cases c <;> exact rgo r rfl ⟨rfl, trivial⟩ (rP (pu_move ot)), fun _ _ _ _ => rfl⟩
       case h =>
        intro q2 hq2
        refine tn ?_
        have hql2 := ar_len hs hq2
        have hqm2 := ar_F hs hq2
        refine tr_freeze (perm_at 0 rfl) 40 (oT rfl) (nn (tb (tr_loopK (σ := Nat × Value × List Pr) (ec 2 rfl (ec 3 rfl (ec 7 rfl (ec 25 rfl (ec 26 rfl (ec 27 rfl (ec 40 rfl (ec 41 rfl en)))))))) (fun s => [(42, I64 (s.1 : Int)), (5, IsV s.2.1)]) (fun s => OwnI 109 kPP s.2.1 s.2.2 :: BlkI g0_1 109 kPP p :: BlkI g0_0 75 kraw (pt d.g 0) :: BlkI d.g 106 kDr (dV d n) :: (RelI d.e re2 ++ RelI d.s rs)) (fun s => s.1 ≤ q2.2.length ∧ (∀ x : Pr, x ∈ s.2.2 ↔ x ∈ F ∨ (x ∉ S ∧ x.1 = a ∧ x.2 ∈ q2.2.take s.1)) ∧ s.2.2.length ≤ F.length + s.1) (fun s => q2.2.length - s.1) (0, u, F) ⟨Nat.zero_le _, fun x => by simp, Nat.le_refl _⟩ ?_ (op pl) ?_)))
        · exact (ec 42 rfl (ec 5 rfl en))
        · rintro ⟨j, u1, F1⟩ ⟨hjl, hF1, hFl1⟩
          dsimp only at hjl hF1 hFl1 ⊢
          refine sq (te (ec 2 rfl (ec 3 rfl (ec 5 rfl (ec 7 rfl (ec 25 rfl (ec 26 rfl (ec 27 rfl (ec 40 rfl (ec 41 rfl (ec 42 rfl en)))))))))) (rg (oP (pu_lss (oT rfl) (oT rfl)) rfl (tn (nn (sq (tc (oT rfl) (fun c43 => ?_) (fun c43 => ?_))))))))
          · refine sk (nn (sq (tb (sq (te (ec 2 rfl (ec 3 rfl (ec 5 rfl (ec 7 rfl (ec 25 rfl (ec 26 rfl (ec 27 rfl (ec 40 rfl (ec 41 rfl (ec 42 rfl en)))))))))) ?_)))))
            have hj : j < q2.2.length := by simp only [decide_eq_true_eq] at c43; omega
            obtain ⟨b, hb⟩ : ∃ b, at' q2.2 (j : Int) = b := ⟨_, rfl⟩
            have hmul : (k + 1) * 10001 ≤ 100020001 := by omega
            refine rg (oP (pu_index (oT rfl) (oT rfl) Tryz.underlying50 y2 (by omega) (by omega)) rfl (oP (pL (oT rfl) y2) rfl (av rfl rfl (tn ?_))))
            rw [hb]
            refine nn (sq (te (ec 2 rfl (ec 3 rfl (ec 5 rfl (ec 7 rfl (ec 9 rfl (ec 25 rfl (ec 26 rfl (ec 27 rfl (ec 40 rfl (ec 41 rfl (ec 42 rfl en))))))))))) (rg (oP (pu_load_rawv (oT rfl) (by exact mA 2 rfl) y103) rfl ?_))))
            refine oP (pu_nilCheck (oT rfl)) rfl (oP (pf (oT rfl) y104) rfl (oP (pu_load_rawf (oT rfl) (by exact mA 3 rfl) ld2 y105) rfl ?_))
            refine mv rfl rfl (mv rfl rfl (oP (pu_build_arr (d := kPP) (v0 := (0, 0)) (agg := false) Tryz.underlying109 y2 zPr rfl (fills_cons rfl Lens.p0 (oT rfl) (fills_cons rfl Lens.p1 (oT rfl) fills_nil))) rfl (op_tl2 [_, _, _, _] (RelI d.e re2) rfl (aC (dHas_fn d.s rs (a, b)) y93 (oc (oT rfl) (oc (oT rfl) oN)) (perm_tl2 (X := [_, _, _, _]) (Y := (RelI d.e re2)))) rfl rfl fun _ _ => (oP (pu_not (oT rfl)) rfl (tn (nn (tc (oT rfl) (fun c54 => ?_) (fun c54 => ?_))))))))
            · have hnS : (a, b) ∉ S := fun h => by rw [hs.f, decide_eq_true h] at c54; cases c54
              rw [← hb] at hnS
              have hst := ins_step hj hF1 hnS
              rw [hb] at hst
              refine te (ec 2 rfl (ec 3 rfl (ec 5 rfl (ec 7 rfl (ec 9 rfl (ec 25 rfl (ec 26 rfl (ec 27 rfl (ec 40 rfl (ec 41 rfl (ec 42 rfl en))))))))))) (rg (mv rfl rfl (mv rfl rfl (mv rfl rfl (oP (pu_build_arr (d := kPP) (v0 := (0, 0)) (agg := false) Tryz.underlying109 y2 zPr rfl (fills_cons rfl Lens.p0 (oT rfl) (fills_cons rfl Lens.p1 (oT rfl) fills_nil))) rfl (oA (acts_lit (d := kPP) (v0 := (0, 0)) y112 y92 zPr (show 1 * 2 ≤ 16777216 from by decide) (by decide) (fills_arr rfl rfl (by decide) (oT rfl) fills_nil)) pR rfl rfl (fun _ _ => ?_)))))))
              refine oA (acts_append (oT rfl) (by exact pA 0 rfl) (oT rfl) y112 (by (simp; omega)) (by (simp [maxLen]; omega))) (by exact pA 0 rfl) rfl rfl (fun v10_5 _ => ?_)
              refine av rfl rfl (tn (bn (nn (te (ec 2 rfl (ec 3 rfl (ec 5 rfl (ec 7 rfl (ec 25 rfl (ec 26 rfl (ec 27 rfl (ec 40 rfl (ec 41 rfl (ec 42 rfl en)))))))))) (rg (oP (pad (oT rfl) ot (by omega)) rfl (mv rfl rfl (tn (nn ?_)))))))))
              exact tg (j + 1, v10_5, F1 ++ [(a, b)]) ⟨hj, hst, (by show (F1 ++ [(a, b)]).length ≤ F.length + (j + 1); rw [List.length_append, List.length_singleton]; omega)⟩ (by show q2.2.length - (j + 1) < q2.2.length - j; omega) (ea (ec 42 rfl (ec 5 rfl en)) (ec 2 rfl (ec 3 rfl (ec 7 rfl (ec 25 rfl (ec 26 rfl (ec 27 rfl (ec 40 rfl (ec 41 rfl en))))))))) (op pl)
            · have hnS : (a, b) ∈ S := Classical.byContradiction fun h => by rw [hs.f, decide_eq_false h] at c54; cases c54
              rw [← hb] at hnS
              have hst := ins_skip hj hF1 hnS
              refine sk (bn (nn (te (ec 2 rfl (ec 3 rfl (ec 5 rfl (ec 7 rfl (ec 25 rfl (ec 26 rfl (ec 27 rfl (ec 40 rfl (ec 41 rfl (ec 42 rfl en)))))))))) (rg (oP (pad (oT rfl) ot (by omega)) rfl (mv rfl rfl (tn (nn ?_))))))))
              exact tg (j + 1, u1, F1) ⟨hj, hst, (by show F1.length ≤ F.length + (j + 1); omega)⟩ (by show q2.2.length - (j + 1) < q2.2.length - j; omega) (ea (ec 42 rfl (ec 5 rfl en)) (ec 2 rfl (ec 3 rfl (ec 7 rfl (ec 25 rfl (ec 26 rfl (ec 27 rfl (ec 40 rfl (ec 41 rfl en))))))))) (op pl)
          · refine tr_exit (tx (tx (bh (bn (nn (te (ec 2 rfl (ec 3 rfl (ec 5 rfl (ec 25 rfl (ec 26 rfl (ec 27 rfl en)))))) ?_))))))
            obtain rfl : j = q2.2.length := by simp only [decide_eq_false_iff_not] at c43; omega
            rw [← ha] at hF1
            have hst := ins_next hk hqm2 hF hF1
            refine rg (oP (pad (oT rfl) ot (by omega)) rfl (mv rfl rfl (tn (nn ?_))))
            exact tg (k + 1, u1, F1) ⟨hk, hst, (by show F1.length ≤ (k + 1) * 10001; omega)⟩ (by show q.2.length - (k + 1) < q.2.length - k; omega) (ea (ec 27 rfl (ec 5 rfl en)) (ec 2 rfl (ec 3 rfl (ec 25 rfl (ec 26 rfl en))))) (op pl)
     · refine tr_exit (tx (tx (bh (nn (sq (te (ec 2 rfl (ec 5 rfl en)) ?_))))))
       obtain rfl : k = q.2.length := by simp only [decide_eq_false_iff_not] at c28; omega
       have hFl2 : F.length ≤ 100020001 := by omega
       have hF9 : F.length ≤ 100000000000 := by omega
       have hv0 : invR F.length (rs, S) := ⟨hs, by show S.length + F.length ≤ _; omega⟩
       refine rg (mv rfl rfl (oP (pu_makeFunc (caps_cons (oT rfl) caps_nil)) rfl (oA (aC (DeleteD_fn (JdR d n g0_0) invR stpPut _ u F (rs, S) hF9 hv0 (put_test d n g0_0)) y113 (oc (oT rfl) (oc (oT rfl) oN)) dr_perm) dr_perm rfl rfl fun q3 hq3 => (av rfl rfl (tn ?_)))))
       have hsay := ins_says hre2 hqm hF hq3.1 hq3.2.1
       exact tr_freeze (perm_at 0 rfl) 4 (oT rfl) (nn (tR (ret_one .ret (.inl rfl) rfl (re2, q3.2.2.1, q3.2.1) (oT rfl) hsay dr_own)))
end Go.Proofs.YtklhdalppmjnaaaGreatDoor
/- What remove of a dred does, step by step, to lists of pairs. Plain. -/
namespace Go.Proofs.YtklhdalppmjnaaaGreatDoor
open Go Go.Gw Go.So Go.Tu Go.Jn Go.MapKept
open Go.Dr hiding Pr
set_option linter.unusedVariables false
set_option linter.unusedSimpArgs false
theorem rem_s2 {X1 X2 : List Pr} {a : Int} {l : List Int} {j : Nat} (hj : j < l.length) (h : ∀ x : Pr, x ∈ X2 ↔ x ∈ X1 ∨ (x.1 = a ∧ x.2 ∈ l.take j)) (x : Pr) : x ∈ X2 ++ [(a, at' l (j : Int))] ↔ x ∈ X1 ∨ (x.1 = a ∧ x.2 ∈ l.take (j + 1)) := by
 rw [List.mem_append, List.mem_singleton, h, mem_take1 hj]
 constructor
 · rintro ((h1 | ⟨h2, h3⟩) | rfl)
   · exact .inl h1
   · exact .inr ⟨h2, .inl h3⟩
   · exact .inr ⟨rfl, .inr rfl⟩
 · rintro (h1 | ⟨h2, h3 | h3⟩)
   · exact .inl (.inl h1)
   · exact .inl (.inr ⟨h2, h3⟩)
   · exact .inr (Prod.ext h2 h3)
theorem rem_s1 {S X X1 X2 : List Pr} {p : Pr} {l l2 : List Int} {i : Nat} (hi : i < l.length) (h2 : ∀ b, b ∈ l2 ↔ arF S p.2 b) (h1 : ∀ x : Pr, x ∈ X1 ↔ x ∈ X ∨ (x.1 ∈ l.take i ∧ arF S p.2 x.2)) (h : ∀ x : Pr, x ∈ X2 ↔ x ∈ X1 ∨ (x.1 = at' l (i : Int) ∧ x.2 ∈ l2.take l2.length)) (x : Pr) : x ∈ X2 ↔ x ∈ X ∨ (x.1 ∈ l.take (i + 1) ∧ arF S p.2 x.2) := by
 rw [h, h1, mem_take1 hi, List.take_length, h2]
 constructor
 · rintro ((q | ⟨q1, q2⟩) | ⟨q1, q2⟩)
   · exact .inl q
   · exact .inr ⟨.inl q1, q2⟩
   · exact .inr ⟨.inr q1, q2⟩
 · rintro (q | ⟨q1 | q1, q2⟩)
   · exact .inl (.inl q)
   · exact .inl (.inr ⟨q1, q2⟩)
   · exact .inr ⟨q1, q2⟩
def hang (S l : List Pr) (x : Pr) : Prop := ∃ p ∈ l, arT S p.1 x.1 ∧ arF S p.2 x.2
theorem rem_s0 {S X X1 l : List Pr} {la : List Int} {k : Nat} (hk : k < l.length) (ha : ∀ a, a ∈ la ↔ arT S (at' l (k : Int)).1 a) (h0 : ∀ x : Pr, x ∈ X ↔ hang S (l.take k) x) (h : ∀ x : Pr, x ∈ X1 ↔ x ∈ X ∨ (x.1 ∈ la.take la.length ∧ arF S (at' l (k : Int)).2 x.2)) (x : Pr) : x ∈ X1 ↔ hang S (l.take (k + 1)) x := by
 rw [h, h0, List.take_length, ha]
 unfold hang
 rw [List.take_succ_eq_append_getElem hk, at'_nat hk]
 constructor
 · rintro (⟨p, hp, q⟩ | q)
   · exact ⟨p, List.mem_append_left _ hp, q⟩
   · exact ⟨l[k], List.mem_append_right _ (by simp), q⟩
 · rintro ⟨p, hp, q⟩
   rcases List.mem_append.1 hp with hp | hp
   · exact .inl ⟨p, hp, q⟩
   · rw [List.mem_singleton.1 hp] at q; exact .inr q
theorem rem_e {E Ek l : List Pr} {k : Nat} (hk : k < l.length) (hn : Ek.Nodup) (h : ∀ x, x ∈ Ek ↔ x ∈ E ∧ x ∉ l.take k) (x : Pr) : x ∈ Ek.erase (at' l (k : Int)) ↔ x ∈ E ∧ x ∉ l.take (k + 1) := by
 rw [hn.mem_erase_iff, h, List.take_succ_eq_append_getElem hk, List.mem_append, List.mem_singleton, at'_nat hk, not_or]
 exact ⟨fun ⟨a, b, c⟩ => ⟨b, c, a⟩, fun ⟨b, c, a⟩ => ⟨a, b, c⟩⟩
structure Again (S E' S' G : List Pr) (r : RS) : Prop where
 s : RelOk S' r
 t : ∀ x ∈ S', TC E' x.1 x.2
 p : ∀ x, x ∈ S ↔ x ∈ S' ∨ x ∈ G
 n : G.Nodup
 d : ∀ x ∈ G, x ∉ S'
theorem ar_rt {S E : List Pr} (h : ∀ a b, (a, b) ∈ S ↔ TC E a b) (v a : Int) : arT S v a ↔ RT E a v := by
 unfold arT RT
 rw [h]
 exact ⟨fun q => q.imp Eq.symm id, fun q => q.imp Eq.symm id⟩
theorem ar_rf {S E : List Pr} (h : ∀ a b, (a, b) ∈ S ↔ TC E a b) (v b : Int) : arF S v b ↔ RT E v b := by
 unfold arF RT
 rw [h]
theorem again_start {S E E' X l ys S0 : List Pr} {rs rs0 : RS} (h : ∀ a b, (a, b) ∈ S ↔ TC E a b) (hn : S.Nodup) (he : ∀ x, x ∈ E' ↔ x ∈ E ∧ x ∉ l) (hX : ∀ x : Pr, x ∈ X ↔ hang S l x) (hd : Dels stpDrop (rs, S) X (rs0, S0) ys) (hi : invR 0 (rs0, S0)) : Again S E' S0 ys rs0 := by
 obtain ⟨h1, h2, h3, h4⟩ := dels_drop hd hn
 have h3 : ∀ x, x ∈ S0 ↔ x ∈ S ∧ x ∉ X := h3
 have h4 : ∀ x, x ∈ ys ↔ x ∈ S ∧ x ∈ X := h4
 refine ⟨hi.1, fun x hx => ?_, fun x => ?_, h2, fun x hx hs => ((h3 x).1 hs).2 ((h4 x).1 hx).2⟩
 · obtain ⟨q1, q2⟩ := (h3 x).1 hx
   refine tc_keep (E := E) (l := l) he ((h x.1 x.2).1 q1) fun ⟨p, hp, q3, q4⟩ => q2 ((hX x).2 ⟨p, hp, (ar_rt h _ _).2 q3, (ar_rf h _ _).2 q4⟩)
 · rw [h3, h4]
   exact ⟨fun hs => (Classical.em (x ∈ X)).elim (fun q => .inr ⟨hs, q⟩) fun q => .inl ⟨hs, q⟩, fun q => q.elim And.left And.left⟩
theorem mem_cut {G : List Pr} {j : Nat} (hj : j < G.length) (hn : G.Nodup) (x : Pr) : x ∈ G.take j ++ G.drop (j + 1) ↔ x ∈ G ∧ x ≠ at' G (j : Int) := by
 have h1 : G.take j ++ G.drop (j + 1) = G.eraseIdx j := (List.eraseIdx_eq_take_drop_succ G j).symm
 have h2 : G.eraseIdx j = G.erase G[j] := by
  rw [List.erase_eq_eraseIdx_of_idxOf]
  exact (List.Nodup.idxOf_getElem hn j hj)
 rw [h1, h2, hn.mem_erase_iff, at'_nat hj]
 exact And.comm
theorem again_step {S E' S' G : List Pr} {r r2 : RS} {j : Nat} (h : Again S E' S' G r) (hj : j < G.length) (hd : dvB E' S' (at' G (j : Int)) = true) (hr : RelOk (addP S' (at' G (j : Int))) r2) : Again S E' (addP S' (at' G (j : Int))) (G.take j ++ G.drop (j + 1)) r2 := by
 have hq : at' G (j : Int) ∈ G := at_mem hj
 have hqS : at' G (j : Int) ∉ S' := h.d _ hq
 have hm : ∀ x, x ∈ addP S' (at' G (j : Int)) ↔ x ∈ S' ∨ x = at' G (j : Int) := fun x => by unfold addP; rw [if_neg hqS]; simp
 refine ⟨hr, fun x hx => ?_, fun x => ?_, ?_, fun x hx hs => ?_⟩
 · rcases (hm x).1 hx with h1 | rfl
   · exact h.t x h1
   · exact (dvB_iff.1 hd).tc fun a b hab => h.t _ hab
 · rw [h.p, hm, mem_cut hj h.n]
   constructor
   · rintro (q | q)
     · exact .inl (.inl q)
     · exact (Classical.em (x = at' G (j : Int))).elim (fun e => .inl (.inr e)) fun e => .inr ⟨q, e⟩
   · rintro ((q | rfl) | q)
     · exact .inl q
     · exact .inr hq
     · exact .inr q.1
 · rw [← List.eraseIdx_eq_take_drop_succ]; exact h.n.eraseIdx j
 · obtain ⟨q1, q2⟩ := (mem_cut hj h.n x).1 hx
   exact ((hm x).1 hs).elim (h.d x q1) q2
structure RemSays (E S l : List Pr) (re rs : RS) (E' S' G : List Pr) : Prop where
 e : RelOk E' re
 em : ∀ x, x ∈ E' ↔ x ∈ E ∧ x ∉ l
 s : RelOk S' rs
 sm : ∀ a b, (a, b) ∈ S' ↔ TC E' a b
 g : ∀ x, x ∈ G ↔ x ∈ S ∧ x ∉ S'
 gn : G.Nodup
theorem rem_says {S E E' S' G l : List Pr} {re rs : RS} (h : ∀ a b, (a, b) ∈ S ↔ TC E a b) (he : ∀ x, x ∈ E' ↔ x ∈ E ∧ x ∉ l) (hre : RelOk E' re) (ha : Again S E' S' G rs) (hd : ∀ x ∈ G.take G.length, dvB E' S' x = false) : RemSays E S l re rs E' S' G := by
 rw [List.take_length] at hd
 refine ⟨hre, he, ha.s, fun a b => ?_, fun x => ?_, ha.n⟩
 · refine tc_rest (E := E) (l := l) he (fun a b hab => ha.t _ hab) fun a b hab => ?_
   rcases (ha.p (a, b)).1 ((h a b).2 hab) with q | q
   · exact .inl q
   · refine .inr fun hv => ?_
     have := hd _ q
     rw [dvB_iff.2 hv] at this; cases this
 · rw [ha.p]
   exact ⟨fun q => ⟨.inr q, ha.d x q⟩, fun ⟨q, q2⟩ => q.resolve_left q2⟩
theorem nd_step {E' S' G : List Pr} {j : Nat} (hj : j < G.length) (h : ∀ x ∈ G.take j, dvB E' S' x = false) (hn : dvB E' S' (at' G (j : Int)) = false) : ∀ x ∈ G.take (j + 1), dvB E' S' x = false := fun x hx => by
 rw [List.take_succ_eq_append_getElem hj, List.mem_append, List.mem_singleton] at hx
 rw [at'_nat hj] at hn
 rcases hx with hx | rfl
 · exact h x hx
 · exact hn
theorem dr_perm0 {O B2 B3 : It} {X Y : List It} : (O :: B2 :: B3 :: (X ++ Y)).Perm ((O :: B2 :: B3 :: Y) ++ X) := ((List.perm_append_comm.cons _).cons _).cons _
theorem again_len {S E' S' G : List Pr} {r : RS} (h : Again S E' S' G r) : G.length ≤ S.length ∧ S'.length ≤ S.length := ⟨len_sub h.n fun x hx => (h.p x).2 (.inr hx), len_sub h.s.nd fun x hx => (h.p x).2 (.inl hx)⟩
end Go.Proofs.YtklhdalppmjnaaaGreatDoor
/- Walks through the Go functions dred.Dred).remove, as typed contracts. -/
namespace Go.Proofs.YtklhdalppmjnaaaGreatDoor
open Go Go.Gw Go.So Go.Tu Go.Jn
open Go.Dr hiding Pr
set_option linter.unusedVariables false
set_option linter.unusedSimpArgs false

set_option maxHeartbeats 1000000 in
set_option maxRecDepth 20000 in
/-- (*rhizome/dred.Dred).remove -/
theorem remove_fnD (d : DO) (n : Int) (re rs : RS) (E S l : List Pr) (he : RelOk E re) (hs : RelOk S rs) (hSi : ∀ x ∈ S, inP x) (hSE : ∀ a b, (a, b) ∈ S ↔ TC E a b) (hEl : E.length ≤ 100000) (hSl : S.length ≤ 10000) (hll : l.length ≤ 100) : Ct Tryz.prog 194 [IsV (pt d.g 0), SlT kPP l] (DrI d n re rs) (Int × RS × RS × List Pr × List Pr × List Pr) (fun q => SlT kPP q.2.2.2.2.2) (fun q => DrI d q.1 q.2.1 q.2.2.1) (fun q => RemSays E S l q.2.1 q.2.2.1 q.2.2.2.1 q.2.2.2.2.1 q.2.2.2.2.2) := by
 refine fn_intro Tryz.func194 rfl rfl ?_
 intro H w
 refine tr_perm (List.Perm.refl (BlkI d.g 106 kDr (dV d n) :: (RelI d.e re ++ RelI d.s rs))) (sq (te (ec 0 rfl (ec 1 rfl en)) (rg (oA (acts_box (d := kraw) (OT.raw (oT rfl) rfl)) pR rfl rfl (fun g0_0 _ => ?_)))))
 refine ak rfl (tn (nn (tr_scope (sq (te (ec 1 rfl (ec 2 rfl en)) (rg (ak rfl (tn (tr_nilItem 109 kPP (nn (sq (sq (te (ec 1 rfl (ec 2 rfl (ec 5 rfl en))) (rg (mv rfl rfl (oP (pls (oT rfl) Tryz.underlying273) rfl (oP (pu_move ot) rfl (tn (nn (tb (tr_loopK (σ := Nat × Value × List Pr) (ec 1 rfl (ec 2 rfl (ec 17 rfl (ec 18 rfl en)))) (fun s => [(19, I64 (s.1 : Int)), (5, IsV s.2.1)]) (fun s => OwnI 109 kPP s.2.1 s.2.2 :: BlkI g0_0 75 kraw (pt d.g 0) :: BlkI d.g 106 kDr (dV d n) :: (RelI d.e re ++ RelI d.s rs)) (fun s => s.1 ≤ l.length ∧ (∀ x : Pr, x ∈ s.2.2 ↔ hang S (l.take s.1) x) ∧ s.2.2.length ≤ s.1 * 100020001) (fun s => l.length - s.1) (0, nilS, []) ⟨Nat.zero_le _, fun x => by simp [hang], Nat.zero_le _⟩ ?_ (op pl) ?_)))))))))))))))))))))
 · exact (ec 19 rfl (ec 5 rfl en))
 · rintro ⟨k, u, X⟩ ⟨hkl, hX, hXl⟩
   dsimp only at hkl hX hXl ⊢
   refine sq (te (ec 1 rfl (ec 2 rfl (ec 5 rfl (ec 17 rfl (ec 18 rfl (ec 19 rfl en)))))) (rg (oP (pu_lss (oT rfl) (oT rfl)) rfl (tn (nn (sq (tc (oT rfl) (fun c20 => ?_) (fun c20 => ?_))))))))
   · refine sk (nn (sq (tb (sq (te (ec 1 rfl (ec 2 rfl (ec 5 rfl (ec 17 rfl (ec 18 rfl (ec 19 rfl en)))))) ?_)))))
     have hk : k < l.length := by simp only [decide_eq_true_eq] at c20; omega
     obtain ⟨p, hp⟩ : ∃ p, at' l (k : Int) = p := ⟨_, rfl⟩
     refine rg (oP (pu_index (oT rfl) (oT rfl) Tryz.underlying273 y92 (by omega) (by omega)) rfl (oP (pL (oT rfl) y92) rfl (oA (acts_alloc (zPr)) pR rfl rfl (fun g4_2 _ => ?_))))
     refine oA (asv (oT rfl) (oT rfl) (by exact pA 0 rfl) y92) (by exact pA 0 rfl) rfl rfl (fun _ _ => ?_)
     refine tn ?_
     rw [hp]
     refine nn (sq (te (ec 1 rfl (ec 2 rfl (ec 5 rfl (ec 7 rfl (ec 17 rfl (ec 18 rfl (ec 19 rfl en))))))) ?_))
     apply tr_anyG (ρ := Value × List Int) (φ := fun rr => rr.2.Perm (rowS (sdB true rs) p.1 ++ [p.1])) (p := 9) (Lf := fun c rr => cond c (OwnI 3 kI rr.1 rr.2 :: BlkI g4_2 109 kPP p :: OwnI 109 kPP u X :: BlkI g0_0 75 kraw (pt d.g 0) :: BlkI d.g 106 kDr (dV d n) :: (RelI d.e re ++ RelI d.s rs)) (BlkI g4_2 109 kPP p :: OwnI 109 kPP u X :: BlkI g0_0 75 kraw (pt d.g 0) :: BlkI d.g 106 kDr (dV d n) :: (RelI d.e re ++ RelI d.s rs))) (nilS, []) (by kernel_rfl) (m := 12) (ns := [[(7, none)], [(23, some 0)], [(2, none)], [(25, some 2)], [(26, some 3)], [(27, some 4)], [(28, some 5)], [(29, some 6)], [(30, some 7)], [(24, some 1), (31, some 8)], [(32, some 9)], []]) (by kernel_rfl) (by kernel_rfl) (Ts := fun rr => [_, _, _, _, _, _, _, _, _, IsV rr.1, I64 (rr.2.length : Int), _]) (fun _ => rfl)
     case hops =>
      refine ⟨?_, ?_, ?_, ?_, ?_, ?_, ?_, ?_, ?_, ?_, ?_, ?_, trivial⟩
      · exact ⟨cBf (by kernel_rfl) fun r _ => rgo r rfl ⟨rfl, trivial⟩ (rP (pu_pair_var0 (oT rfl) (by exact mA 0 rfl) Tryz.underlying109 y2)), fun _ _ _ _ => rfl⟩
      · exact ⟨cBf (by kernel_rfl) fun r _ => rgo r rfl ⟨rfl, trivial⟩ (rP (pu_load_p0 (oT rfl) (by exact mA 0 rfl) y2)), fun _ _ _ _ => rfl⟩
      · exact ⟨cBf (by kernel_rfl) fun r _ => rgo r rfl ⟨rfl, trivial⟩ (rP (pu_load_rawv (oT rfl) (by exact mA 2 rfl) y103)), fun _ _ _ _ => rfl⟩
      · exact ⟨cBf (by kernel_rfl) fun r _ => rgo r rfl ⟨rfl, trivial⟩ (rP (pu_nilCheck (oT rfl))), fun _ _ _ _ => rfl⟩
      · exact ⟨cBf (by kernel_rfl) fun r _ => rgo r rfl ⟨rfl, trivial⟩ (rP (pf (oT rfl) y104)), fun _ _ _ _ => rfl⟩
      · exact ⟨cBf (by kernel_rfl) fun r _ => rgo r rfl ⟨rfl, trivial⟩ (rP (pu_load_rawf (oT rfl) (by exact mA 3 rfl) ld2 y105)), fun _ _ _ _ => rfl⟩
      · exact ⟨cBf (by kernel_rfl) fun r _ => rgo r rfl ⟨rfl, trivial⟩ (rP (pu_nilCheck (oT rfl))), fun _ _ _ _ => rfl⟩
      · exact ⟨cBf (by kernel_rfl) fun r _ => rgo r rfl ⟨rfl, trivial⟩ (rP (pf (oT rfl) y94)), fun _ _ _ _ => rfl⟩
      · exact ⟨cBf (by kernel_rfl) fun r _ => rgo r rfl ⟨rfl, trivial⟩ (rP (pu_load_rawf (oT rfl) (List.mem_cons_of_mem _ (List.mem_cons_of_mem _ (List.mem_cons_of_mem _ (List.mem_cons_of_mem _ (List.mem_append_right _ List.mem_cons_self))))) lre1 y91)), fun _ _ _ _ => rfl⟩
      · refine ⟨?_, ?_⟩
        · exact cBf (by kernel_rfl) fun r _ => ropg_acts rfl (aC (around_fn d.s rs S true p.1 hs hSi (by omega)) y111 (oc (oT rfl) (oc (oT rfl) oN)) (perm_tl2 (X := [_, _, _, _]) (Y := RelI d.e re))) (perm_tl2 (X := [_, _, _, _]) (Y := RelI d.e re)) (fun r => (List.Perm.cons _ (perm_tl2 (X := [_, _, _, _]) (Y := RelI d.e re)).symm)) (fun _ h _ => h) (fun _ _ _ _ h => h)
        · exact fun _ h => absurd h (by decide)
      · refine ⟨?_, ?_⟩
        · exact cBt (by kernel_rfl) fun r _ => rgo r rfl ⟨rfl, trivial⟩ (rP (pu_len_own (oT rfl) (by exact mA 0 rfl) Tryz.underlying50))
        · exact fun h => Bool.noConfusion (h.symm.trans (by kernel_rfl : okFlag _ _ _ _ = false))
      · exact ⟨by intro c r hc; cases c <;> exact rgo r rfl ⟨rfl, trivial⟩ (rP (pu_move ot)), fun _ _ _ _ => rfl⟩
     case h =>
      intro q hq
      refine tn ?_
      have hql := ar_len hs hq
      have hqm := ar_T hs hq
      refine tr_freeze (perm_at 0 rfl) 32 (oT rfl) (nn (tb (tr_loopK (σ := Nat × Value × List Pr) (ec 1 rfl (ec 2 rfl (ec 7 rfl (ec 17 rfl (ec 18 rfl (ec 19 rfl (ec 32 rfl (ec 33 rfl en)))))))) (fun s => [(34, I64 (s.1 : Int)), (5, IsV s.2.1)]) (fun s => BlkI g4_2 109 kPP p :: OwnI 109 kPP s.2.1 s.2.2 :: BlkI g0_0 75 kraw (pt d.g 0) :: BlkI d.g 106 kDr (dV d n) :: (RelI d.e re ++ RelI d.s rs)) (fun s => s.1 ≤ q.2.length ∧ (∀ x : Pr, x ∈ s.2.2 ↔ x ∈ X ∨ (x.1 ∈ q.2.take s.1 ∧ arF S p.2 x.2)) ∧ s.2.2.length ≤ X.length + s.1 * 10001) (fun s => q.2.length - s.1) (0, u, X) ⟨Nat.zero_le _, fun x => by simp, by simp⟩ ?_ (op pl) ?_)))
      · exact (ec 34 rfl (ec 5 rfl en))
      · rintro ⟨i, u1, X1⟩ ⟨hil, hX1, hX1l⟩
        dsimp only at hil hX1 hX1l ⊢
        refine sq (te (ec 1 rfl (ec 2 rfl (ec 5 rfl (ec 7 rfl (ec 17 rfl (ec 18 rfl (ec 19 rfl (ec 32 rfl (ec 33 rfl (ec 34 rfl en)))))))))) (rg (oP (pu_lss (oT rfl) (oT rfl)) rfl (tn (nn (sq (tc (oT rfl) (fun c35 => ?_) (fun c35 => ?_))))))))
        · refine sk (nn (sq (tb (sq (te (ec 1 rfl (ec 2 rfl (ec 5 rfl (ec 7 rfl (ec 17 rfl (ec 18 rfl (ec 19 rfl (ec 32 rfl (ec 33 rfl (ec 34 rfl en)))))))))) ?_)))))
          have hi : i < q.2.length := by simp only [decide_eq_true_eq] at c35; omega
          obtain ⟨a, ha⟩ : ∃ a, at' q.2 (i : Int) = a := ⟨_, rfl⟩
          refine rg (oP (pu_index (oT rfl) (oT rfl) Tryz.underlying50 y2 (by omega) (by omega)) rfl (oP (pL (oT rfl) y2) rfl (av rfl rfl (tn ?_))))
          rw [ha]
          refine nn (sq (te (ec 1 rfl (ec 2 rfl (ec 5 rfl (ec 7 rfl (ec 9 rfl (ec 17 rfl (ec 18 rfl (ec 19 rfl (ec 32 rfl (ec 33 rfl (ec 34 rfl en))))))))))) ?_))
          apply tr_anyG (ρ := Value × List Int) (φ := fun rr => rr.2.Perm (rowS (sdB false rs) p.2 ++ [p.2])) (p := 9) (Lf := fun c rr => cond c (OwnI 3 kI rr.1 rr.2 :: BlkI g4_2 109 kPP p :: OwnI 109 kPP u1 X1 :: BlkI g0_0 75 kraw (pt d.g 0) :: BlkI d.g 106 kDr (dV d n) :: (RelI d.e re ++ RelI d.s rs)) (BlkI g4_2 109 kPP p :: OwnI 109 kPP u1 X1 :: BlkI g0_0 75 kraw (pt d.g 0) :: BlkI d.g 106 kDr (dV d n) :: (RelI d.e re ++ RelI d.s rs))) (nilS, []) (by kernel_rfl) (m := 12) (ns := [[(7, none)], [(38, some 0)], [(2, none)], [(40, some 2)], [(41, some 3)], [(42, some 4)], [(43, some 5)], [(44, some 6)], [(45, some 7)], [(39, some 1), (46, some 8)], [(47, some 9)], []]) (by kernel_rfl) (by kernel_rfl) (Ts := fun rr => [_, _, _, _, _, _, _, _, _, IsV rr.1, I64 (rr.2.length : Int), _]) (fun _ => rfl)
          case hops =>
           refine ⟨?_, ?_, ?_, ?_, ?_, ?_, ?_, ?_, ?_, ?_, ?_, ?_, trivial⟩
           · exact ⟨cBf (by kernel_rfl) fun r _ => rgo r rfl ⟨rfl, trivial⟩ (rP (pu_pair_var1 (oT rfl) (by exact mA 0 rfl) Tryz.underlying109 y2)), fun _ _ _ _ => rfl⟩
           · exact ⟨cBf (by kernel_rfl) fun r _ => rgo r rfl ⟨rfl, trivial⟩ (rP (pu_load_p1 (oT rfl) (by exact mA 0 rfl) y2)), fun _ _ _ _ => rfl⟩
           · exact ⟨cBf (by kernel_rfl) fun r _ => rgo r rfl ⟨rfl, trivial⟩ (rP (pu_load_rawv (oT rfl) (by exact mA 2 rfl) y103)), fun _ _ _ _ => rfl⟩
           · exact ⟨cBf (by kernel_rfl) fun r _ => rgo r rfl ⟨rfl, trivial⟩ (rP (pu_nilCheck (oT rfl))), fun _ _ _ _ => rfl⟩
           · exact ⟨cBf (by kernel_rfl) fun r _ => rgo r rfl ⟨rfl, trivial⟩ (rP (pf (oT rfl) y104)), fun _ _ _ _ => rfl⟩
           · exact ⟨cBf (by kernel_rfl) fun r _ => rgo r rfl ⟨rfl, trivial⟩ (rP (pu_load_rawf (oT rfl) (by exact mA 3 rfl) ld2 y105)), fun _ _ _ _ => rfl⟩
           · exact ⟨cBf (by kernel_rfl) fun r _ => rgo r rfl ⟨rfl, trivial⟩ (rP (pu_nilCheck (oT rfl))), fun _ _ _ _ => rfl⟩
           · exact ⟨cBf (by kernel_rfl) fun r _ => rgo r rfl ⟨rfl, trivial⟩ (rP (pf (oT rfl) y90)), fun _ _ _ _ => rfl⟩
           · exact ⟨cBf (by kernel_rfl) fun r _ => rgo r rfl ⟨rfl, trivial⟩ (rP (pu_load_rawf (oT rfl) (List.mem_cons_of_mem _ (List.mem_cons_of_mem _ (List.mem_cons_of_mem _ (List.mem_cons_of_mem _ (List.mem_append_right _ List.mem_cons_self))))) lre0 y91)), fun _ _ _ _ => rfl⟩
           · refine ⟨?_, ?_⟩
             · exact cBf (by kernel_rfl) fun r _ => ropg_acts rfl (aC (around_fn d.s rs S false p.2 hs hSi (by omega)) y111 (oc (oT rfl) (oc (oT rfl) oN)) (perm_tl2 (X := [_, _, _, _]) (Y := RelI d.e re))) (perm_tl2 (X := [_, _, _, _]) (Y := RelI d.e re)) (fun r => (List.Perm.cons _ (perm_tl2 (X := [_, _, _, _]) (Y := RelI d.e re)).symm)) (fun _ h _ => h) (fun _ _ _ _ h => h)
             · exact fun _ h => absurd h (by decide)
           · refine ⟨?_, ?_⟩
             · exact cBt (by kernel_rfl) fun r _ => rgo r rfl ⟨rfl, trivial⟩ (rP (pu_len_own (oT rfl) (by exact mA 0 rfl) Tryz.underlying50))
             · exact fun h => Bool.noConfusion (h.symm.trans (by kernel_rfl : okFlag _ _ _ _ = false))
           · exact ⟨by intro c r hc; cases c <;> exact rgo r rfl ⟨rfl, trivial⟩ (rP (pu_move ot)), fun _ _ _ _ => rfl⟩
          case h =>
           intro q2 hq2
           refine tn ?_
           have hql2 := ar_len hs hq2
           have hqm2 := ar_F hs hq2
           refine tr_freeze (perm_at 0 rfl) 47 (oT rfl) (nn (tb (tr_loopK (σ := Nat × Value × List Pr) (ec 1 rfl (ec 2 rfl (ec 7 rfl (ec 9 rfl (ec 17 rfl (ec 18 rfl (ec 19 rfl (ec 32 rfl (ec 33 rfl (ec 34 rfl (ec 47 rfl (ec 48 rfl en)))))))))))) (fun s => [(49, I64 (s.1 : Int)), (5, IsV s.2.1)]) (fun s => BlkI g4_2 109 kPP p :: OwnI 109 kPP s.2.1 s.2.2 :: BlkI g0_0 75 kraw (pt d.g 0) :: BlkI d.g 106 kDr (dV d n) :: (RelI d.e re ++ RelI d.s rs)) (fun s => s.1 ≤ q2.2.length ∧ (∀ x : Pr, x ∈ s.2.2 ↔ x ∈ X1 ∨ (x.1 = a ∧ x.2 ∈ q2.2.take s.1)) ∧ s.2.2.length ≤ X1.length + s.1) (fun s => q2.2.length - s.1) (0, u1, X1) ⟨Nat.zero_le _, fun x => by simp, Nat.le_refl _⟩ ?_ (op pl) ?_)))
           · exact (ec 49 rfl (ec 5 rfl en))
           · rintro ⟨j, u2, X2⟩ ⟨hjl, hX2, hX2l⟩
             dsimp only at hjl hX2 hX2l ⊢
             refine sq (te (ec 1 rfl (ec 2 rfl (ec 5 rfl (ec 7 rfl (ec 9 rfl (ec 17 rfl (ec 18 rfl (ec 19 rfl (ec 32 rfl (ec 33 rfl (ec 34 rfl (ec 47 rfl (ec 48 rfl (ec 49 rfl en)))))))))))))) (rg (oP (pu_lss (oT rfl) (oT rfl)) rfl (tn (nn (sq (tc (oT rfl) (fun c50 => ?_) (fun c50 => ?_))))))))
             · refine sk (nn (sq (tb (sq (te (ec 1 rfl (ec 2 rfl (ec 5 rfl (ec 7 rfl (ec 9 rfl (ec 17 rfl (ec 18 rfl (ec 19 rfl (ec 32 rfl (ec 33 rfl (ec 34 rfl (ec 47 rfl (ec 48 rfl (ec 49 rfl en)))))))))))))) ?_)))))
               have hj : j < q2.2.length := by simp only [decide_eq_true_eq] at c50; omega
               obtain ⟨b, hb⟩ : ∃ b, at' q2.2 (j : Int) = b := ⟨_, rfl⟩
               have hst := rem_s2 hj hX2
               rw [hb] at hst
               refine rg (oP (pu_index (oT rfl) (oT rfl) Tryz.underlying50 y2 (by omega) (by omega)) rfl (oP (pL (oT rfl) y2) rfl (av rfl rfl (tn ?_))))
               rw [hb]
               refine nn (te (ec 1 rfl (ec 2 rfl (ec 5 rfl (ec 7 rfl (ec 9 rfl (ec 11 rfl (ec 17 rfl (ec 18 rfl (ec 19 rfl (ec 32 rfl (ec 33 rfl (ec 34 rfl (ec 47 rfl (ec 48 rfl (ec 49 rfl en))))))))))))))) (rg (mv rfl rfl (mv rfl rfl (mv rfl rfl (oP (pu_build_arr (d := kPP) (v0 := (0, 0)) (agg := false) Tryz.underlying109 y2 zPr rfl (fills_cons rfl Lens.p0 (oT rfl) (fills_cons rfl Lens.p1 (oT rfl) fills_nil))) rfl (oA (acts_lit (d := kPP) (v0 := (0, 0)) y112 y92 zPr (show 1 * 2 ≤ 16777216 from by decide) (by decide) (fills_arr rfl rfl (by decide) (oT rfl) fills_nil)) pR rfl rfl (fun _ _ => ?_))))))))
               refine oA (acts_append (oT rfl) (by exact pA 1 rfl) (oT rfl) y112 (by (simp; omega)) (by (simp [maxLen]; omega))) (by exact pA 1 rfl) rfl rfl (fun v11_5 _ => ?_)
               refine av rfl rfl (tn (bn (nn (te (ec 1 rfl (ec 2 rfl (ec 5 rfl (ec 7 rfl (ec 9 rfl (ec 17 rfl (ec 18 rfl (ec 19 rfl (ec 32 rfl (ec 33 rfl (ec 34 rfl (ec 47 rfl (ec 48 rfl (ec 49 rfl en)))))))))))))) (rg (oP (pad (oT rfl) ot (by omega)) rfl (mv rfl rfl (tn (nn ?_)))))))))
               exact tg (j + 1, v11_5, X2 ++ [(a, b)]) ⟨hj, hst, (by show (X2 ++ [(a, b)]).length ≤ X1.length + (j + 1); rw [List.length_append, List.length_singleton]; omega)⟩ (by show q2.2.length - (j + 1) < q2.2.length - j; omega) (ea (ec 49 rfl (ec 5 rfl en)) (ec 1 rfl (ec 2 rfl (ec 7 rfl (ec 9 rfl (ec 17 rfl (ec 18 rfl (ec 19 rfl (ec 32 rfl (ec 33 rfl (ec 34 rfl (ec 47 rfl (ec 48 rfl en))))))))))))) (op (pc 1 rfl (pc 0 rfl pl)))
             · refine tr_exit (tx (tx (bh (bn (nn (te (ec 1 rfl (ec 2 rfl (ec 5 rfl (ec 7 rfl (ec 17 rfl (ec 18 rfl (ec 19 rfl (ec 32 rfl (ec 33 rfl (ec 34 rfl en)))))))))) ?_))))))
               obtain rfl : j = q2.2.length := by simp only [decide_eq_false_iff_not] at c50; omega
               rw [← ha] at hX2
               have hst1 := rem_s1 hi hqm2 hX1 hX2
               refine rg (oP (pad (oT rfl) ot (by omega)) rfl (mv rfl rfl (tn (nn ?_))))
               exact tg (i + 1, u2, X2) ⟨hi, hst1, (by show X2.length ≤ X.length + (i + 1) * 10001; omega)⟩ (by show q.2.length - (i + 1) < q.2.length - i; omega) (ea (ec 34 rfl (ec 5 rfl en)) (ec 1 rfl (ec 2 rfl (ec 7 rfl (ec 17 rfl (ec 18 rfl (ec 19 rfl (ec 32 rfl (ec 33 rfl en))))))))) (op pl)
        · refine tr_exit (tx (tx (bh (bn (nn (te (ec 1 rfl (ec 2 rfl (ec 5 rfl (ec 17 rfl (ec 18 rfl (ec 19 rfl en)))))) ?_))))))
          obtain rfl : i = q.2.length := by simp only [decide_eq_false_iff_not] at c35; omega
          rw [← hp] at hX1 hqm
          have hst0 := rem_s0 hk hqm hX hX1
          refine rg (oP (pad (oT rfl) ot (by omega)) rfl (mv rfl rfl (tn (nn ?_))))
          exact tg (k + 1, u1, X1) ⟨hk, hst0, (by show X1.length ≤ (k + 1) * 100020001; omega)⟩ (by show l.length - (k + 1) < l.length - k; omega) (ea (ec 19 rfl (ec 5 rfl en)) (ec 1 rfl (ec 2 rfl (ec 17 rfl (ec 18 rfl en))))) (op (pd pl))
   · refine tr_exit (tx (tx (bh (nn (sq (sq (te (ec 1 rfl (ec 2 rfl (ec 5 rfl en))) ?_)))))))
     obtain rfl : k = l.length := by simp only [decide_eq_false_iff_not] at c20; omega
     rw [List.take_length] at hX
     refine rg (mv rfl rfl (oP (pls (oT rfl) Tryz.underlying273) rfl (oP (pu_move ot) rfl (tn (nn (tb (tr_loopK (σ := Nat × RS × List Pr) (ec 2 rfl (ec 5 rfl (ec 62 rfl (ec 63 rfl en)))) (fun s => [(64, I64 (s.1 : Int))]) (fun s => OwnI 109 kPP u X :: BlkI g0_0 75 kraw (pt d.g 0) :: BlkI d.g 106 kDr (dV d n) :: (RelI d.e s.2.1 ++ RelI d.s rs)) (fun s => s.1 ≤ l.length ∧ RelOk s.2.2 s.2.1 ∧ (∀ x : Pr, x ∈ s.2.2 ↔ x ∈ E ∧ x ∉ l.take s.1) ∧ s.2.2.length ≤ E.length) (fun s => l.length - s.1) (0, re, E) ⟨Nat.zero_le _, he, fun x => by simp, Nat.le_refl _⟩ ?_ (op pl) ?_)))))))
     · exact (ec 64 rfl en)
     · rintro ⟨k2, rk, Ek⟩ ⟨hk2l, hrk, hEk, hEkl⟩
       dsimp only at hk2l hrk hEk hEkl ⊢
       refine sq (te (ec 2 rfl (ec 5 rfl (ec 62 rfl (ec 63 rfl (ec 64 rfl en))))) (rg (oP (pu_lss (oT rfl) (oT rfl)) rfl (tn (nn (sq (tc (oT rfl) (fun c65 => ?_) (fun c65 => ?_))))))))
       · refine sk (nn (sq (tb (sq (te (ec 2 rfl (ec 5 rfl (ec 62 rfl (ec 63 rfl (ec 64 rfl en))))) ?_)))))
         have hk2 : k2 < l.length := by simp only [decide_eq_true_eq] at c65; omega
         obtain ⟨p, hp⟩ : ∃ p, at' l (k2 : Int) = p := ⟨_, rfl⟩
         refine rg (oP (pu_index (oT rfl) (oT rfl) Tryz.underlying273 y92 (by omega) (by omega)) rfl (oP (pL (oT rfl) y92) rfl (oA (acts_alloc (zPr)) pR rfl rfl (fun g17_2 _ => ?_))))
         refine oA (asv (oT rfl) (oT rfl) (by exact pA 0 rfl) y92) (by exact pA 0 rfl) rfl rfl (fun _ _ => ?_)
         refine tn ?_
         rw [hp]
         refine nn (te (ec 2 rfl (ec 5 rfl (ec 13 rfl (ec 62 rfl (ec 63 rfl (ec 64 rfl en)))))) ?_)
         apply tr_any (m := 5) (ns := [[(2, none)], [(68, some 0)], [(69, some 1)], [(70, some 2)], [(13, none)]]) (by kernel_rfl) (by kernel_rfl) (Ts := [_, _, _, _, _]) rfl
         case hops =>
          refine ⟨?_, ?_, ?_, ?_, ?_, trivial⟩
          · exact rP (pu_load_rawv (oT rfl) (by exact mA 2 rfl) y103)
          · exact rP (pu_nilCheck (oT rfl))
          · exact rP (pf (oT rfl) y110)
          · exact rP (pu_load_rawf (oT rfl) (by exact mA 3 rfl) ld1 y105)
          · exact rP (plv (oT rfl) (by exact mA 0 rfl) y92)
         case h =>
          refine op_midl [_, _, _, _] (RelI d.s rs) rfl (aC (dDrop_fn d.e rk Ek p hrk (by omega)) y107 (oc (oT rfl) (oc (oT rfl) oN)) (perm_mid0 [_, _, _, _] (RelI d.e rk) (RelI d.s rs))) rfl rfl fun rk2 hrk2 => (tn ?_)
          have hme := rem_e hk2 hrk.nd hEk
          rw [hp] at hme
          have hle := List.length_erase_le (a := p) (l := Ek)
          refine bn (nn (te (ec 2 rfl (ec 5 rfl (ec 62 rfl (ec 63 rfl (ec 64 rfl en))))) (rg (oP (pad (oT rfl) ot (by omega)) rfl (mv rfl rfl (tn (nn ?_)))))))
          exact tg (k2 + 1, rk2, Ek.erase p) ⟨hk2, hrk2, hme, (by show (Ek.erase p).length ≤ E.length; omega)⟩ (by show l.length - (k2 + 1) < l.length - k2; omega) (ea (ec 64 rfl en) (ec 2 rfl (ec 5 rfl (ec 62 rfl (ec 63 rfl en))))) (op (pd pl))
       · refine tr_exit (tx (tx (bh (nn (sq (te (ec 2 rfl (ec 5 rfl en)) ?_))))))
         obtain rfl : k2 = l.length := by simp only [decide_eq_false_iff_not] at c65; omega
         rw [List.take_length] at hEk
         have hv0 : invR X.length (rs, S) := ⟨hs, by show S.length + X.length ≤ _; omega⟩
         refine rg (mv rfl rfl (oP (pu_makeFunc (caps_cons (oT rfl) caps_nil)) rfl (oA (aC (DeleteD_fn (JdR d n g0_0) invR stpDrop _ u X (rs, S) (by omega) hv0 (drop_test d n g0_0)) y113 (oc (oT rfl) (oc (oT rfl) oN)) dr_perm0) dr_perm0 rfl rfl fun q3 hq3 => (av rfl rfl (tn ?_)))))
         have hag0 := again_start hSE hs.nd hEk hX hq3.1 hq3.2.1
         have hal0 := again_len hag0
         refine tr_perm dr_perm0.symm (nn (sq (te (ec 2 rfl (ec 5 rfl en)) (rg (mv rfl rfl (oP (pu_len_own (oT rfl) (by exact mA 0 rfl) Tryz.underlying273) rfl ?_))))))
         refine av rfl rfl (tn (nn (sq (tr_label (nn (tb (tr_loopK (σ := Value × List Pr × RS × List Pr) (ec 2 rfl (ec 14 rfl en)) (fun s => [(5, IsV s.1)]) (fun s => OwnI 109 kPP s.1 s.2.1 :: BlkI g0_0 75 kraw (pt d.g 0) :: BlkI d.g 106 kDr (dV d n) :: (RelI d.e rk ++ RelI d.s s.2.2.1)) (fun s => Again S Ek s.2.2.2 s.2.1 s.2.2.1) (fun s => s.2.1.length) (q3.1, q3.2.1, q3.2.2.1, q3.2.2.2) hag0 ?_ (op pl) ?_)))))))
         · exact (ec 5 rfl en)
         · rintro ⟨u, G, rs2, S2⟩ hag
           dsimp only at hag ⊢
           refine tb (sq (sq (te (ec 2 rfl (ec 5 rfl (ec 14 rfl en))) ?_)))
           have hal := again_len hag
           refine rg (mv rfl rfl (oP (pu_len_own (oT rfl) (by exact mA 0 rfl) Tryz.underlying273) rfl ?_))
           refine oP (pu_move ot) rfl (tn (nn (tb (tr_loopK (σ := Nat) (ec 2 rfl (ec 14 rfl (ec 80 rfl (ec 81 rfl en)))) (fun j => [(82, I64 (j : Int)), (5, IsV u)]) (fun j => OwnI 109 kPP u G :: BlkI g0_0 75 kraw (pt d.g 0) :: BlkI d.g 106 kDr (dV d n) :: (RelI d.e rk ++ RelI d.s rs2)) (fun j => j ≤ G.length ∧ ∀ x ∈ G.take j, dvB Ek S2 x = false) (fun j => G.length - j) 0 ⟨Nat.zero_le _, fun x h => by simp at h⟩ ?_ (op pl) ?_))))
           · exact (ec 82 rfl (ec 5 rfl en))
           · rintro j ⟨hjl, hnd⟩
             refine sq (te (ec 2 rfl (ec 5 rfl (ec 14 rfl (ec 80 rfl (ec 81 rfl (ec 82 rfl en)))))) (rg (oP (pu_lss (oT rfl) (oT rfl)) rfl (tn (nn (sq (tc (oT rfl) (fun c83 => ?_) (fun c83 => ?_))))))))
             · refine sk (nn (sq (tb (sq (te (ec 2 rfl (ec 5 rfl (ec 14 rfl (ec 80 rfl (ec 81 rfl (ec 82 rfl en)))))) ?_)))))
               have hj : j < G.length := by simp only [decide_eq_true_eq] at c83; omega
               obtain ⟨x, hx⟩ : ∃ x, at' G (j : Int) = x := ⟨_, rfl⟩
               refine rg (mv rfl rfl (oP (pio (oT rfl) (by exact mA 0 rfl) (oT rfl) Tryz.underlying273 y92 (by omega) (by omega)) rfl ?_))
               refine oP (plo (oT rfl) (by exact mA 0 rfl) (by omega) (by omega) y92) rfl ?_
               refine oA (acts_alloc (zPr)) pR rfl rfl (fun g24_3 _ => ?_)
               refine av rfl rfl (oA (asv (oT rfl) (oT rfl) (by exact pA 0 rfl) y92) (by exact pA 0 rfl) rfl rfl (fun _ _ => ?_))
               refine tn ?_
               rw [hx]
               refine nn (sq (te (ec 2 rfl (ec 5 rfl (ec 14 rfl (ec 15 rfl (ec 16 rfl (ec 80 rfl (ec 81 rfl (ec 82 rfl en)))))))) (rg (oP (pu_load_rawv (oT rfl) (by exact mA 2 rfl) y103) rfl ?_))))
               refine oP (plv (oT rfl) (by exact mA 0 rfl) y92) rfl ?_
               refine op_tl [_, _, _] rfl (aC (derived_fn d n rk rs2 Ek S2 x hrk hag.s) y114 (oc (oT rfl) (oc (oT rfl) oN)) (perm_tl (X := [_, _, _]))) rfl rfl fun _ _ => (tn (nn (tc (oT rfl) (fun c89 => ?_) (fun c89 => ?_))))
               · rw [← hx] at c89
                 have hdv := c89
                 rw [hx] at hdv
                 refine tr_perm (List.Perm.refl (BlkI g24_3 109 kPP x :: OwnI 109 kPP u G :: BlkI g0_0 75 kraw (pt d.g 0) :: BlkI d.g 106 kDr (dV d n) :: (RelI d.e rk ++ RelI d.s rs2))) (sq (te (ec 2 rfl (ec 5 rfl (ec 14 rfl (ec 15 rfl (ec 16 rfl en))))) ?_))
                 apply tr_any (m := 5) (ns := [[(2, none)], [(90, some 0)], [(91, some 1)], [(92, some 2)], [(16, none)]]) (by kernel_rfl) (by kernel_rfl) (Ts := [_, _, _, _, _]) rfl
                 case hops =>
                  refine ⟨?_, ?_, ?_, ?_, ?_, trivial⟩
                  · exact rP (pu_load_rawv (oT rfl) (by exact mA 2 rfl) y103)
                  · exact rP (pu_nilCheck (oT rfl))
                  · exact rP (pf (oT rfl) y104)
                  · exact rP (pu_load_rawf (oT rfl) (by exact mA 3 rfl) ld2 y105)
                  · exact rP (plv (oT rfl) (by exact mA 0 rfl) y92)
                 case h =>
                  refine op_tl2 [_, _, _, _] (RelI d.e rk) rfl (aC (dPut_fn d.s rs2 S2 x hag.s (by omega)) y106 (oc (oT rfl) (oc (oT rfl) oN)) (perm_tl2 (X := [_, _, _, _]) (Y := (RelI d.e rk)))) rfl rfl fun r3 hr3 => (tn (nn (sq (te (ec 2 rfl (ec 5 rfl (ec 14 rfl (ec 15 rfl en)))) ?_))))
                  have hr3b := hr3
                  rw [← hx] at hr3b
                  have hag3 := again_step hag hj c89 hr3b
                  rw [hx] at hag3
                  have hcl : (G.take j ++ G.drop (j + 1)).length < G.length := by rw [List.length_append, List.length_take, List.length_drop]; omega
                  exact rg (mv rfl rfl (mv rfl rfl (mv rfl rfl (oP (pad (oT rfl) ot (by omega)) rfl (oA (aC (DeleteR_fn u G j (by omega) hj) y115 (oc (oT rfl) (oc (oT rfl) (oc (oT rfl) oN))) (perm_at 1 rfl)) (perm_at 1 rfl) rfl rfl fun u2 _ => (av rfl rfl (tn (nn (tr_exit (block_pass rfl (tx (tx (block_pass rfl (tx (bh (nn (tg (u2, G.take j ++ G.drop (j + 1), r3, addP S2 x) hag3 hcl (ea (ec 5 rfl en) (ec 2 rfl (ec 14 rfl en))) (op (pc 0 rfl (pd pl))))))))))))))))))))
               · rw [← hx] at c89
                 have hnd2 := nd_step hj hnd c89
                 refine sk (bn (nn (te (ec 2 rfl (ec 5 rfl (ec 14 rfl (ec 80 rfl (ec 81 rfl (ec 82 rfl en)))))) (rg (oP (pad (oT rfl) ot (by omega)) rfl (mv rfl rfl (tn (nn ?_))))))))
                 exact tg (j + 1) ⟨hj, hnd2⟩ (by show G.length - (j + 1) < G.length - j; omega) (ea (ec 82 rfl (ec 5 rfl en)) (ec 2 rfl (ec 14 rfl (ec 80 rfl (ec 81 rfl en))))) (op (pd pl))
             · refine tr_exit (tx (tx (bh (nn (sq (te (ec 2 rfl (ec 5 rfl (ec 14 rfl en))) ?_))))))
               obtain rfl : j = G.length := by simp only [decide_eq_false_iff_not] at c83; omega
               have hsay := rem_says hSE hEk hrk hag hnd
               refine rg (oP (pu_load_rawv (oT rfl) (by exact mA 1 rfl) y103) rfl ?_)
               refine mv rfl rfl (mv rfl rfl (oP (pu_len_own (oT rfl) (by exact mA 0 rfl) Tryz.underlying273) rfl ?_))
               refine oP (pu_sub' (oT rfl) (oT rfl) (by omega)) rfl (oP (pu_nilCheck (oT rfl)) rfl (oP (pf (oT rfl) y116) rfl (oA (acts_store_blk (oT rfl) (oT rfl) (by exact pA 2 rfl) ld3 y2) (by exact pA 2 rfl) rfl rfl (fun _ _ => ?_))))
               exact tn (nn (sq (te (ec 5 rfl en) (rg (mv rfl rfl (av rfl rfl (tn (tr_freeze (perm_at 1 rfl) 4 (oT rfl) (nn (tR (block_ret (tt (block_ret (scope_ret (ret_one .ret (.inl rfl) rfl (_, rk, rs2, Ek, S2, G) (oT rfl) hsay (pc 0 rfl (pd pl)))))))))))))))))
end Go.Proofs.YtklhdalppmjnaaaGreatDoor
/- What a dred does with edges that come, or go. Plain. -/
namespace Go.Proofs.YtklhdalppmjnaaaGreatDoor
open Go Go.Gw Go.So Go.Tu Go.Jn Go.MapKept
open Go.Dr hiding Pr
set_option linter.unusedVariables false
set_option linter.unusedSimpArgs false
def chkD (lab : Lab) (E : List Pr) (add : Bool) : List Pr → List Ed → Int × List Pr
 | pre, [] => (0, pre)
 | pre, e :: es => if e.2.1 = lab then (if (!add && !decide ((e.1, e.2.2) ∈ E)) = true then (4, pre) else if ((add && decide ((e.1, e.2.2) ∈ E)) || decide ((e.1, e.2.2) ∈ pre)) = true then (2, pre) else chkD lab E add (pre ++ [(e.1, e.2.2)]) es) else chkD lab E add pre es
theorem chk_at {lab : Lab} {E L : List Pr} {add : Bool} {es : List Ed} {k : Nat} (hk : k < es.length) {e : Ed} (he : at' es (k : Int) = e) : chkD lab E add L (es.drop k) = if e.2.1 = lab then (if (!add && !decide ((e.1, e.2.2) ∈ E)) = true then (4, L) else if ((add && decide ((e.1, e.2.2) ∈ E)) || decide ((e.1, e.2.2) ∈ L)) = true then (2, L) else chkD lab E add (L ++ [(e.1, e.2.2)]) (es.drop (k + 1))) else chkD lab E add L (es.drop (k + 1)) := by
 rw [List.drop_eq_getElem_cons hk, chkD, ← he, at'_nat hk]
theorem chk_end {lab : Lab} {E L : List Pr} {add : Bool} {es : List Ed} : chkD lab E add L (es.drop es.length) = (0, L) := by rw [List.drop_length, chkD]
structure DOk (E S : List Pr) (re rs : RS) : Prop where
 e : RelOk E re
 s : RelOk S rs
 c : ∀ a b, (a, b) ∈ S ↔ TC E a b
 i : ∀ x ∈ E, inP x
theorem DOk.iS {E S : List Pr} {re rs : RS} (h : DOk E S re rs) : ∀ x ∈ S, inP x := fun x hx => by
 obtain ⟨⟨c1, h1⟩, c2, h2⟩ := ((h.c x.1 x.2).1 hx).ends
 exact ⟨(h.i _ h1).1, (h.i _ h2).2⟩
theorem flat_len {α β : Type} (f : α → List β) (n : Nat) : ∀ (l : List α), (∀ x ∈ l, (f x).length ≤ n) → (l.flatMap f).length ≤ l.length * n
 | [], _ => by simp
 | a :: l, h => by
  rw [List.flatMap_cons, List.length_append, List.length_cons, Nat.succ_mul]
  have h1 := h a List.mem_cons_self
  have h2 := flat_len f n l fun x hx => h x (List.mem_cons_of_mem _ hx)
  omega
theorem span_len {E S : List Pr} (hn : S.Nodup) (h : ∀ a b, (a, b) ∈ S → TC E a b) : S.length ≤ E.length * E.length := by
 have h1 := len_sub (m := E.flatMap fun p => E.map fun q => (p.1, q.2)) hn fun x hx => by
  obtain ⟨⟨c1, h1⟩, c2, h2⟩ := (h x.1 x.2 hx).ends
  exact List.mem_flatMap.2 ⟨_, h1, List.mem_map.2 ⟨_, h2, rfl⟩⟩
 have h2 := flat_len (fun p : Pr => E.map fun q : Pr => (p.1, q.2)) E.length E fun x hx => by simp
 omega
theorem span_4000 {E S : List Pr} (hn : S.Nodup) (h : ∀ a b, (a, b) ∈ S → TC E a b) (hE : E.length ≤ 60) : S.length ≤ 3600 := by
 have h1 := span_len hn h
 have h2 : E.length * E.length ≤ 60 * 60 := Nat.mul_le_mul hE hE
 omega
def newD (S S' : List Pr) : List Tp := setR (tplL (S'.filter fun x => decide (x ∉ S)))
theorem newD_of {S S' G : List Pr} (h : ∀ x, x ∈ G ↔ x ∈ S' ∧ x ∉ S) : setR (tplL G) = newD S S' := by
 unfold newD
 refine rises_unique (setR_spec _).1 (setR_spec _).1 fun x => ?_
 rw [(setR_spec _).2, (setR_spec _).2, List.mem_map, List.mem_map]
 constructor
 · rintro ⟨p, hp, rfl⟩; exact ⟨p, by rw [List.mem_filter]; have := (h p).1 hp; exact ⟨this.1, decide_eq_true this.2⟩, rfl⟩
 · rintro ⟨p, hp, rfl⟩; rw [List.mem_filter] at hp; exact ⟨p, (h p).2 ⟨hp.1, of_decide_eq_true hp.2⟩, rfl⟩
theorem newD_nil {S S' : List Pr} (h : ∀ x ∈ S', x ∈ S) : newD S S' = [] := by
 unfold newD
 rw [List.filter_eq_nil_iff.2 (fun x hx => by simp [h x hx])]
 rfl
def aftD (E L : List Pr) (add : Bool) (c : Int) (x : Pr) : Prop := if c = 0 then (if add = true then x ∈ E ∨ x ∈ L else x ∈ E ∧ x ∉ L) else x ∈ E
structure DoSays (lab : Lab) (E : List Pr) (es : List Ed) (add : Bool) (re rs : RS) (E' S' : List Pr) : Prop where
 ok : DOk E' S' re rs
 m : ∀ x, x ∈ E' ↔ aftD E (chkD lab E add [] es).2 add (chkD lab E add [] es).1 x
 n : E'.length ≤ E.length + es.length
theorem do_err {lab : Lab} {E S : List Pr} {es : List Ed} {add : Bool} {re rs : RS} (h : DOk E S re rs) (hc : ¬ (chkD lab E add [] es).1 = 0) : DoSays lab E es add re rs E S := ⟨h, fun x => by unfold aftD; rw [if_neg hc], by omega⟩
theorem do_del {lab : Lab} {E S L : List Pr} {es : List Ed} {re rs re' rs' : RS} {E' S' G : List Pr} (h : DOk E S re rs) (hc : chkD lab E false [] es = (0, L)) (hr : RemSays E S L re' rs' E' S' G) : DoSays lab E es false re' rs' E' S' := ⟨⟨hr.e, hr.s, hr.sm, fun x hx => h.i x ((hr.em x).1 hx).1⟩, fun x => by unfold aftD; rw [hc]; exact hr.em x, by
 have := len_sub hr.e.nd fun x hx => ((hr.em x).1 hx).1
 omega⟩
theorem del_sub {E S L : List Pr} {re re' rs' rs : RS} {E' S' G : List Pr} (h : DOk E S re rs) (hr : RemSays E S L re' rs' E' S' G) : ∀ x ∈ S', x ∈ S := fun x hx => (h.c x.1 x.2).2 (((hr.sm x.1 x.2).1 hx).mono fun p hp => ((hr.em p).1 hp).1)
structure AddK (E S L : List Pr) (k : Nat) (F : List Pr) (re rs : RS) (Ek : List Pr) : Prop where
 ok : DOk Ek (S ++ F) re rs
 m : ∀ x, x ∈ Ek ↔ x ∈ E ∨ x ∈ L.take k
 n : Ek.length ≤ E.length + k
theorem addP_mem {P : List Pr} {q x : Pr} : x ∈ addP P q ↔ x ∈ P ∨ x = q := by
 unfold addP
 split
 · rename_i h; exact ⟨.inl, fun h2 => h2.elim id fun e => e ▸ h⟩
 · rw [List.mem_append, List.mem_singleton]
theorem add_step {E S L F F2 Ek : List Pr} {k : Nat} {re rs re2 rs2 : RS} (h : AddK E S L k F re rs Ek) (hk : k < L.length) (hi : inP (at' L (k : Int))) (hs : InsSays Ek (S ++ F) (at' L (k : Int)) re2 rs2 F2) : AddK E S L (k + 1) (F ++ F2) re2 rs2 (addP Ek (at' L (k : Int))) := by
 have hF : ∀ q, q ∈ addP Ek (at' L (k : Int)) ↔ q ∈ Ek ∨ q = at' L (k : Int) := fun q => addP_mem
 refine ⟨⟨hs.e, by rw [← List.append_assoc]; exact hs.s, fun a b => ?_, fun x hx => ((hF x).1 hx).elim (h.ok.i x) fun e => e ▸ hi⟩, fun x => ?_, ?_⟩
 · rw [tc_insert hF, ← h.ok.c, ← List.append_assoc, List.mem_append, hs.m (a, b)]
   have e1 := ar_rt h.ok.c (at' L (k : Int)).1 a
   have e2 := ar_rf h.ok.c (at' L (k : Int)).2 b
   constructor
   · rintro (q | ⟨_, q1, q2⟩)
     · exact .inl q
     · exact .inr ⟨e1.1 q1, e2.1 q2⟩
   · rintro (q | ⟨q1, q2⟩)
     · exact .inl q
     · exact (Classical.em ((a, b) ∈ S ++ F)).elim .inl fun q3 => .inr ⟨q3, e1.2 q1, e2.2 q2⟩
 · rw [hF, h.m, List.take_succ_eq_append_getElem hk, List.mem_append, List.mem_singleton, at'_nat hk, or_assoc]
 · have h1 := h.n; have h2 := addP_len Ek (at' L (k : Int)); omega
theorem do_add {lab : Lab} {E S L F Ek : List Pr} {es : List Ed} {re rs : RS} (hc : chkD lab E true [] es = (0, L)) (hl : L.length ≤ es.length) (h : AddK E S L L.length F re rs Ek) : DoSays lab E es true re rs Ek (S ++ F) := ⟨h.ok, fun x => by unfold aftD; rw [hc]; show x ∈ Ek ↔ x ∈ E ∨ x ∈ L; rw [h.m, List.take_length], by have := h.n; omega⟩
theorem add_new {E S L F Ek : List Pr} {k : Nat} {re rs : RS} (h : AddK E S L k F re rs Ek) : setR (tplL F) = newD S (S ++ F) := newD_of fun x => by
 have hn := List.nodup_append.1 h.ok.s.nd
 rw [List.mem_append]
 exact ⟨fun hx => ⟨.inr hx, fun hs => hn.2.2 x hs x hx rfl⟩, fun ⟨q, q2⟩ => q.resolve_left q2⟩
end Go.Proofs.YtklhdalppmjnaaaGreatDoor
/- Walks through the Go functions dred.Dred).Do, as typed contracts. -/
namespace Go.Proofs.YtklhdalppmjnaaaGreatDoor
open Go Go.Gw Go.So Go.Tu Go.Jn
open Go.Dr hiding Pr
set_option linter.unusedVariables false
set_option linter.unusedSimpArgs false

set_option maxHeartbeats 1000000 in
set_option maxRecDepth 20000 in
/-- (*rhizome/dred.Dred).Do -/
theorem DDo_fn (d : DO) (n : Int) (re rs : RS) (E S : List Pr) (es : List Ed) (add : Bool) (h : DOk E S re rs) (hei : ∀ e ∈ es, in64 e.1 ∧ in64 e.2.2) (hEl : E.length + es.length ≤ 60) : Ct Tryz.prog 189 [IsV (pt d.g 0), SlT kE es, BoolT add] (DrI d n re rs) (Int × RS × RS × List Pr × List Pr) (fun q => TupT [kD.T (newD S q.2.2.2.2, newD q.2.2.2.2 S), I64 (chkD d.lab E add [] es).1]) (fun q => DrI d q.1 q.2.1 q.2.2.1) (fun q => DoSays d.lab E es add q.2.1 q.2.2.1 q.2.2.2.1 q.2.2.2.2) := by
 refine fn_intro Tryz.func189 rfl rfl ?_
 intro H w
 have hSl := span_4000 h.s.nd (fun a b => (h.c a b).1) (by omega)
 have hSi := h.iS
 obtain ⟨R, hR⟩ : ∃ R, chkD d.lab E add [] es = R := ⟨_, rfl⟩
 have hn0 : newD S S = [] := newD_nil fun x hx => hx
 rw [hR]
 refine tr_perm (List.Perm.refl (BlkI d.g 106 kDr (dV d n) :: (RelI d.e re ++ RelI d.s rs))) (sq (te (ec 0 rfl (ec 1 rfl (ec 2 rfl en))) (rg (oA (acts_alloc (z44)) pR rfl rfl (fun g0_0 _ => ?_)))))
 refine ak rfl (tn (nn (sq (te (ec 0 rfl (ec 1 rfl (ec 2 rfl (ec 6 rfl en)))) (rg (ak rfl (tn (tr_nilItem 109 kPP (nn (sq (sq (te (ec 0 rfl (ec 1 rfl (ec 2 rfl (ec 6 rfl (ec 8 rfl en))))) (rg (mv rfl rfl (oP (pls (oT rfl) Tryz.underlying26) rfl (oP (pu_move ot) rfl (tn (nn (tb (tr_loopK (σ := Nat × Value × List Pr) (ec 0 rfl (ec 2 rfl (ec 6 rfl (ec 19 rfl (ec 20 rfl en))))) (fun s => [(21, I64 (s.1 : Int)), (8, IsV s.2.1)]) (fun s => OwnI 109 kPP s.2.1 s.2.2 :: BlkI g0_0 38 kD ([], []) :: BlkI d.g 106 kDr (dV d n) :: (RelI d.e re ++ RelI d.s rs)) (fun s => s.1 ≤ es.length ∧ chkD d.lab E add s.2.2 (es.drop s.1) = R ∧ s.2.2.length ≤ s.1 ∧ ∀ x ∈ s.2.2, inP x) (fun s => es.length - s.1) (0, nilS, []) ⟨Nat.zero_le _, hR, Nat.le_refl _, fun x hx => by cases hx⟩ ?_ (op pl) ?_))))))))))))))))))))
 · exact (ec 21 rfl (ec 8 rfl en))
 · rintro ⟨k, u, L⟩ ⟨hk, hin, hlk, hLi⟩
   dsimp only at hk hin hlk hLi ⊢
   refine sq (te (ec 0 rfl (ec 2 rfl (ec 6 rfl (ec 8 rfl (ec 19 rfl (ec 20 rfl (ec 21 rfl en))))))) (rg (oP (pu_lss (oT rfl) (oT rfl)) rfl (tn (nn (sq (tc (oT rfl) (fun c22 => ?_) (fun c22 => ?_))))))))
   · refine sk (nn (sq (tb (sq (te (ec 0 rfl (ec 2 rfl (ec 6 rfl (ec 8 rfl (ec 19 rfl (ec 20 rfl (ec 21 rfl en))))))) ?_)))))
     have hkl : k < es.length := by simp only [decide_eq_true_eq] at c22; omega
     obtain ⟨e, hee⟩ : ∃ e, at' es (k : Int) = e := ⟨_, rfl⟩
     have hst := chk_at (lab := d.lab) (E := E) (L := L) (add := add) hkl hee
     have hie : in64 e.1 ∧ in64 e.2.2 := hei e (by rw [← hee]; exact at_mem hkl)
     refine rg (oP (pu_index (oT rfl) (oT rfl) Tryz.underlying26 y61 (by omega) (by omega)) rfl (oP (pL (oT rfl) y61) rfl (oA (acts_alloc (zE)) pR rfl rfl (fun g4_2 _ => ?_))))
     refine oA (asv (oT rfl) (oT rfl) (by exact pA 0 rfl) y61) (by exact pA 0 rfl) rfl rfl (fun _ _ => ?_)
     refine tn ?_
     rw [hee]
     refine nn (sq (te (ec 0 rfl (ec 2 rfl (ec 6 rfl (ec 8 rfl (ec 10 rfl (ec 19 rfl (ec 20 rfl (ec 21 rfl en)))))))) (rg (oP (pf (oT rfl) y63) rfl (oP (plb (oT rfl) (by exact mA 0 rfl) le0 y2) rfl ?_)))))
     refine oP (pf (oT rfl) y64) rfl (oP (plb (oT rfl) (by exact mA 0 rfl) le2 y2) rfl ?_)
     refine oP (pu_build_arr (d := kPP) (v0 := (0, 0)) (agg := false) Tryz.underlying109 y2 zPr rfl (fills_cons rfl Lens.p0 (oT rfl) (fills_cons rfl Lens.p1 (oT rfl) fills_nil))) rfl (oA (acts_alloc (zPr)) pR rfl rfl (fun g5_5 _ => ?_))
     refine oA (asv (oT rfl) (oT rfl) (by exact pA 0 rfl) y92) (by exact pA 0 rfl) rfl rfl (fun _ _ => ?_)
     refine tn ?_
     obtain ⟨p, hp⟩ : ∃ p : Pr, (e.1, e.2.2) = p := ⟨_, rfl⟩
     have hip : inP p := by rw [← hp]; exact hie
     rw [hp] at hst
     have hhp := h.e.f p.1 p.2
     refine tr_perm (L' := BlkI g5_5 109 kPP p :: BlkI g4_2 42 kE e :: OwnI 109 kPP u L :: BlkI g0_0 38 kD ([], []) :: BlkI d.g 106 kDr (dV d n) :: (RelI d.e re ++ RelI d.s rs)) (by rw [← hp]; exact List.Perm.refl _) ?_
     refine nn (sq (tb (sq (te (ec 0 rfl (ec 2 rfl (ec 6 rfl (ec 8 rfl (ec 10 rfl (ec 11 rfl (ec 19 rfl (ec 20 rfl (ec 21 rfl en))))))))) ?_))))
     apply tr_any (m := 6) (ns := [[(10, none)], [(31, some 0)], [(0, none)], [(33, some 2)], [(34, some 3)], [(35, some 4)]]) (by kernel_rfl) (by kernel_rfl) (Ts := [_, _, _, _, _, _]) rfl
     case hops =>
      refine ⟨?_, ?_, ?_, ?_, ?_, ?_, trivial⟩
      · exact rP (pf (oT rfl) y62)
      · exact rP (plb (oT rfl) (by exact mA 1 rfl) le1 y40)
      · exact rmv rfl
      · exact rP (pu_nilCheck (oT rfl))
      · exact rP (pf (oT rfl) y117)
      · exact rP (plb (oT rfl) (by exact mA 4 rfl) ld0 y40)
     case h =>
      refine oP (pu_bs_neq (oT rfl) (oT rfl)) rfl (av rfl rfl (tn (nn (tc (oT rfl) (fun c30 => ?_) (fun c30 => ?_)))))
      · have hst2 : chkD d.lab E add L (es.drop k) = chkD d.lab E add L (es.drop (k + 1)) := by rw [hst, if_neg (show ¬ e.2.1 = d.lab from of_decide_eq_true c30)]
        refine tr_exit (block_pass rfl (tx (bh (nn (te (ec 0 rfl (ec 2 rfl (ec 6 rfl (ec 8 rfl (ec 19 rfl (ec 20 rfl (ec 21 rfl en))))))) (rg (oP (pad (oT rfl) ot (by omega)) rfl (mv rfl rfl (tn (nn ?_))))))))))
        exact tg (k + 1, u, L) ⟨hkl, hst2.symm.trans hin, (by show L.length ≤ k + 1; omega), hLi⟩ (by show es.length - (k + 1) < es.length - k; omega) (ea (ec 21 rfl (ec 8 rfl en)) (ec 0 rfl (ec 2 rfl (ec 6 rfl (ec 19 rfl (ec 20 rfl en)))))) (op (pd (pd pl)))
      · have hlab : e.2.1 = d.lab := Classical.byContradiction fun h => by rw [decide_eq_true (p := e.2.1 ≠ (dV d n).1) h] at c30; cases c30
        rw [if_pos hlab] at hst
        refine sq (te (ec 0 rfl (ec 2 rfl (ec 6 rfl (ec 8 rfl (ec 11 rfl (ec 19 rfl (ec 20 rfl (ec 21 rfl en)))))))) ?_)
        apply tr_any (m := 8) (ns := [[(2, none)], [(39, some 0)], [(40, some 1)], [(0, none), (41, some 2)], [(41, some 2), (42, some 3)], [(41, some 2), (43, some 4)], [(41, some 2), (44, some 5)], [(11, none), (41, some 2)]]) (by kernel_rfl) (by kernel_rfl) (Ts := [_, _, _, _, _, _, _, _]) rfl
        case hops =>
         refine ⟨?_, ?_, ?_, ?_, ?_, ?_, ?_, ?_, trivial⟩
         · exact rmv rfl
         · exact rP (pu_not (oT rfl))
         · exact rmv rfl
         · exact rG rfl rfl rfl (gm (oT rfl)) (fun hg => by (have hg1 := hg.2; exact rmv rfl))
         · exact rG rfl rfl rfl (gm (oT rfl)) (fun hg => by (have hg1 := hg.2; exact rP (pu_nilCheck (by exact gu (oT rfl) hg))))
         · exact rG rfl rfl rfl (gm (oT rfl)) (fun hg => by (have hg1 := hg.2; exact rP (pf (by exact gu (oT rfl) hg) y110)))
         · exact rG rfl rfl rfl (gm (oT rfl)) (fun hg => by (have hg1 := hg.2; exact rP (pu_load_rawf (by exact gu (oT rfl) hg) (by exact mA 4 rfl) ld1 y105)))
         · exact rG rfl rfl rfl (gm (oT rfl)) (fun hg => by (have hg1 := hg.2; exact rP (plv (oT rfl) (by exact mA 0 rfl) y92)))
        case h =>
         refine op_gu_same rfl rfl rfl (gm (oT rfl)) (perm_mid0 [_, _, _, _, _] (RelI d.e re) (RelI d.s rs)) (fun hg => aC (dHas_fn d.e re p) y93 (oc (gu (oT rfl) hg) (oc (gu (oT rfl) hg) oN)) (perm_mid0 [_, _, _, _, _] (RelI d.e re) (RelI d.s rs))) rfl (oG rfl rfl rfl (gm (oT rfl)) (fun hg => by (have hg1 := hg.2; (try simp only [cq2] at hg1); exact pu_not (by exact gu (oT rfl) hg))) rfl ?_)
         refine oP (pu_pick_and (oT rfl) (oT rfl)) rfl (av rfl rfl (tn (nn (tc (oT rfl) (fun c38 => ?_) (fun c38 => ?_)))))
         · rw [hhp] at c38
           have c38b : (!add && !decide (p ∈ E)) = true := c38
           rw [if_pos c38b] at hst
           have hR1 : R = (4, L) := hin.symm.trans hst
           subst hR1
           have hsay : DoSays d.lab E es add re rs E S := do_err h (by rw [hR]; show ¬ (4 : Int) = 0; decide)
           refine sq (te (ec 6 rfl en) (rg (oP (pu_build (d := kD) (v0 := ([], [])) (ps := [(0, 1), (1, 1)]) z44 (by kernel_rfl) rfl fills_nil) rfl (oA (asv (oT rfl) (oT rfl) (by exact pA 3 rfl) y31) (by exact pA 3 rfl) rfl rfl (fun _ _ => ?_)))))
           refine ak rfl (tn (nn (tR (block_ret (tt (block_ret (tt (tt (block_ret (tt ?_))))))))))
           exact ret_cell_tmp .ret (.inl rfl) rfl (n, re, rs, E, S) (oT rfl) (by exact mA 0 rfl) y31 (oT rfl) (fun _ _ h => (by show (TupT [kD.T (newD S S, newD S S), I64 4]).p _ _; rw [hn0]; exact h)) hsay (pd (pd (pd (pd pl))))
         · rw [hhp] at c38
           have c38b : (!add && !decide (p ∈ E)) = false := c38
           rw [if_neg (by rw [c38b]; decide)] at hst
           refine sq (te (ec 0 rfl (ec 2 rfl (ec 6 rfl (ec 8 rfl (ec 11 rfl (ec 19 rfl (ec 20 rfl (ec 21 rfl en)))))))) ?_)
           apply tr_anyW (p := 7) (Lf := fun c => cond c (BlkI g5_5 109 kPP p :: BlkI g4_2 42 kE e :: OwnI 109 kPP u L :: BlkI g0_0 38 kD ([], []) :: BlkI d.g 106 kDr (dV d n) :: (RelI d.e re ++ RelI d.s rs)) (BlkI g5_5 109 kPP p :: BlkI g4_2 42 kE e :: OwnI 109 kPP u L :: BlkI g0_0 38 kD ([], []) :: BlkI d.g 106 kDr (dV d n) :: (RelI d.e re ++ RelI d.s rs))) (by kernel_rfl) (m := 12) (ns := [[(2, none)], [(52, some 0)], [(0, none), (53, some 1)], [(53, some 1), (54, some 2)], [(53, some 1), (55, some 3)], [(53, some 1), (56, some 4)], [(11, none), (53, some 1)], [(53, some 1), (57, some 5), (58, some 6)], [(53, some 1), (59, some 7)], [(60, some 8)], [(8, none), (61, some 9)], [(11, none), (61, some 9)]]) (by kernel_rfl) (by kernel_rfl) (Ts := [_, _, _, _, _, _, _, _, _, _, _, _]) rfl
           case hops =>
            refine ⟨?_, ?_, ?_, ?_, ?_, ?_, ?_, ?_, ?_, ?_, ?_, ?_, trivial⟩
            · exact cAf (by kernel_rfl) fun _ => rw_ (rmv rfl)
            · exact cAf (by kernel_rfl) fun _ => rw_ (rmv rfl)
            · exact cAf (by kernel_rfl) fun _ => rw_ (rG rfl rfl rfl (gm (oT rfl)) (fun hg => by (have hg1 := hg.2; exact rmv rfl)))
            · exact cAf (by kernel_rfl) fun _ => rw_ (rG rfl rfl rfl (gm (oT rfl)) (fun hg => by (have hg1 := hg.2; exact rP (pu_nilCheck (by exact gu (oT rfl) hg)))))
            · exact cAf (by kernel_rfl) fun _ => rw_ (rG rfl rfl rfl (gm (oT rfl)) (fun hg => by (have hg1 := hg.2; exact rP (pf (by exact gu (oT rfl) hg) y110))))
            · exact cAf (by kernel_rfl) fun _ => rw_ (rG rfl rfl rfl (gm (oT rfl)) (fun hg => by (have hg1 := hg.2; exact rP (pu_load_rawf (by exact gu (oT rfl) hg) (by exact mA 4 rfl) ld1 y105))))
            · exact cAf (by kernel_rfl) fun _ => rw_ (rG rfl rfl rfl (gm (oT rfl)) (fun hg => by (have hg1 := hg.2; exact rP (plv (oT rfl) (by exact mA 0 rfl) y92))))
            · exact cAf (by kernel_rfl) fun _ => ropw_gu rfl rfl rfl (gm (oT rfl)) (fun hg => by (have hg1 := hg.2; exact ropw_acts rfl (aC (dHas_fn d.e re p) y93 (oc (gu (oT rfl) hg) (oc (gu (oT rfl) hg) oN)) (perm_mid0 [_, _, _, _, _] (RelI d.e re) (RelI d.s rs))) (perm_mid0 [_, _, _, _, _] (RelI d.e re) (RelI d.s rs)) (fun _ => (perm_mid0 [_, _, _, _, _] (RelI d.e re) (RelI d.s rs)).symm) (fun _ _ _ _ h => h)))
            · exact cAt (by kernel_rfl) fun _ => rw_ (rP (pu_pick_and (oT rfl) (oT rfl)))
            · exact cAt (by kernel_rfl) fun _ => rw_ (rmv rfl)
            · exact cAt (by kernel_rfl) fun _ => rw_ (rG rfl rfl rfl (gm (oT rfl)) (fun hg => by (have hg1 := hg.2; exact rmv rfl)))
            · exact cAt (by kernel_rfl) fun _ => rw_ (rG rfl rfl rfl (gm (oT rfl)) (fun hg => by (have hg1 := hg.2; exact rP (plv (oT rfl) (by exact mA 0 rfl) y92))))
           case h =>
            refine op_gu_same rfl rfl rfl (gm (oT rfl)) (perm_at 2 rfl) (fun hg => aC (Ct.lend_hd (e := 109) (v := u) (ContainsP_fn L p (by omega)) (fun _ _ _ _ h => h)) y118 (oc (gu (oT rfl) hg) (oc (gu (oT rfl) hg) oN)) (perm_at 2 rfl)) rfl (oP (pu_pick_or (oT rfl) (oT rfl)) rfl (av rfl rfl (tn (nn (tc (oT rfl) (fun c51 => ?_) (fun c51 => ?_))))))
            · rw [hhp] at c51
              have c51b : ((add && decide (p ∈ E)) || decide (p ∈ L)) = true := c51
              rw [if_pos c51b] at hst
              have hR1 : R = (2, L) := hin.symm.trans hst
              subst hR1
              have hsay : DoSays d.lab E es add re rs E S := do_err h (by rw [hR]; show ¬ (2 : Int) = 0; decide)
              refine sq (te (ec 6 rfl en) (rg (oP (pu_build (d := kD) (v0 := ([], [])) (ps := [(0, 1), (1, 1)]) z44 (by kernel_rfl) rfl fills_nil) rfl (oA (asv (oT rfl) (oT rfl) (by exact pA 3 rfl) y31) (by exact pA 3 rfl) rfl rfl (fun _ _ => ?_)))))
              refine ak rfl (tn (nn (tR (block_ret (tt (block_ret (tt (tt (block_ret (tt ?_))))))))))
              exact ret_cell_tmp .ret (.inl rfl) rfl (n, re, rs, E, S) (oT rfl) (by exact mA 0 rfl) y31 (oT rfl) (fun _ _ h => (by show (TupT [kD.T (newD S S, newD S S), I64 2]).p _ _; rw [hn0]; exact h)) hsay (pd (pd (pd (pd pl))))
            · rw [hhp] at c51
              have c51b : ((add && decide (p ∈ E)) || decide (p ∈ L)) = false := c51
              rw [if_neg (by rw [c51b]; decide)] at hst
              refine sk (bn (nn (te (ec 0 rfl (ec 2 rfl (ec 6 rfl (ec 8 rfl (ec 11 rfl (ec 19 rfl (ec 20 rfl (ec 21 rfl en)))))))) (rg (mv rfl rfl (oP (plv (oT rfl) (by exact mA 0 rfl) y92) rfl ?_))))))
              refine oA (acts_lit (d := kPP) (v0 := (0, 0)) y112 y92 zPr (show 1 * 2 ≤ 16777216 from by decide) (by decide) (fills_arr rfl rfl (by decide) (oT rfl) fills_nil)) pR rfl rfl (fun _ _ => ?_)
              refine oA (acts_append (oT rfl) (by exact pA 2 rfl) (oT rfl) y112 (by (simp; omega)) (by (simp [maxLen]; omega))) (by exact pA 2 rfl) rfl rfl (fun v11_3 _ => ?_)
              refine av rfl rfl (tn (bn (nn (te (ec 0 rfl (ec 2 rfl (ec 6 rfl (ec 8 rfl (ec 19 rfl (ec 20 rfl (ec 21 rfl en))))))) (rg (oP (pad (oT rfl) ot (by omega)) rfl (mv rfl rfl (tn (nn ?_)))))))))
              exact tg (k + 1, v11_3, L ++ [p]) ⟨hkl, hst.symm.trans hin, (by show (L ++ [p]).length ≤ k + 1; rw [List.length_append, List.length_singleton]; omega), fun x hx => (List.mem_append.1 hx).elim (hLi x) fun h2 => by rw [List.mem_singleton.1 h2]; exact hip⟩ (by show es.length - (k + 1) < es.length - k; omega) (ea (ec 21 rfl (ec 8 rfl en)) (ec 0 rfl (ec 2 rfl (ec 6 rfl (ec 19 rfl (ec 20 rfl en)))))) (op (pc 0 rfl (pd (pd pl))))
   · refine tr_exit (tx (tx (bh (nn (sq (sq (te (ec 0 rfl (ec 2 rfl (ec 6 rfl (ec 8 rfl en)))) ?_)))))))
     obtain rfl : k = es.length := by simp only [decide_eq_false_iff_not] at c22; omega
     rw [chk_end] at hin
     have hLl : L.length ≤ 100 := by omega
     have hR0 : R = (0, L) := hin.symm
     subst hR0
     refine rg (mv rfl rfl (oP (pu_not (oT rfl)) rfl (tn (nn (tc (oT rfl) (fun c73 => ?_) (fun c73 => ?_))))))
     · obtain rfl : add = false := by simpa using c73
       refine tr_freeze (perm_at 0 rfl) 8 (oT rfl) (sq (te (ec 0 rfl (ec 6 rfl (ec 8 rfl en))) (rg (mv rfl rfl (mv rfl rfl (op_tl [_] rfl (aC (remove_fnD d n re rs E S L h.e h.s hSi h.c (by omega) (by omega) hLl) y119 (oc (oT rfl) (oc (oT rfl) oN)) (perm_tl (X := [_]))) rfl rfl fun q hq => ?_))))))
       have hsay := do_del h hR hq
       have hnw1 : newD S q.2.2.2.2.1 = [] := newD_nil (del_sub h hq)
       have hnw2 : setR (tplL q.2.2.2.2.2) = newD q.2.2.2.2.1 S := newD_of hq.g
       have hgl : q.2.2.2.2.2.length ≤ S.length := len_sub hq.gn fun x hx => ((hq.g x).1 hx).1
       refine oA (aC (tuples_fn _ (by omega)) y120 (oc (oT rfl) oN) pR) pR rfl rfl (fun _ _ => ?_)
       refine oP (pu_build (d := kD) (v0 := ([], [])) (ps := [(0, 1), (1, 1)]) z44 (by kernel_rfl) rfl (fills_cons rfl (Lens.snd (a := kL) (b := kL)) (oT rfl) fills_nil)) rfl (oA (asv (oT rfl) (oT rfl) (by exact pA 0 rfl) y31) (by exact pA 0 rfl) rfl rfl (fun _ _ => ?_))
       refine ak rfl (tn (nn (tR (tt ?_))))
       exact ret_cell_tmp .ret (.inl rfl) rfl (_, q.2.1, q.2.2.1, q.2.2.2.1, q.2.2.2.2.1) (oT rfl) (by exact mA 0 rfl) y31 (oT rfl) (fun _ _ h => (by show (TupT [kD.T (newD S q.2.2.2.2.1, newD q.2.2.2.2.1 S), I64 0]).p _ _; rw [hnw1, ← hnw2]; exact h)) hsay (pd pl)
     · obtain rfl : add = true := by simpa using c73
       refine tr_freeze (perm_at 0 rfl) 8 (oT rfl) (sk (nn (sq (te (ec 0 rfl (ec 6 rfl (ec 8 rfl en))) (rg (ak rfl (tn (tr_nilItem 109 kPP (nn (sq (sq (te (ec 0 rfl (ec 6 rfl (ec 8 rfl (ec 12 rfl en)))) (rg (mv rfl rfl (oP (pls (oT rfl) Tryz.underlying273) rfl (oP (pu_move ot) rfl (tn (nn (tb (tr_loopK (σ := Nat × Value × List Pr × RS × RS × List Pr) (ec 0 rfl (ec 6 rfl (ec 8 rfl (ec 79 rfl (ec 80 rfl en))))) (fun s => [(81, I64 (s.1 : Int)), (12, IsV s.2.1)]) (fun s => OwnI 109 kPP s.2.1 s.2.2.1 :: BlkI g0_0 38 kD ([], []) :: BlkI d.g 106 kDr (dV d n) :: (RelI d.e s.2.2.2.1 ++ RelI d.s s.2.2.2.2.1)) (fun s => s.1 ≤ L.length ∧ AddK E S L s.1 s.2.2.1 s.2.2.2.1 s.2.2.2.2.1 s.2.2.2.2.2) (fun s => L.length - s.1) (0, nilS, [], re, rs, E) ⟨Nat.zero_le _, by rw [List.append_nil]; exact h, fun x => by simp, Nat.le_refl _⟩ ?_ (op pl) ?_))))))))))))))))))))
       · exact (ec 81 rfl (ec 12 rfl en))
       · rintro ⟨k2, u2, F, re2, rs2, Ek⟩ ⟨hk2l, hK⟩
         dsimp only at hk2l hK ⊢
         refine sq (te (ec 0 rfl (ec 6 rfl (ec 8 rfl (ec 12 rfl (ec 79 rfl (ec 80 rfl (ec 81 rfl en))))))) (rg (oP (pu_lss (oT rfl) (oT rfl)) rfl (tn (nn (sq (tc (oT rfl) (fun c82 => ?_) (fun c82 => ?_))))))))
         · refine sk (nn (sq (tb (sq (te (ec 0 rfl (ec 6 rfl (ec 8 rfl (ec 12 rfl (ec 79 rfl (ec 80 rfl (ec 81 rfl en))))))) ?_)))))
           have hk2 : k2 < L.length := by simp only [decide_eq_true_eq] at c82; omega
           obtain ⟨p, hp⟩ : ∃ p, at' L (k2 : Int) = p := ⟨_, rfl⟩
           have hip : inP p := by rw [← hp]; exact hLi _ (at_mem hk2)
           have hkn := hK.n
           have hKs := span_4000 hK.ok.s.nd (fun a b => (hK.ok.c a b).1) (by omega)
           rw [List.length_append] at hKs
           refine rg (mv rfl rfl (oP (pu_index (oT rfl) (oT rfl) Tryz.underlying273 y92 (by omega) (by omega)) rfl (oP (pL (oT rfl) y92) rfl (oA (acts_alloc (zPr)) pR rfl rfl (fun g18_3 _ => ?_)))))
           refine av rfl rfl (oA (asv (oT rfl) (oT rfl) (by exact pA 0 rfl) y92) (by exact pA 0 rfl) rfl rfl (fun _ _ => ?_))
           refine tn ?_
           rw [hp]
           refine nn (sq (te (ec 0 rfl (ec 6 rfl (ec 8 rfl (ec 12 rfl (ec 13 rfl (ec 14 rfl (ec 79 rfl (ec 80 rfl (ec 81 rfl en))))))))) (rg (mv rfl rfl (mv rfl rfl (oP (plv (oT rfl) (by exact mA 0 rfl) y92) rfl ?_))))))
           refine op_tl [_, _, _] rfl (aC (insert_fnD d n re2 rs2 Ek (S ++ F) p hK.ok.e hK.ok.s hK.ok.iS (by omega) (by rw [List.length_append]; omega)) y121 (oc (oT rfl) (oc (oT rfl) oN)) (perm_tl (X := [_, _, _]))) rfl rfl fun q hq => ?_
           have hK2 := hK
           rw [← hp] at hip hq
           have hK2 := add_step hK hk2 hip hq
           rw [hp] at hK2 hq
           have hkn2 := hK2.n
           have hKs2 := span_4000 hK2.ok.s.nd (fun a b => (hK2.ok.c a b).1) (by omega)
           have hcn := hK2.ok.s.n
           rw [List.length_append, List.length_append] at hKs2 hcn
           refine oA (acts_append (oT rfl) (by exact pA 1 rfl) (oT rfl) y112 (by omega) (by (simp [maxLen]; omega))) (by exact pA 1 rfl) rfl rfl (fun v19_4 _ => ?_)
           refine av rfl rfl (tn (nn (sq (te (ec 0 rfl (ec 6 rfl (ec 8 rfl (ec 12 rfl (ec 13 rfl (ec 79 rfl (ec 80 rfl (ec 81 rfl en)))))))) (tr_perm (List.Perm.refl (OwnI 109 kPP v19_4 (F ++ q.2.2) :: BlkI g18_3 109 kPP p :: BlkI g0_0 38 kD ([], []) :: BlkI d.g 106 kDr (dV d n) :: (RelI d.e q.1 ++ RelI d.s q.2.1))) (rg (mv rfl rfl (oP (pu_nilCheck (oT rfl)) rfl (oP (pf (oT rfl) y104) rfl (oP (pu_load_rawf (oT rfl) (by exact mA 3 rfl) ld2 y105) rfl ?_))))))))))
           refine oP (pu_nilCheck (oT rfl)) rfl (oP (pf (oT rfl) y100) rfl (oP (plb (oT rfl) (List.mem_cons_of_mem _ (List.mem_cons_of_mem _ (List.mem_cons_of_mem _ (List.mem_cons_of_mem _ (List.mem_append_right _ List.mem_cons_self))))) lre2 y2) rfl (oP (pu_gtr (oT rfl) ot) rfl (tn (nn (tc (oT rfl) (fun c98 => ?_) (fun c98 => ?_)))))))
           · exfalso
             simp only [decide_eq_true_eq] at c98
             omega --done
           · refine sk (bn (nn (te (ec 0 rfl (ec 6 rfl (ec 8 rfl (ec 12 rfl (ec 79 rfl (ec 80 rfl (ec 81 rfl en))))))) (rg (oP (pad (oT rfl) ot (by omega)) rfl (mv rfl rfl (tn (nn ?_))))))))
             exact tg (k2 + 1, v19_4, F ++ q.2.2, q.1, q.2.1, addP Ek p) ⟨hk2, hK2⟩ (by show L.length - (k2 + 1) < L.length - k2; omega) (ea (ec 81 rfl (ec 12 rfl en)) (ec 0 rfl (ec 6 rfl (ec 8 rfl (ec 79 rfl (ec 80 rfl en)))))) (op (pc 0 rfl (pd pl)))
         · refine tr_exit (tx (tx (bh (nn (sq (te (ec 0 rfl (ec 6 rfl (ec 12 rfl en))) ?_))))))
           obtain rfl : k2 = L.length := by simp only [decide_eq_false_iff_not] at c82; omega
           have hkn := hK.n
           have hKs := span_4000 hK.ok.s.nd (fun a b => (hK.ok.c a b).1) (by omega)
           rw [List.length_append] at hKs
           have hsay := do_add hR hlk hK
           have hnew := add_new hK
           have hnw3 : newD (S ++ F) S = [] := newD_nil fun x hx => List.mem_append_left _ hx
           refine rg (mv rfl rfl (oP (pu_nilCheck (oT rfl)) rfl (oP (pf (oT rfl) y116) rfl (oA (acts_store_blk (oT rfl) ot (by exact pA 2 rfl) ld3 y2) (by exact pA 2 rfl) rfl rfl (fun _ _ => ?_)))))
           refine tn (nn (sq (te (ec 6 rfl (ec 12 rfl en)) (tr_freeze (perm_at 1 rfl) 12 (oT rfl) (rg (mv rfl rfl (oA (aC (tuples_fn _ (by omega)) y120 (oc (oT rfl) oN) pR) pR rfl rfl (fun _ _ => ?_))))))))
           refine oP (pu_build (d := kD) (v0 := ([], [])) (ps := [(0, 1), (1, 1)]) z44 (by kernel_rfl) rfl (fills_cons rfl (Lens.fst (a := kL) (b := kL)) (oT rfl) fills_nil)) rfl (oA (asv (oT rfl) (oT rfl) (by exact pA 1 rfl) y31) (by exact pA 1 rfl) rfl rfl (fun _ _ => ?_))
           refine ak rfl (tn (nn (tR ?_)))
           exact ret_cell_tmp .ret (.inl rfl) rfl (0, re2, rs2, Ek, S ++ F) (oT rfl) (by exact mA 0 rfl) y31 (oT rfl) (fun _ _ h => (by show (TupT [kD.T (newD S (S ++ F), newD (S ++ F) S), I64 0]).p _ _; rw [← hnew, hnw3]; exact h)) hsay (pd pl)
end Go.Proofs.YtklhdalppmjnaaaGreatDoor
/- A span: labels, the map of rows; ways walked through it. Plain, and its memory. -/
namespace Go.Proofs
open Go.Shelf Go.RowKit Go.Lib
set_option linter.unusedVariables false
theorem Tryz.notLow_sp (w : World) : PredAt Tryz.prog 85 #[] encR notLow w := fun W r _ => by
 unfold FnGives
 by_cases h1 : r < 97 <;> by_cases h2 : 122 < r
 all_goals
  have z1 : (r : Int) < 97 ↔ r < 97 := by omega
  have z2 : (122 : Int) < (r : Int) ↔ 122 < r := by omega
  go_enter Tryz.func85, Tryz.ntmps85
  go_wp2
  all_goals first | (exfalso; omega) | (go_ret; exact ⟨by simp [h1, h2], 0, rfl⟩)
theorem Tryz.contains_sp (s : ByteArray) (w : World) : Calls Tryz.prog 83 #[.string s, .func (.func 85) #[] #[]] w fun e w' => e = .returned (.bool (decide (0 ≤ Lib.idxFunc notLow true s))) ∧ Below w.heap.size w w' :=
 Any.strings_ContainsFunc Tryz.lCfunc 85 #[] (enters_of Tryz.func85 (by kernel_rfl) rfl) notLow s w (Tryz.notLow_sp w)
end Go.Proofs
namespace Go.Proofs.YtklhdalppmjnaaaGreatDoor
open Go Go.Gw Go.So Go.Tu Go.Jn Go.MapKept Go.RowKit
open Go.Dr hiding Pr
set_option linter.unusedVariables false
set_option linter.unusedSimpArgs false
theorem ContainsSp_ct {K0 : FH} {n0 : Nat} (l : List UInt8) : CtM K0 n0 Tryz.prog 83 [BsT l, IsV (.func (.func 85) #[] #[])] [] Unit (fun _ => BoolT (!l.all isLow)) (fun _ => []) (fun _ => True) :=
 ct_below fun H w args hK hon hA => by
  obtain ⟨u, v, rfl, hu, hv⟩ := two_arg hA
  obtain rfl : u = .string (bs l) := hu
  obtain rfl : v = .func (.func 85) #[] #[] := hv
  refine (Tryz.contains_sp (bs l) w).mono fun e w' ⟨he, hb⟩ => ⟨_, he, ?_, hb⟩
  show _ = Value.bool _
  unfold Lib.idxFunc
  rw [idx_low l _ 0 (by rw [bs_size]; omega), List.drop_zero]
def labE (lab : Lab) (es : List Ed) : List Pr := (es.filter fun e => decide (e.2.1 = lab)).map fun e => (e.1, e.2.2)
theorem labE_step {lab : Lab} {es : List Ed} {k : Nat} (hk : k < es.length) {e : Ed} (he : at' es (k : Int) = e) : labE lab (es.take (k + 1)) = if e.2.1 = lab then labE lab (es.take k) ++ [(e.1, e.2.2)] else labE lab (es.take k) := by
 unfold labE
 rw [List.take_succ_eq_append_getElem hk, List.filter_append, ← he, at'_nat hk, List.map_append]
 split
 · rename_i h; simp [h]
 · rename_i h; simp [h]
theorem labE_len (lab : Lab) (es : List Ed) : (labE lab es).length ≤ es.length := by unfold labE; rw [List.length_map]; exact List.length_filter_le _ _
abbrev rwF (m : List Fr) (n : Int) : List Int := ((lkp n m).getD (nilS, [])).2
structure NxOk (P : List Pr) (m : List Fr) (N : Nat) : Prop where
 nd : (keys m).Nodup
 mem : ∀ u v, v ∈ rwF m u ↔ (u, v) ∈ P
 key : ∀ u ∈ keys m, ∃ v, (u, v) ∈ P
 len : ∀ u, (rwF m u).length ≤ N
 num : m.length ≤ N
theorem nx_nil : NxOk [] [] 0 := ⟨List.nodup_nil, fun u v => by simp [rwF, lkp], fun u h => (nomatch h), fun u => Nat.le_refl _, Nat.le_refl _⟩
theorem rwF_ptk {m : List Fr} {n u : Int} {x : Value × List Int} : rwF (ptk n x m) u = if n = u then x.2 else rwF m u := by
 unfold rwF; rw [lkp_put]; split <;> rfl
theorem keys_ptk_iff {κ α : Type} [DecidableEq κ] {m : List (κ × α)} {n u : κ} {x : α} : u ∈ keys (ptk n x m) ↔ u = n ∨ u ∈ keys m := by
 rw [← Classical.not_not (a := u ∈ keys (ptk n x m)), ← lkp_none, lkp_put]
 by_cases e : n = u
 · subst e; simp
 · rw [if_neg e, lkp_none, Classical.not_not]; exact ⟨.inr, fun h => h.resolve_left fun h2 => e h2.symm⟩
theorem NxOk.put {P : List Pr} {m : List Fr} {N : Nat} (h : NxOk P m N) {u v : Int} {w : Value} : NxOk (P ++ [(u, v)]) (ptk u (w, rwF m u ++ [v]) m) (N + 1) where
 nd := ptk_nodup h.nd
 mem := fun a b => by
  rw [rwF_ptk, List.mem_append, List.mem_singleton]
  by_cases e : u = a
  · subst e; rw [if_pos rfl, List.mem_append, List.mem_singleton, h.mem]; simp
  · rw [if_neg e, h.mem]
    exact ⟨.inl, fun q => q.resolve_right fun q2 => e (congrArg Prod.fst q2).symm⟩
 key := fun a ha => by
  rcases keys_ptk_iff.1 ha with rfl | ha
  · exact ⟨v, List.mem_append_right _ (by simp)⟩
  · obtain ⟨b, hb⟩ := h.key a ha; exact ⟨b, List.mem_append_left _ hb⟩
 len := fun a => by
  rw [rwF_ptk]
  split
  · show (rwF m u ++ [v]).length ≤ _; rw [List.length_append, List.length_singleton]; have := h.len u; omega
  · have := h.len a; omega
 num := by have := ptk_len (k := u) (x := (w, rwF m u ++ [v])) (m := m); have := h.num; omega
theorem NxOk.set {P : List Pr} {m : List Fr} {N : Nat} (h : NxOk P m N) {u : Int} {w : Value} {zs : List Int} (hu : u ∈ keys m) (hz : ∀ x, x ∈ zs ↔ x ∈ rwF m u) (hl : zs.length ≤ (rwF m u).length) : NxOk P (ptk u (w, zs) m) N where
 nd := ptk_nodup h.nd
 mem := fun a b => by
  rw [rwF_ptk]
  split
  · rename_i e; subst e; show b ∈ zs ↔ _; rw [hz, h.mem]
  · exact h.mem a b
 key := fun a ha => by
  rcases keys_ptk_iff.1 ha with rfl | ha
  · exact h.key _ hu
  · exact h.key a ha
 len := fun a => by
  rw [rwF_ptk]
  split
  · show zs.length ≤ _; have := h.len u; omega
  · exact h.len a
 num := by
  have : (ptk u (w, zs) m).length = m.length := by have := congrArg List.length (keys_ptk (v := (w, zs)) h.nd hu); simpa [keys] using this
  rw [this]; exact h.num
def rowsF (m : List Fr) : List (Int × List Int) := m.map fun f => (f.1, f.2.2)
theorem rowsF_lkp (m : List Fr) (u : Int) : (lkp u (rowsF m)).getD [] = rwF m u := frA_lkp u m
theorem keys_rowsF (m : List Fr) : keys (rowsF m) = keys m := by simp [rowsF, keys]
theorem fromF (g : Nat) (m : List Fr) : Frz (MapI g encI IsV (hdV m) :: m.map frI) fun H => (MapT encI (ksl kI).T (rowsF m)).p H (mp g) := by
 have h1 : Frz (m.map frI) fun H => ∀ f ∈ m, (SlT kI f.2.2).p H f.2.1 := Frz.map_ (f := frI) (Q := fun f H => (SlT kI f.2.2).p H f.2.1) (fun f => Mono.ty) m fun f => Frz.own
 refine ((Frz.mapI (g := g) (enc := encI) (V := IsV) (m := hdV m)).cons Mono.ty h1).imp ?_
 rintro H ⟨q1, q2⟩
 rcases q1 with ⟨h, _⟩ | ⟨g', es, clock, h1, h2, h3⟩
 · cases h
 · refine .inr ⟨g', es, clock, h1, h2, ?_, fun i e p hi hp => ?_, ?_, h3.bn, h3.lt⟩
   · rw [h3.key]; unfold hdV rowsF; rw [List.map_map, List.map_map]; rfl
   · unfold rowsF at hp
     rw [List.getElem?_map] at hp
     cases hm : m[i]? with
     | none => rw [hm] at hp; cases hp
     | some f =>
      rw [hm] at hp
      cases hp
      have h4 := h3.val i e (f.1, f.2.1) hi (by unfold hdV; rw [List.getElem?_map, hm]; rfl)
      rw [show e.val = f.2.1 from h4]
      exact q2 f (List.mem_of_getElem? hm)
   · have := h3.nd
     unfold hdV keys at this
     rw [keys_rowsF]
     unfold keys
     rw [List.map_map] at this
     exact this
section
variable {C : Cx} {Γ : Env} {L : List It} {φ : Act → World → Prop} {m : List Fr}
theorem tr_pickFX (X : List It) (n : Int) (hL : L = X ++ m.map frI) (h : Tr C Γ (OwnI 3 kI ((lkp n (hdV m)).getD nilS) (rwF m n) :: (X ++ (dlk n m).map frI)) φ) : Tr C Γ L φ := by
 subst hL
 refine tr_pickF n (m := m) (R := X) List.perm_append_comm (tr_perm (List.Perm.cons _ List.perm_append_comm) h)
end
structure Walk (P : List Pr) (a : Int) (seen : List (Int × Int)) (todo : List Int) (B : Nat) : Prop where
 nd : (keys seen).Nodup
 s : ∀ x ∈ keys seen, TC P a x
 t : ∀ x ∈ todo, TC P a x
 c : ∀ x ∈ keys seen, ∀ v, (x, v) ∈ P → v ∈ keys seen ∨ v ∈ todo
 a : ∀ v, (a, v) ∈ P → v ∈ keys seen ∨ v ∈ todo
 n : ∀ x c, lkp x seen = some c → 1 ≤ c ∧ c ≤ (B : Int)
def left (m : List (Int × List Int)) (seen : List Int) : Nat := (m.map fun f => if f.1 ∈ seen then 0 else f.2.length).sum
theorem left_new {m : List (Int × List Int)} {s : List Int} {x : Int} (hx : x ∉ s) (hn : (keys m).Nodup) : left m (x :: s) + ((lkp x m).getD []).length = left m s := by
 induction m with
 | nil => simp [left, lkp]
 | cons f m ih =>
  have hn2 : f.1 ∉ keys m ∧ (keys m).Nodup := List.nodup_cons.1 hn
  have ih := ih hn2.2
  unfold left at ih ⊢
  simp only [List.map_cons, List.sum_cons, lkp]
  by_cases e : f.1 = x
  · have hl : lkp x m = none := lkp_none.2 (e ▸ hn2.1)
    rw [hl] at ih
    simp only [Option.getD_none, List.length_nil, Nat.add_zero] at ih
    have h1 : f.1 ∈ x :: s := by rw [e]; exact List.mem_cons_self
    have h2 : f.1 ∉ s := by rw [e]; exact hx
    simp only [if_pos h1, if_neg h2, if_pos e, Option.getD_some]; omega
  · have h1 : f.1 ∈ x :: s ↔ f.1 ∈ s := ⟨fun h => (List.mem_cons.1 h).resolve_left e, List.mem_cons_of_mem _⟩
    simp only [h1, if_neg e]; omega
theorem left_congr {m : List (Int × List Int)} {s s' : List Int} (h : ∀ x, x ∈ s ↔ x ∈ s') : left m s = left m s' := by unfold left; simp only [h]
theorem left_len {m : List (Int × List Int)} {s : List Int} {N : Nat} (h : ∀ f ∈ m, f.2.length ≤ N) : left m s ≤ m.length * N := by
 unfold left
 induction m with
 | nil => simp
 | cons f m ih =>
  have h1 := h f List.mem_cons_self
  have h2 := ih fun g hg => h g (List.mem_cons_of_mem _ hg)
  simp only [List.map_cons, List.sum_cons, List.length_cons, Nat.succ_mul]
  split <;> omega
theorem walk_start {P : List Pr} {a : Int} {row : List Int} {B : Nat} (h : ∀ v, v ∈ row ↔ (a, v) ∈ P) : Walk P a [] row B := ⟨List.nodup_nil, fun x h => (nomatch h), fun x hx => .one ((h x).1 hx), fun x h => (nomatch h), fun v hv => .inr ((h v).2 hv), fun x c h => (nomatch h)⟩
theorem walk_old {P : List Pr} {a n c : Int} {seen : List (Int × Int)} {todo : List Int} {B B' : Nat} (h : Walk P a seen (todo ++ [n]) B) (hn : lkp n seen = some c) (hB : B + 1 ≤ B') : Walk P a (ptk n (c + 1) seen) todo B' := by
 have hk : n ∈ keys seen := Classical.byContradiction fun q => by rw [lkp_none.2 q] at hn; cases hn
 have hkk : ∀ x, x ∈ keys (ptk n (c + 1) seen) ↔ x ∈ keys seen := fun x => by rw [keys_ptk_iff]; exact ⟨fun q => q.elim (fun e => e ▸ hk) id, .inr⟩
 have hT : ∀ v, v ∈ keys seen ∨ v ∈ todo ++ [n] → v ∈ keys (ptk n (c + 1) seen) ∨ v ∈ todo := fun v q => by
  rw [hkk]
  rcases q with q | q
  · exact .inl q
  · rcases List.mem_append.1 q with q | q
    · exact .inr q
    · rw [List.mem_singleton.1 q]; exact .inl hk
 refine ⟨ptk_nodup h.nd, fun x hx => h.s x ((hkk x).1 hx), fun x hx => h.t x (List.mem_append_left _ hx), fun x hx v hv => hT v (h.c x ((hkk x).1 hx) v hv), fun v hv => hT v (h.a v hv), fun x c' hc => ?_⟩
 rw [lkp_put] at hc
 split at hc
 · cases hc; have := h.n n c hn; omega
 · have := h.n x c' hc; omega
theorem walk_new {P : List Pr} {a n : Int} {seen : List (Int × Int)} {todo row : List Int} {B B' : Nat} (h : Walk P a seen (todo ++ [n]) B) (hn : lkp n seen = none) (hr : ∀ v, v ∈ row ↔ (n, v) ∈ P) (hB : B + 1 ≤ B') : Walk P a (ptk n 1 seen) (todo ++ row) B' := by
 have hkk : ∀ x, x ∈ keys (ptk n 1 seen) ↔ x = n ∨ x ∈ keys seen := fun x => keys_ptk_iff
 have hna : TC P a n := h.t n (List.mem_append_right _ (by simp))
 have hT : ∀ v, v ∈ keys seen ∨ v ∈ todo ++ [n] → v ∈ keys (ptk n 1 seen) ∨ v ∈ todo ++ row := fun v q => by
  rw [hkk]
  rcases q with q | q
  · exact .inl (.inr q)
  · rcases List.mem_append.1 q with q | q
    · exact .inr (List.mem_append_left _ q)
    · exact .inl (.inl (List.mem_singleton.1 q))
 refine ⟨ptk_nodup h.nd, fun x hx => ?_, fun x hx => ?_, fun x hx v hv => ?_, fun v hv => hT v (h.a v hv), fun x c' hc => ?_⟩
 · rcases (hkk x).1 hx with rfl | hx
   · exact hna
   · exact h.s x hx
 · rcases List.mem_append.1 hx with hx | hx
   · exact h.t x (List.mem_append_left _ hx)
   · exact hna.trans (.one ((hr x).1 hx))
 · rcases (hkk x).1 hx with rfl | hx
   · exact .inr (List.mem_append_right _ ((hr v).2 hv))
   · exact hT v (h.c x hx v hv)
 · rw [lkp_put] at hc
   split at hc
   · cases hc; omega
   · have := h.n x c' hc; omega
theorem walk_end {P : List Pr} {a : Int} {seen : List (Int × Int)} {B : Nat} (h : Walk P a seen [] B) (b : Int) : b ∈ keys seen ↔ TC P a b := by
 refine ⟨h.s b, fun hb => ?_⟩
 have key : ∀ x b, (∀ v, (x, v) ∈ P → v ∈ keys seen) → TC P x b → b ∈ keys seen := by
  intro x b hx ht
  induction ht with
  | one q => exact hx _ q
  | cons q _ ih => exact ih fun v hv => (h.c _ (hx _ q) v hv).resolve_right fun q => by cases q
 exact key a b (fun v hv => (h.a v hv).resolve_right fun q => by cases q) hb
end Go.Proofs.YtklhdalppmjnaaaGreatDoor
/- Walks through the Go functions span.bad, span.next, as typed contracts. -/
namespace Go.Proofs.YtklhdalppmjnaaaGreatDoor
open Go Go.Gw Go.So Go.Tu Go.Jn
open Go.Dr hiding Pr
set_option linter.unusedVariables false
set_option linter.unusedSimpArgs false
theorem hdV_rw (m : List Fr) (u : Int) (v : Int) (w : Value) : ptk u w (hdV m) = hdV (ptk u (w, rwF m u ++ [v]) m) := (hdV_ptk u (w, rwF m u ++ [v]) m).symm
theorem NxOk.more {P : List Pr} {m : List Fr} {N : Nat} (h : NxOk P m N) : NxOk P m (N + 1) := ⟨h.nd, h.mem, h.key, fun u => by have := h.len u; omega, by have := h.num; omega⟩
theorem bad_expr (l : Lab) : ((decide ((l.length : Int) < 1) || decide ((l.length : Int) > 16)) || !l.all isLow) = !nameB l := by
 have e1 : decide ((l.length : Int) < 1) = !decide ((1 : Int) ≤ (l.length : Int)) := by rw [Bool.eq_iff_iff]; simp only [decide_eq_true_eq, Bool.not_eq_true', decide_eq_false_iff_not]; omega
 have e2 : decide ((l.length : Int) > 16) = !decide ((l.length : Int) ≤ 16) := by rw [Bool.eq_iff_iff]; simp
 rw [← name_expr l, e1, e2]
 generalize decide ((1 : Int) ≤ (l.length : Int)) = a
 generalize decide ((l.length : Int) ≤ 16) = b
 generalize l.all isLow = c
 cases a <;> cases b <;> cases c <;> rfl
theorem nx_own2 {g : Nat} {RR : It} {m : List Fr} {u : Int} {w : Value} {zs : List Int} {s3 : MS} : Picks (RanM g encI IsV (ptk u w (hdV m)) s3 :: OwnI 3 kI w zs :: RR :: (dlk u m).map frI) (RR :: RanM g encI IsV (hdV (ptk u (w, zs) m)) s3 :: (ptk u (w, zs) m).map frI) := by
 rw [hdV_ptk]
 refine pc 2 rfl (pc 0 rfl (picks_perm ?_))
 exact (frs_perm (n := u) (x := (w, zs)) (m := m)).symm
theorem nx_own {g : Nat} {B : It} {m : List Fr} {u v : Int} {w : Value} : Picks (MapI g encI IsV (ptk u w (hdV m)) :: OwnI 3 kI w (rwF m u ++ [v]) :: B :: (dlk u m).map frI) (MapI g encI IsV (hdV (ptk u (w, rwF m u ++ [v]) m)) :: (ptk u (w, rwF m u ++ [v]) m).map frI) := by
 rw [← hdV_rw]
 refine pc 0 rfl (picks_trans (pc 0 rfl (pd pl)) (picks_perm ?_))
 exact (frs_perm (n := u) (x := (w, rwF m u ++ [v])) (m := m)).symm

set_option maxRecDepth 20000 in
/-- rhizome/span.bad -/
theorem spbad_fn (l : Lab) : Ct Tryz.prog 55 [BsT l] ([]) Unit (fun _ => BoolT (!nameB l)) (fun _ => []) (fun _ => True) := by
 refine fn_intro Tryz.func55 rfl rfl ?_
 intro H w
 refine sq (te (ec 0 rfl en) (rg (ak rfl (tn (nn (sq (te (ec 0 rfl en) (rg (mv rfl rfl (oP (pu_len_bs Tryz.underlying9 (oT rfl)) rfl (oP (pu_lss (oT rfl) ot) rfl (mv rfl rfl (oG rfl rfl rfl (gm (oT rfl)) (fun hg => by (have hg1 := hg.2; (try simp only [cq2] at hg1); exact pu_move (oT rfl))) rfl ?_)))))))))))))
 refine oG rfl rfl rfl (gm (oT rfl)) (fun hg => by (have hg1 := hg.2; (try simp only [cq2] at hg1); exact pu_len_bs Tryz.underlying9 (by exact gu (oT rfl) hg))) rfl ?_
 refine oG rfl rfl rfl (gm (oT rfl)) (fun hg => by (have hg1 := hg.2; (try simp only [cq2] at hg1); exact pu_gtr (by exact gu (oT rfl) hg) ot)) rfl ?_
 refine oP (pu_pick_or (oT rfl) (oT rfl)) rfl (mv rfl rfl (oG rfl rfl rfl (gm (oT rfl)) (fun hg => by (have hg1 := hg.2; (try simp only [cq2] at hg1); exact pu_move (oT rfl))) rfl ?_))
 refine op_gu_acts () rfl rfl rfl (gm (oT rfl)) (fun hg => by (have hg1 := hg.2; (try simp only [cq2] at hg1); exact acts_callM (ContainsSp_ct (K0 := noK) (n0 := 0) _) mk_none y42 (oc (by exact gu (oT rfl) hg) (oc OT.func oN)) pR)) rfl (fun _ _ => ?_)
 refine oP (pu_pick_or (oT rfl) (oT rfl)) rfl (av rfl rfl (tn (nn (tR ?_))))
 exact ret_one .ret (.inl rfl) rfl () (OT.val (oT rfl) (congrArg Value.bool (bad_expr l))) trivial (by exact pn)
set_option maxRecDepth 20000 in
/-- rhizome/span.next -/
theorem spnext_fn (lab : Lab) (es : List Ed) (hm : es.length ≤ 100000) : Ct Tryz.prog 56 [BsT lab, SlT kE es] ([]) (List Fr) (fun m => MapT encI (ksl kI).T (rowsF m)) (fun _ => []) (fun m => NxOk (labE lab es) m es.length) := by
 refine fn_intro Tryz.func56 rfl rfl ?_
 intro H w
 refine sq (te (ec 0 rfl (ec 1 rfl en)) (rg (ak rfl (tn (nn (sq (te (ec 0 rfl (ec 1 rfl en)) (rg (oA (acts_makeMap encI IsV) pR rfl rfl (fun g1_0 _ => ?_))))))))))
 refine av rfl rfl (tn (nn (sq (sq (te (ec 0 rfl (ec 1 rfl (ec 5 rfl en))) (rg (mv rfl rfl (oP (pls (oT rfl) Tryz.underlying26) rfl (oP (pu_move ot) rfl (tn (nn (tb (tr_loopK (σ := Nat × List Fr) (ec 0 rfl (ec 5 rfl (ec 11 rfl (ec 12 rfl en)))) (fun s => [(13, I64 (s.1 : Int))]) (fun s => MapI g1_0 encI IsV (hdV s.2) :: s.2.map frI) (fun s => s.1 ≤ es.length ∧ NxOk (labE lab (es.take s.1)) s.2 s.1) (fun s => es.length - s.1) (0, []) ⟨Nat.zero_le _, nx_nil⟩ ?_ (op pl) ?_)))))))))))))
 · exact (ec 13 rfl en)
 · rintro ⟨k, m⟩ ⟨hk, hin⟩
   dsimp only at hk hin ⊢
   refine sq (te (ec 0 rfl (ec 5 rfl (ec 11 rfl (ec 12 rfl (ec 13 rfl en))))) (rg (oP (pu_lss (oT rfl) (oT rfl)) rfl (tn (nn (sq (tc (oT rfl) (fun c14 => ?_) (fun c14 => ?_))))))))
   · refine sk (nn (sq (tb (sq (te (ec 0 rfl (ec 5 rfl (ec 11 rfl (ec 12 rfl (ec 13 rfl en))))) ?_)))))
     have hkl : k < es.length := by simp only [decide_eq_true_eq] at c14; omega
     obtain ⟨e, he⟩ : ∃ e, at' es (k : Int) = e := ⟨_, rfl⟩
     have hst := labE_step (lab := lab) hkl he
     refine rg (oP (pu_index (oT rfl) (oT rfl) Tryz.underlying26 y61 (by omega) (by omega)) rfl (oP (pL (oT rfl) y61) rfl (oA (acts_alloc (zE)) pR rfl rfl (fun g4_2 _ => ?_))))
     refine oA (asv (oT rfl) (oT rfl) (by exact pA 0 rfl) y61) (by exact pA 0 rfl) rfl rfl (fun _ _ => ?_)
     refine tn ?_
     rw [he]
     refine nn (sq (te (ec 0 rfl (ec 5 rfl (ec 7 rfl (ec 11 rfl (ec 12 rfl (ec 13 rfl en)))))) (rg (oP (pf (oT rfl) y62) rfl (oP (plb (oT rfl) (by exact mA 0 rfl) le1 y40) rfl ?_)))))
     refine mv rfl rfl (oP (pu_bs_eql (oT rfl) (oT rfl)) rfl (tn (nn (tc (oT rfl) (fun c20 => ?_) (fun c20 => ?_)))))
     · have hlb : e.2.1 = lab := of_decide_eq_true c20
       rw [if_pos hlb] at hst
       have hln := hin.len e.1
       refine te (ec 0 rfl (ec 5 rfl (ec 7 rfl (ec 11 rfl (ec 12 rfl (ec 13 rfl en)))))) (tr_pickFX [_, _] e.1 rfl ?_)
       apply tr_anyG (ρ := Value) (φ := fun rr => True) (p := 10) (Lf := fun c rr => cond c (OwnI 3 kI rr (rwF m e.1 ++ [e.2.2]) :: BlkI g4_2 42 kE e :: MapI g1_0 encI IsV (hdV m) :: (dlk e.1 m).map frI) (OwnI 3 kI ((lkp e.1 (hdV m)).getD nilS) (rwF m e.1) :: BlkI g4_2 42 kE e :: MapI g1_0 encI IsV (hdV m) :: (dlk e.1 m).map frI)) nilS (by kernel_rfl) (m := 11) (ns := [[(5, none)], [(7, none)], [(22, some 1)], [(5, none)], [(7, none)], [(25, some 4)], [(24, some 3), (26, some 5)], [(7, none)], [(28, some 7)], [(29, some 8)], [(27, some 6), (30, some 9)]]) (by kernel_rfl) (by kernel_rfl) (Ts := fun rr => [_, _, _, _, _, _, _, _, _, SlT kI [e.2.2], IsV rr]) (fun _ => rfl)
       case hops =>
        refine ⟨?_, ?_, ?_, ?_, ?_, ?_, ?_, ?_, ?_, ?_, ?_, trivial⟩
        · exact ⟨by intro c r hc; cases c <;> exact rgo r rfl ⟨rfl, trivial⟩ (rmv rfl), fun _ _ _ _ => rfl⟩
        · exact ⟨by intro c r hc; cases c <;> exact rgo r rfl ⟨rfl, trivial⟩ (rP (pf (oT rfl) y63)), fun _ _ _ _ => rfl⟩
        · exact ⟨by intro c r hc; cases c <;> exact rgo r rfl ⟨rfl, trivial⟩ (rP (plb (oT rfl) (by exact mA 1 rfl) le0 y2)), fun _ _ _ _ => rfl⟩
        · exact ⟨cBf (by kernel_rfl) fun r _ => rgo r rfl ⟨rfl, trivial⟩ (rmv rfl), fun _ _ _ _ => rfl⟩
        · exact ⟨cBf (by kernel_rfl) fun r _ => rgo r rfl ⟨rfl, trivial⟩ (rP (pf (oT rfl) y63)), fun _ _ _ _ => rfl⟩
        · exact ⟨cBf (by kernel_rfl) fun r _ => rgo r rfl ⟨rfl, trivial⟩ (rP (plb (oT rfl) (by exact mA 1 rfl) le0 y2)), fun _ _ _ _ => rfl⟩
        · exact ⟨cBf (by kernel_rfl) fun r _ => rgo r rfl ⟨rfl, trivial⟩ (rP (pu_lookup_raw mkI Tryz.underlying120 (z0 := nilS) (by kernel_rfl) (oT rfl) (by exact mA 2 rfl) (oT rfl))), fun _ _ _ _ => rfl⟩
        · exact ⟨cBf (by kernel_rfl) fun r _ => rgo r rfl ⟨rfl, trivial⟩ (rP (pf (oT rfl) y64)), fun _ _ _ _ => rfl⟩
        · exact ⟨cBf (by kernel_rfl) fun r _ => rgo r rfl ⟨rfl, trivial⟩ (rP (plb (oT rfl) (by exact mA 1 rfl) le2 y2)), fun _ _ _ _ => rfl⟩
        · exact ⟨cBf (by kernel_rfl) fun r _ => rgo r rfl ⟨rfl, trivial⟩ (rop_acts rfl (acts_lit (d := kI) (v0 := 0) y73 y2 zI (show 1 * 1 ≤ 16777216 from by decide) (by decide) (fills_arr rfl rfl (by decide) (oT rfl) fills_nil)) (fun _ _ _ _ h => h)), fun _ _ _ _ => rfl⟩
        · refine ⟨?_, ?_⟩
          · exact cBf (by kernel_rfl) fun r _ => ropg_acts rfl (acts_append (oT rfl) (by exact pA 0 rfl) (oT rfl) y73 (by (simp; omega)) (by (simp [maxLen]; omega))) (by exact pA 0 rfl) (fun r => pR) (fun _ _ _ => trivial) (fun _ _ _ _ h => h)
          · exact fun _ h => absurd h (by decide)
       case h =>
        intro v6_10 _
        refine oA (acts_update mkI Tryz.underlying120 (oT rfl) (by exact pA 2 rfl) (oT rfl) (oT rfl)) (by exact pA 2 rfl) rfl rfl (fun _ _ => ?_)
        refine tn (bn (nn (te (ec 0 rfl (ec 5 rfl (ec 11 rfl (ec 12 rfl (ec 13 rfl en))))) (rg (oP (pad (oT rfl) ot (by omega)) rfl (mv rfl rfl (tn (nn ?_))))))))
        exact tg (k + 1, ptk e.1 (v6_10, rwF m e.1 ++ [e.2.2]) m) ⟨hkl, by rw [hst]; exact hin.put⟩ (by show es.length - (k + 1) < es.length - k; omega) (ea (ec 13 rfl en) (ec 0 rfl (ec 5 rfl (ec 11 rfl (ec 12 rfl en))))) (op nx_own)
     · have hlb : ¬ e.2.1 = lab := of_decide_eq_false c20
       rw [if_neg hlb] at hst
       refine sk (bn (nn (te (ec 0 rfl (ec 5 rfl (ec 11 rfl (ec 12 rfl (ec 13 rfl en))))) (rg (oP (pad (oT rfl) ot (by omega)) rfl (mv rfl rfl (tn (nn ?_))))))))
       exact tg (k + 1, m) ⟨hkl, by rw [hst]; exact NxOk.more hin⟩ (by show es.length - (k + 1) < es.length - k; omega) (ea (ec 13 rfl en) (ec 0 rfl (ec 5 rfl (ec 11 rfl (ec 12 rfl en))))) (op (pd pl))
   · refine tr_exit (tx (tx (bh (nn (sq (sq (te (ec 5 rfl en) ?_)))))))
     obtain rfl : k = es.length := by simp only [decide_eq_false_iff_not] at c14; omega
     rw [List.take_length] at hin
     refine tr_mapx (perm_at 0 rfl) fun s0 => (rg (mv rfl rfl (oA (acts_range_map Tryz.underlying120 (oT rfl) (by exact mA 0 rfl)) pR rfl rfl (fun r8_1 hr8_1 => ?_))))
     refine tn (nn (tb (tr_loopK (σ := IS × List Int × Option Int × List Fr × MS) (ec 5 rfl (ec 34 rfl en)) (fun s => []) (fun s => RanR r8_1.1 g1_0 s.1 :: RanM g1_0 encI IsV (hdV s.2.2.2.1) s.2.2.2.2 :: s.2.2.2.1.map frI) (fun s => RanOk (hdV s.2.2.2.1) s.2.2.2.2 s.1 s.2.1 s.2.2.1 ∧ NxOk (labE lab es) s.2.2.2.1 es.length) (fun s => s.2.1.length) (r8_1.2, keys (hdV m), none, m, s0) ⟨hr8_1, hin⟩ ?_ (op pl) ?_)))
     · exact en
     · rintro ⟨i, todo, cur, m2, s0⟩ ⟨hok, hin2⟩
       dsimp only at hok hin2 ⊢
       refine sq (te (ec 5 rfl (ec 34 rfl en)) (rg (oA (acts_next_map (oT rfl) (mem_at 1 rfl) (perm_at 0 rfl) hok) (perm_at 0 rfl) rfl rfl (fun q9_0 hq9_0 => ?_))))
       refine oP (pu_nextm (oT rfl)) rfl (tn (nn (sq (tc (oT rfl) (fun c36 => ?_) (fun c36 => ?_)))))
       · obtain ⟨i2, o2⟩ := q9_0
         obtain ⟨key, rfl⟩ : ∃ k, o2 = some k := by
          cases o2 with
          | none => exact Bool.noConfusion c36
          | some k => exact ⟨k, rfl⟩
         dsimp only at hq9_0 c36 ⊢
         obtain ⟨hkt, hok2⟩ := hq9_0
         obtain ⟨x, hx⟩ : ∃ x, lkp key m2 = some x := by
          have h1 := hok.sub _ hkt
          rw [show keys (hdV m2) = keys m2 from keys_map (fun x : Value × List Int => x.1)] at h1
          exact lkp_keyD h1
         have hkm : key ∈ keys m2 := by
          have h1 := hok.sub _ hkt
          rwa [show keys (hdV m2) = keys m2 from keys_map (fun x : Value × List Int => x.1)] at h1
         have hbv : lkp key (hdV m2) = some x.1 := by unfold hdV; rw [lkp_map (fun x : Value × List Int => x.1), hx]; rfl
         have hbv2 : (lkp key (hdV m2)).getD nilS = x.1 := by rw [hbv]; rfl
         have hln := hin2.len key
         have hle : (todo.erase key).length < todo.length := by
          have h1 := List.length_erase_of_mem hkt
          have h2 := List.length_pos_of_mem hkt
          omega
         refine sk (nn (tb (sq (te (ec 5 rfl (ec 34 rfl en)) (rg (oP (pu_entry_map (D := IsV _) (oT rfl) (mem_at 0 rfl) (mem_at 1 rfl) hok2 hbv (fun H => rfl)) rfl (oP (pu_extract (oT rfl) rfl) rfl (oP (pu_extract (oT rfl) rfl) rfl (av rfl rfl (av rfl rfl (tn (nn (sq (te (ec 5 rfl (ec 8 rfl (ec 9 rfl (ec 34 rfl en)))) (tr_pickFX [_, _] key rfl ?_)))))))))))))))
         rw [hbv2]
         refine rg (mv rfl rfl (oA (aC (sortInts_ct (by omega)) y122 (oc (oT rfl) oN) (perm_at 0 rfl)) (perm_at 0 rfl) rfl rfl fun ys hys => (tn (nn (te (ec 5 rfl (ec 8 rfl (ec 9 rfl (ec 34 rfl en)))) (rg (mv rfl rfl (mv rfl rfl (mv rfl rfl (oA (aC (compactInts_ct (xs := ys) (by have := hys.length_eq; omega)) y123 (oc (oT rfl) oN) (perm_at 0 rfl)) (perm_at 0 rfl) rfl rfl fun zs hzs => ?_))))))))))
         refine oA (acts_update_ran (V := IsV) (v := zs.1) mkI Tryz.underlying120 (oT rfl) (perm_at 2 rfl) (oT rfl) (oT rfl) (hok.sub _ hkt)) (perm_at 2 rfl) rfl rfl (fun s3 hs3 => ?_)
         refine tn ?_
         have hok3 := hs3 _ _ _ hok2
         refine bn (nn ?_)
         exact tg (i2, todo.erase key, none, ptk key (zs.1, zs.2) m2, s3) ⟨by show RanOk (hdV (ptk key (zs.1, zs.2) m2)) _ _ _ _; rw [hdV_ptk]; exact hok3, hin2.set hkm (fun y => by rw [hzs.1, hys.mem_iff]) (by have := hys.length_eq; have := hzs.2; omega)⟩ hle (ea en (ec 5 rfl (ec 34 rfl en))) (op nx_own2)
       · obtain ⟨i2, o2⟩ := q9_0
         obtain rfl : o2 = none := by
          cases o2 with
          | none => rfl
          | some k => exact Bool.noConfusion c36
         dsimp only at hq9_0 ⊢
         obtain ⟨rfl, hok2⟩ := hq9_0
         exact tr_mapc (perm_at 1 rfl) (tr_exit (tx (tx (bh (nn (sq (te (ec 5 rfl en) (rg (mv rfl rfl (av rfl rfl (tn (tr_frz (fromF g1_0 m2) (R := [RanR r8_1.1 g1_0 i2]) (List.Perm.cons _ (List.perm_append_singleton _ _).symm) 4 (oT rfl) (fun H q => q) (nn (tR (ret_one .ret (.inl rfl) rfl m2 (oT rfl) hin2 pn)))))))))))))))
end Go.Proofs.YtklhdalppmjnaaaGreatDoor
/- Walks through the Go functions slices.Clone[[]int,int], span.reached, as typed contracts. -/
namespace Go.Proofs.YtklhdalppmjnaaaGreatDoor
open Go Go.Gw Go.So Go.Tu Go.Jn
open Go.Dr hiding Pr
set_option linter.unusedVariables false
set_option linter.unusedSimpArgs false
theorem cut_last {l : List Int} (h : 0 < l.length) : l.take (l.length - 1) ++ [at' l ((l.length : Int) - 1)] = l := by
 have e : ((l.length : Int) - 1) = ((l.length - 1 : Nat) : Int) := by omega
 rw [e, at'_nat (by omega), ← List.take_succ_eq_append_getElem (by omega), show l.length - 1 + 1 = l.length from by omega, List.take_length]
/-- The pairs that rows tell. -/
structure Rows (P : List Pr) (m : List (Int × List Int)) (N : Nat) : Prop where
 nd : (keys m).Nodup
 mem : ∀ u v, v ∈ (lkp u m).getD [] ↔ (u, v) ∈ P
 len : ∀ f ∈ m, f.2.length ≤ N
 num : m.length ≤ N
theorem NxOk.rows {P : List Pr} {m : List Fr} {N : Nat} (h : NxOk P m N) : Rows P (rowsF m) N := ⟨by rw [keys_rowsF]; exact h.nd, fun u v => by rw [rowsF_lkp]; exact h.mem u v, fun f hf => by
 obtain ⟨x, hx, rfl⟩ := List.mem_map.1 hf
 have h1 := h.len x.1
 unfold rwF at h1
 obtain ⟨j, hj⟩ := List.getElem?_of_mem hx
 rw [lkp_at (x := x.2) h.nd hj] at h1
 exact h1, by rw [rowsF, List.length_map]; exact h.num⟩
theorem Rows.row {P : List Pr} {m : List (Int × List Int)} {N : Nat} (h : Rows P m N) (u : Int) : ((lkp u m).getD []).length ≤ N := by
 cases hl : lkp u m with
 | none => exact Nat.zero_le _
 | some l => exact h.len _ (lkp_mem hl)
abbrev mW (m : List (Int × List Int)) (seen : List (Int × Int)) (todo : List Int) : Nat := todo.length + left m (keys seen)
theorem mW_new {P : List Pr} {m : List (Int × List Int)} {N : Nat} (h : Rows P m N) {seen : List (Int × Int)} {todo : List Int} {n : Int} (hn : lkp n seen = none) : mW m (ptk n 1 seen) (todo ++ (lkp n m).getD []) + 1 = mW m seen (todo ++ [n]) := by
 unfold mW
 have h1 := left_new (x := n) (lkp_none.1 hn) h.nd
 have h2 : left m (keys (ptk n 1 seen)) = left m (n :: keys seen) := left_congr fun x => by rw [keys_ptk_iff, List.mem_cons]
 rw [List.length_append, List.length_append, List.length_singleton, h2]; omega
theorem mW_old {m : List (Int × List Int)} {seen : List (Int × Int)} {todo : List Int} {n c : Int} (hn : lkp n seen = some c) : mW m (ptk n (c + 1) seen) todo + 1 = mW m seen (todo ++ [n]) := by
 unfold mW
 have hk : n ∈ keys seen := Classical.byContradiction fun q => by rw [lkp_none.2 q] at hn; cases hn
 have h2 : left m (keys (ptk n (c + 1) seen)) = left m (keys seen) := left_congr fun x => by rw [keys_ptk_iff]; exact ⟨fun q => q.elim (fun e => e ▸ hk) id, .inr⟩
 rw [List.length_append, List.length_singleton, h2]; omega
theorem mW_le {P : List Pr} {m : List (Int × List Int)} {N : Nat} (h : Rows P m N) (u : Int) : mW m [] ((lkp u m).getD []) ≤ N + N * N := by
 unfold mW
 have h1 := h.row u
 have h2 := left_len (s := keys ([] : List (Int × Int))) h.len
 have h3 : m.length * N ≤ N * N := Nat.mul_le_mul_right _ h.num
 omega

set_option maxRecDepth 20000 in
/-- slices.Clone[[]int,int] -/
theorem CloneI_fn (xs : List Int) (hm : xs.length ≤ 1000000) : Ct Tryz.prog 90 [SlT kI xs] ([]) Value (fun v => IsV v) (fun v => [OwnI 3 kI v xs]) (fun _ => True) := by
 refine fn_intro Tryz.func90 rfl rfl ?_
 intro H w
 refine sq (te (ec 0 rfl en) (rg (ak rfl (tn (nn (sq (sq (te (ec 0 rfl en) (rg (mv rfl rfl (oA (acts_isnil (oT rfl) Tryz.underlying50) pR rfl rfl (fun b1 hb1 => ?_))))))))))))
 refine tn (nn (tc (oT rfl) (fun c4 => ?_) (fun c4 => ?_)))
 · try simp only [cq] at c4
   obtain rfl := hb1 c4
   refine tr_nilItem 3 kI (sq (te en (rg (ak rfl (tn (nn (tR (tt ?_))))))))
   exact ret_one .ret (.inl rfl) rfl nilS (oT rfl) trivial (by repeat first | exact pn | refine pc 0 rfl ?_)
 · try simp only [cq] at c4
   refine sk (nn (sq (te (ec 0 rfl en) (rg (oA (acts_lit_own (d := kI) (v0 := 0) y73 y2 zI (show 0 * 1 ≤ 16777216 from by decide) (by decide) fills_nil) pR rfl rfl (fun v3_0 _ => ?_))))))
   refine mv rfl rfl (oA (acts_append (oT rfl) (by exact pA 0 rfl) (oT rfl) y73 (by (simp; omega)) (by (simp [maxLen]; omega))) (by exact pA 0 rfl) rfl rfl (fun v3_2 _ => ?_))
   refine av rfl rfl (tn (nn (tR ?_)))
   exact ret_one .ret (.inl rfl) rfl _ (oT rfl) trivial (by repeat first | exact pn | refine pc 0 rfl ?_)
set_option maxRecDepth 20000 in
/-- rhizome/span.reached -/
theorem reached_fn (m : List (Int × List Int)) (P : List Pr) (N : Nat) (a : Int) (h : Rows P m N) (hN : N ≤ 1000) : Ct Tryz.prog 59 [MapT encI (ksl kI).T m, I64 a] ([]) (Nat × List (Int × Int)) (fun q => IsV (mp q.1)) (fun q => [MapI q.1 encI kI.T q.2]) (fun q => (keys q.2).Nodup ∧ ∀ b, b ∈ keys q.2 ↔ TC P a b) := by
 refine fn_intro Tryz.func59 rfl rfl ?_
 intro H w
 have hB := mW_le h a
 have hNN : N * N ≤ 1000 * N := Nat.mul_le_mul_right _ hN
 have hra := h.row a
 obtain ⟨B, hBe⟩ : ∃ B, mW m [] ((lkp a m).getD []) = B := ⟨_, rfl⟩
 refine sq (te (ec 0 rfl (ec 1 rfl en)) (rg (ak rfl (tn (nn (sq (te (ec 0 rfl (ec 1 rfl en)) (rg (oA (acts_makeMap encI kI.T) pR rfl rfl (fun g1_0 _ => ?_))))))))))
 refine av rfl rfl (tn (nn (sq (sq (te (ec 0 rfl (ec 1 rfl (ec 5 rfl en))) (rg (mv rfl rfl (mv rfl rfl (oP (pu_lookup mkI Tryz.underlying120 zLI (oT rfl) (oT rfl)) rfl (oA (aC (CloneI_fn _ (by omega)) y124 (oc (oT rfl) oN) pR) pR rfl rfl (fun v2_3 _ => ?_)))))))))))
 refine av rfl rfl (tn (nn (tb (tr_loopK (σ := Nat × Value × List Int × List (Int × Int)) (ec 0 rfl (ec 5 rfl en)) (fun s => [(6, IsV s.2.1)]) (fun s => OwnI 3 kI s.2.1 s.2.2.1 :: MapI g1_0 encI kI.T s.2.2.2 :: []) (fun s => Walk P a s.2.2.2 s.2.2.1 s.1 ∧ mW m s.2.2.2 s.2.2.1 + s.1 = B) (fun s => mW m s.2.2.2 s.2.2.1) (0, v2_3, (lkp a m).getD [], []) ⟨walk_start fun v => h.mem a v, (by show mW m [] ((lkp a m).getD []) + 0 = B; rw [Nat.add_zero]; exact hBe)⟩ ?_ (op (by repeat first | exact pn | refine pc 0 rfl ?_)) ?_))))
 · exact (ec 6 rfl en)
 · rintro ⟨k, u, todo, seen⟩ ⟨hw, hk⟩
   dsimp only at hw hk ⊢
   refine sq (sq (te (ec 0 rfl (ec 5 rfl (ec 6 rfl en))) (rg (mv rfl rfl (oP (pu_len_own (oT rfl) (by exact mA 0 rfl) Tryz.underlying50) rfl ?_)))))
   refine oP (pu_gtr (oT rfl) ot) rfl (tn (nn (tc (oT rfl) (fun c15 => ?_) (fun c15 => ?_))))
   · refine sk (nn (tb (sq (te (ec 0 rfl (ec 5 rfl (ec 6 rfl en))) ?_))))
     have hpos : 0 < todo.length := by simp only [decide_eq_true_eq] at c15; omega
     have hcl := cut_last hpos
     have htl : todo.length ≤ B := by have h1 : mW m seen todo + k = B := hk; unfold mW at h1; omega
     refine rg (mv rfl rfl (mv rfl rfl (oP (pu_len_own (oT rfl) (by exact mA 0 rfl) Tryz.underlying50) rfl ?_)))
     refine oP (pu_sub' (oT rfl) ot (by omega)) rfl (oP (pio (oT rfl) (by exact mA 0 rfl) (oT rfl) Tryz.underlying50 y2 (by omega) (by omega)) rfl ?_)
     refine oP (plo (oT rfl) (by exact mA 0 rfl) (by omega) (by omega) y2) rfl ?_
     refine av rfl rfl (tn ?_)
     obtain ⟨nod, hnod⟩ : ∃ x, at' todo ((todo.length : Int) - 1) = x := ⟨_, rfl⟩
     rw [hnod] at hcl ⊢
     obtain ⟨td, htd⟩ : ∃ x, todo.take (todo.length - 1) = x := ⟨_, rfl⟩
     rw [htd] at hcl
     refine nn (sq (te (ec 0 rfl (ec 5 rfl (ec 6 rfl (ec 7 rfl en)))) (rg (mv rfl rfl (mv rfl rfl (oP (pu_len_own (oT rfl) (by exact mA 0 rfl) Tryz.underlying50) rfl ?_))))))
     refine oP (pu_sub' (oT rfl) ot (by omega)) rfl (oA (acts_slice_own_hi (oT rfl) (by exact pA 0 rfl) (oT rfl) Tryz.underlying50 y2 (by omega) (by omega)) (by exact pA 0 rfl) rfl rfl (fun v5_4 _ => ?_))
     refine av rfl rfl (tn ?_)
     rw [show ((todo.length : Int) - 1).toNat = todo.length - 1 from by omega, htd]
     have hw2 : Walk P a seen (td ++ [nod]) k := by rw [hcl]; exact hw
     have hk2 : mW m seen (td ++ [nod]) + k = B := by rw [hcl]; exact hk
     have hkB : k ≤ B := by omega
     have hcb : 0 ≤ (lkp nod seen).getD 0 ∧ (lkp nod seen).getD 0 ≤ (k : Int) := by
      cases hl : lkp nod seen with
      | none => exact ⟨Int.le_refl _, by show (0 : Int) ≤ _; omega⟩
      | some c => have := hw.n nod c hl; exact ⟨by show 0 ≤ c; omega, this.2⟩
     have hrn := h.row nod
     have htdl : td.length ≤ todo.length := by rw [← htd, List.length_take]; omega
     refine nn (sq (te (ec 0 rfl (ec 5 rfl (ec 6 rfl (ec 7 rfl en)))) (rg (mv rfl rfl (mv rfl rfl (oP (pu_lookup_own mkI Tryz.underlying136 zI (oT rfl) (by exact mA 1 rfl) (oT rfl)) rfl ?_))))))
     refine oP (pad (oT rfl) ot (by omega)) rfl (oA (acts_update mkI Tryz.underlying136 (oT rfl) (by exact pA 1 rfl) (oT rfl) (oT rfl)) (by exact pA 1 rfl) rfl rfl (fun _ _ => ?_))
     refine tn (nn (sq (te (ec 0 rfl (ec 5 rfl (ec 6 rfl (ec 7 rfl en)))) (rg (mv rfl rfl (mv rfl rfl (oP (pu_lookup_own mkI Tryz.underlying136 zI (oT rfl) (by exact mA 0 rfl) (oT rfl)) rfl ?_)))))))
     refine oP (pu_eql (oT rfl) ot) rfl (tn (nn (tc (oT rfl) (fun c34 => ?_) (fun c34 => ?_))))
     · have hno : lkp nod seen = none := by
        rw [lkp_put, if_pos rfl] at c34
        have h1 : (lkp nod seen).getD 0 + 1 = 1 := of_decide_eq_true c34
        cases hl : lkp nod seen with
        | none => rfl
        | some c => have := hw.n nod c hl; rw [hl] at h1; have h1 : c + 1 = 1 := h1; omega
       have h01 : (lkp nod seen).getD 0 + 1 = 1 := by rw [hno]; rfl
       have hmw := mW_new h (todo := td) hno
       refine te (ec 0 rfl (ec 5 rfl (ec 6 rfl (ec 7 rfl en)))) (rg (mv rfl rfl (mv rfl rfl (mv rfl rfl (oP (pu_lookup mkI Tryz.underlying120 zLI (oT rfl) (oT rfl)) rfl (oA (acts_append (oT rfl) (by exact pA 1 rfl) (oT rfl) y73 (by omega) (by (simp [maxLen]; omega))) (by exact pA 1 rfl) rfl rfl (fun v8_4 _ => ?_)))))))
       refine av rfl rfl (tn (bn (nn ?_)))
       exact tg (k + 1, v8_4, td ++ (lkp nod m).getD [], ptk nod 1 seen) ⟨walk_new hw2 hno (fun v => h.mem nod v) (Nat.le_refl _), (by show mW m (ptk nod 1 seen) (td ++ (lkp nod m).getD []) + (k + 1) = B; omega)⟩ (by show mW m (ptk nod 1 seen) (td ++ (lkp nod m).getD []) < mW m seen todo; omega) (ea (ec 6 rfl en) (ec 0 rfl (ec 5 rfl en))) (op (by rw [h01]; exact (by repeat first | exact pn | refine pc 0 rfl ?_)))
     · obtain ⟨cc, hcc⟩ : ∃ c, lkp nod seen = some c := by
        rw [lkp_put, if_pos rfl] at c34
        cases hl : lkp nod seen with
        | none => rw [hl] at c34; cases c34
        | some c => exact ⟨c, rfl⟩
       have h02 : (lkp nod seen).getD 0 + 1 = cc + 1 := by rw [hcc]; rfl
       have hmw := mW_old (m := m) (todo := td) hcc
       refine sk (bn (nn ?_))
       exact tg (k + 1, v5_4, td, ptk nod (cc + 1) seen) ⟨walk_old hw2 hcc (Nat.le_refl _), (by show mW m (ptk nod (cc + 1) seen) td + (k + 1) = B; omega)⟩ (by show mW m (ptk nod (cc + 1) seen) td < mW m seen todo; omega) (ea (ec 6 rfl en) (ec 0 rfl (ec 5 rfl en))) (op (by rw [h02]; exact (by repeat first | exact pn | refine pc 0 rfl ?_ | refine pc 1 rfl ?_)))
   · refine tr_exit (tx (tx (bh (nn (sq (te (ec 5 rfl en) ?_))))))
     have htz : todo = [] := by simp only [decide_eq_false_iff_not] at c15; exact List.eq_nil_of_length_eq_zero (by omega)
     subst htz
     have hend := walk_end hw
     refine rg (mv rfl rfl (av rfl rfl (tn (nn (tR ?_)))))
     exact ret_one .ret (.inl rfl) rfl (g1_0, seen) (oT rfl) ⟨hw.nd, hend⟩ (by repeat first | exact pn | refine pc 1 rfl ?_)
abbrev kRw : Kd (List (Int × List Int)) := kmap encI (ksl kI).T
theorem keysR_ct (m : List (Int × List Int)) : Ct Tryz.prog 58 [MapT encI (ksl kI).T m] [] Nat (fun b => IsV (.func (.func 89) #[] #[pt b 0])) (fun b => [BlkI b 120 kRw m]) (fun _ => True) :=
 keys_ct (d := kRw) (x := m) Tryz.lKeysL fun H v h => by
  rcases h with ⟨rfl, _⟩ | ⟨g, es, clock, rfl, _⟩
  · exact ⟨none, rfl⟩
  · exact ⟨some g, rfl⟩
theorem hasKeysR {m : List (Int × List Int)} (hin : ∀ v ∈ keys m, in64 v) (hl : m.length ≤ 1000000) : HasKeys kRw m [] (keys m) := by
 intro H w cs hon hK hO
 obtain ⟨v, rfl, h⟩ := hK
 refine ⟨v, rfl, ?_⟩
 rcases h with ⟨rfl, rfl⟩ | ⟨g, es, clock, rfl, h1, h2⟩
 · exact .inl ⟨rfl, rfl⟩
 · exact .inr ⟨List Int, g, (ksl kI).T, m, es, clock, rfl, hon g _ h1, h2, rfl, hin, hl⟩
theorem sortedR_ct {b : Nat} {m : List (Int × List Int)} (hin : ∀ v ∈ keys m, in64 v) (hl : m.length ≤ 1000000) : Ct Tryz.prog 57 [IsV (.func (.func 89) #[] #[pt b 0])] [BlkI b 120 kRw m] (Value × List Int) (fun r => IsV r.1) (fun r => [OwnI 3 kI r.1 r.2, BlkI b 120 kRw m]) (fun r => r.2.Perm (keys m)) :=
 sorted_ct Tryz.lSorted (τ := Tryz.lSort_ren) Tryz.lSort rfl (σ := Tryz.lKeysL_ren) { Tryz.lKeysL with } (enters_of Tryz.func86 (by kernel_rfl) rfl) (enters_of Tryz.func89 (by kernel_rfl) rfl) (hasKeysR hin hl)
/-- What is listed: pairs of the first k nodes, and some of the next. -/
def PrM (P : List Pr) (l : List Int) (M : List Tp) : Prop := M.Nodup ∧ ∀ t, t ∈ M ↔ ∃ a b : Int, t = [a, b] ∧ a ∈ l ∧ TC P a b
def PrJ (P : List Pr) (M : List Tp) (a : Int) (ks todo : List Int) (M1 : List Tp) : Prop := M1.Nodup ∧ ∀ t, t ∈ M1 ↔ t ∈ M ∨ ∃ b, t = [a, b] ∧ b ∈ ks ∧ b ∉ todo
theorem prm_len {P : List Pr} {M : List Tp} (hn : M.Nodup) (h : ∀ t, t ∈ M → ∃ a b : Int, t = [a, b] ∧ TC P a b) (hP : P.length ≤ 60) : M.length ≤ 3600 := by
 have h1 := len_sub (m := P.flatMap fun p => P.map fun q => ([p.1, q.2] : Tp)) hn fun t ht => by
  obtain ⟨a, b, rfl, h1⟩ := h t ht
  obtain ⟨⟨c1, h1⟩, c2, h2⟩ := h1.ends
  exact List.mem_flatMap.2 ⟨_, h1, List.mem_map.2 ⟨_, h2, rfl⟩⟩
 have h2 := flat_len (fun p : Pr => P.map fun q : Pr => ([p.1, q.2] : Tp)) P.length P fun x hx => by simp
 have h3 : P.length * P.length ≤ 60 * 60 := Nat.mul_le_mul hP hP
 omega
theorem prj_in {P : List Pr} {l : List Int} {M M1 : List Tp} {a : Int} {ks todo : List Int} (hM : PrM P l M) (hk : ∀ b, b ∈ ks ↔ TC P a b) (h : PrJ P M a ks todo M1) : ∀ t, t ∈ M1 → ∃ a b : Int, t = [a, b] ∧ TC P a b := fun t ht => by
 rcases (h.2 t).1 ht with h1 | ⟨b, h1, h2, _⟩
 · obtain ⟨a, b, h1, _, h2⟩ := (hM.2 t).1 h1; exact ⟨a, b, h1, h2⟩
 · exact ⟨a, b, h1, (hk b).1 h2⟩
theorem prj_start {P : List Pr} {l : List Int} {M : List Tp} {a : Int} {ks : List Int} (hM : PrM P l M) : PrJ P M a ks ks M := ⟨hM.1, fun t => ⟨.inl, fun h => h.elim id fun ⟨b, _, h1, h2⟩ => absurd h1 h2⟩⟩
theorem prj_step {P : List Pr} {l : List Int} {M M1 : List Tp} {a b : Int} {ks todo : List Int} (hM : PrM P l M) (ha : a ∉ l) (hn : todo.Nodup) (hb : b ∈ todo) (hbk : b ∈ ks) (h : PrJ P M a ks todo M1) : PrJ P M a ks (todo.erase b) (M1 ++ [[a, b]]) := by
 refine ⟨List.nodup_append.2 ⟨h.1, by simp, fun x hx y hy e => ?_⟩, rd_step1 hn hb hbk h.2⟩
 have hy : y = [a, b] := by simpa using hy
 subst hy; subst e
 rcases (h.2 _).1 hx with h1 | ⟨b2, h1, _, h2⟩
 · obtain ⟨a2, b2, h1, h2, _⟩ := (hM.2 _).1 h1
   exact ha ((List.cons.inj h1).1 ▸ h2)
 · have : b2 = b := ((List.cons.inj (List.cons.inj h1).2).1).symm
   exact h2 (this ▸ hb)
theorem prj_end {P : List Pr} {l : List Int} {k : Nat} {M M1 : List Tp} {ks : List Int} (hk : k < l.length) (hks : ∀ b, b ∈ ks ↔ TC P (at' l (k : Int)) b) (hM : PrM P (l.take k) M) (h : PrJ P M (at' l (k : Int)) ks [] M1) : PrM P (l.take (k + 1)) M1 := by
 refine ⟨h.1, fun t => ?_⟩
 rw [h.2, hM.2]
 constructor
 · rintro (⟨a, b, h1, h2, h3⟩ | ⟨b, h1, h2, _⟩)
   · exact ⟨a, b, h1, (mem_take1 hk).2 (.inl h2), h3⟩
   · exact ⟨_, b, h1, (mem_take1 hk).2 (.inr rfl), (hks b).1 h2⟩
 · rintro ⟨a, b, h1, h2, h3⟩
   rcases (mem_take1 hk).1 h2 with h2 | rfl
   · exact .inl ⟨a, b, h1, h2, h3⟩
   · exact .inr ⟨b, h1, (hks b).2 h3, by simp⟩
/-- The span, as tuples. -/
def SpanT (P : List Pr) (R : List Tp) : Prop := Rises R ∧ ∀ t, t ∈ R ↔ ∃ a b : Int, t = [a, b] ∧ TC P a b
theorem prm_done {P : List Pr} {m : List (Int × List Int)} {N : Nat} (hr : Rows P m N) {l : List Int} (hl : l.Perm (keys m)) {M : List Tp} (hM : PrM P l M) : SpanT P (setR M) := by
 refine ⟨(setR_spec M).1, fun t => ?_⟩
 rw [(setR_spec M).2, hM.2]
 constructor
 · rintro ⟨a, b, h1, _, h2⟩; exact ⟨a, b, h1, h2⟩
 · rintro ⟨a, b, h1, h2⟩
   refine ⟨a, b, h1, hl.mem_iff.2 ?_, h2⟩
   obtain ⟨⟨c, hc⟩, _⟩ := h2.ends
   have := (hr.mem a c).2 hc
   cases hq : lkp a m with
   | none => rw [hq] at this; cases this
   | some x => exact Classical.byContradiction fun q => by rw [lkp_none.2 q] at hq; cases hq
theorem nodup_take {l : List Int} {k : Nat} (hn : l.Nodup) (hk : k < l.length) : at' l (k : Int) ∉ l.take k := by
 rw [at'_nat hk]
 intro h
 obtain ⟨j, hj, h2⟩ := List.mem_take_iff_getElem.1 h
 have := (List.getElem_inj hn).1 h2
 omega
theorem prm_small {P : List Pr} {M : List Tp} (hl : M.length ≤ 3600) (h : ∀ t, t ∈ M → ∃ a b : Int, t = [a, b] ∧ TC P a b) : Small M := ⟨by omega, fun t ht => by obtain ⟨a, b, rfl, _⟩ := h t ht; show (2 : Nat) ≤ _; omega⟩

set_option maxRecDepth 20000 in
/-- rhizome/span.Pairs -/
theorem Pairs_fn (lab : Lab) (es : List Ed) (hm : es.length ≤ 60) (hei : ∀ e ∈ es, in64 e.1 ∧ in64 e.2.2) : Ct Tryz.prog 35 [BsT lab, SlT kE es] ([]) (List Tp) (fun R => TupT [SlT kT R, I64 (if nameB lab then 0 else 1)]) (fun _ => []) (fun R => if nameB lab then SpanT (labE lab es) R else R = []) := by
 refine fn_intro Tryz.func35 rfl rfl ?_
 intro H w
 refine sq (te (ec 0 rfl (ec 1 rfl en)) (rg (ak rfl (ak rfl (tn (nn (sq (sq (te (ec 0 rfl (ec 1 rfl en)) (rg (mv rfl rfl (oA (aC (spbad_fn lab) y125 (oc (oT rfl) oN) pR) pR rfl rfl (fun _ _ => ?_)))))))))))))
 refine tn (nn (tc (oT rfl) (fun c12 => ?_) (fun c12 => ?_)))
 · have hnb : nameB lab = false := by simpa using c12
   refine sq (te en (rg (ak rfl (ak rfl (tn (nn (tR (tt ?_))))))))
   exact ret_two .ret (.inl rfl) rfl ([]) (OT.conv (oT rfl) (fun H u h => nil_slt h)) (OT.val (oT rfl) (congrArg (Value.int _) (by rw [hnb]; rfl))) (fun _ _ h => h) (by rw [hnb]; rfl) (by exact pn)
 · have hnb : nameB lab = true := by simpa using c12
   refine sk (nn (sq (te (ec 0 rfl (ec 1 rfl en)) (rg (mv rfl rfl (mv rfl rfl (oA (aC (spnext_fn lab es (by omega)) y126 (oc (oT rfl) (oc (oT rfl) oN)) pR) pR rfl rfl (fun m hmx => ?_))))))))
   refine av rfl rfl (tn ?_)
   have hrw := hmx.rows
   have hPl := labE_len lab es
   have hki : ∀ v ∈ keys (rowsF m), in64 v := fun v hv => by
    rw [keys_rowsF] at hv
    obtain ⟨b, hb⟩ := hmx.key v hv
    obtain ⟨e, he, h1⟩ := List.mem_map.1 hb
    rw [← show e.1 = v from congrArg Prod.fst h1]; exact (hei e (List.mem_filter.1 he).1).1
   have hml := hrw.num
   refine nn (sq (te (ec 6 rfl en) (rg (ak rfl (tn (tr_nilItem 51 kT (nn (sq (sq (te (ec 6 rfl (ec 7 rfl en)) (rg (mv rfl rfl (oA (aC (keysR_ct (rowsF m)) y127 (oc (oT rfl) oN) pR) pR rfl rfl fun bk _ => (oA (aC (sortedR_ct hki (by omega)) y128 (oc (oT rfl) oN) (perm_at 0 rfl)) (perm_at 0 rfl) rfl rfl fun q hq => (oP (pu_len_own (oT rfl) (by exact mA 0 rfl) Tryz.underlying50) rfl ?_)))))))))))))))
   refine oP (pu_move ot) rfl (tn ?_)
   have hql := hq.length_eq
   have hq60 : q.2.length ≤ 60 := by rw [hql]; unfold keys; rw [List.length_map]; omega
   have hqn : q.2.Nodup := hq.nodup_iff.2 hrw.nd
   refine tr_freeze (perm_at 0 rfl) 18 (oT rfl) (nn (tb (tr_loopK (σ := Nat × Value × List Tp) (ec 6 rfl (ec 18 rfl (ec 19 rfl en))) (fun s => [(20, I64 (s.1 : Int)), (7, IsV s.2.1)]) (fun s => [OwnI 51 kT s.2.1 s.2.2]) (fun s => s.1 ≤ q.2.length ∧ PrM (labE lab es) (q.2.take s.1) s.2.2) (fun s => q.2.length - s.1) (0, nilS, []) ⟨Nat.zero_le _, List.nodup_nil, fun t => by simp⟩ ?_ (op (by repeat first | exact pn | refine pc 1 rfl ?_)) ?_)))
   · exact (ec 20 rfl (ec 7 rfl en))
   · rintro ⟨k, u, M⟩ ⟨hkl, hM⟩
     dsimp only at hkl hM ⊢
     refine sq (te (ec 6 rfl (ec 7 rfl (ec 18 rfl (ec 19 rfl (ec 20 rfl en))))) (rg (oP (pu_lss (oT rfl) (oT rfl)) rfl (tn (nn (sq (tc (oT rfl) (fun c21 => ?_) (fun c21 => ?_))))))))
     · refine sk (nn (sq (tb (sq (te (ec 6 rfl (ec 7 rfl (ec 18 rfl (ec 19 rfl (ec 20 rfl en))))) ?_)))))
       have hk : k < q.2.length := by simp only [decide_eq_true_eq] at c21; omega
       obtain ⟨a, ha⟩ : ∃ a, at' q.2 (k : Int) = a := ⟨_, rfl⟩
       have hal := nodup_take hqn hk
       rw [ha] at hal
       refine rg (oP (pu_index (oT rfl) (oT rfl) Tryz.underlying50 y2 (by omega) (by omega)) rfl (oP (pL (oT rfl) y2) rfl (av rfl rfl (tn ?_))))
       rw [ha]
       refine nn (sq (te (ec 6 rfl (ec 7 rfl (ec 9 rfl (ec 18 rfl (ec 19 rfl (ec 20 rfl en)))))) (rg (mv rfl rfl (mv rfl rfl (oA (aC (reached_fn (rowsF m) (labE lab es) es.length a hrw (by omega)) y129 (oc (oT rfl) (oc (oT rfl) oN)) pR) pR rfl rfl fun r hr => (tr_mapx (perm_at 0 rfl) fun s0 => (oA (acts_range_map Tryz.underlying136 (oT rfl) (by exact mA 0 rfl)) pR rfl rfl (fun r8_3 hr8_3 => ?_)))))))))
       refine tn (nn (tb (tr_loopK (σ := IS × List Int × Option Int × Value × List Tp) (ec 6 rfl (ec 9 rfl (ec 18 rfl (ec 19 rfl (ec 20 rfl (ec 27 rfl en)))))) (fun s => [(7, IsV s.2.2.2.1)]) (fun s => RanR r8_3.1 r.1 s.1 :: RanM r.1 encI kI.T r.2 s0 :: OwnI 51 kT s.2.2.2.1 s.2.2.2.2 :: []) (fun s => RanOk r.2 s0 s.1 s.2.1 s.2.2.1 ∧ PrJ (labE lab es) M a (keys r.2) s.2.1 s.2.2.2.2) (fun s => s.2.1.length) (r8_3.2, keys r.2, none, u, M) ⟨hr8_3, prj_start hM⟩ ?_ (op (by repeat first | exact pn | refine pc 0 rfl ?_)) ?_)))
       · exact (ec 7 rfl en)
       · rintro ⟨i, todo, cur, u1, M1⟩ ⟨hok, hJ⟩
         dsimp only at hok hJ ⊢
         refine sq (te (ec 6 rfl (ec 7 rfl (ec 9 rfl (ec 18 rfl (ec 19 rfl (ec 20 rfl (ec 27 rfl en))))))) (rg (oA (acts_next_map (oT rfl) (mem_at 1 rfl) (perm_at 0 rfl) hok) (perm_at 0 rfl) rfl rfl (fun q9_0 hq9_0 => ?_))))
         refine oP (pu_nextm (oT rfl)) rfl (tn (nn (sq (tc (oT rfl) (fun c29 => ?_) (fun c29 => ?_)))))
         · obtain ⟨i2, o2⟩ := q9_0
           obtain ⟨key, rfl⟩ : ∃ k, o2 = some k := by
            cases o2 with
            | none => exact Bool.noConfusion c29
            | some k => exact ⟨k, rfl⟩
           dsimp only at hq9_0 c29 ⊢
           obtain ⟨hkt, hok2⟩ := hq9_0
           have hkk := hok.sub _ hkt
           obtain ⟨bv, hbv⟩ := lkp_keyD hkk
           have hst := prj_step hM hal hok.nd hkt hkk hJ
           have hl1 := prm_len hst.1 (prj_in hM hr.2 hst) (by omega)
           rw [List.length_append, List.length_singleton] at hl1
           have hle : (todo.erase key).length < todo.length := by
            have h1 := List.length_erase_of_mem hkt
            have h2 := List.length_pos_of_mem hkt
            omega
           refine sk (nn (tb (sq (te (ec 6 rfl (ec 7 rfl (ec 9 rfl (ec 18 rfl (ec 19 rfl (ec 20 rfl (ec 27 rfl en))))))) (rg (oP (pu_entry_map (D := IsV _) (oT rfl) (mem_at 0 rfl) (mem_at 1 rfl) hok2 hbv (fun H => rfl)) rfl (oP (pu_extract (oT rfl) rfl) rfl (av rfl rfl (tn (nn (sq (te (ec 6 rfl (ec 7 rfl (ec 9 rfl (ec 10 rfl (ec 18 rfl (ec 19 rfl (ec 20 rfl (ec 27 rfl en)))))))) (rg (mv rfl rfl (mv rfl rfl (mv rfl rfl (oA (acts_lit (d := kI) (v0 := 0) y33 y2 zI (show 2 * 1 ≤ 16777216 from by decide) (by decide) (fills_arr rfl rfl (by decide) (oT rfl) (fills_arr rfl rfl (by decide) (oT rfl) fills_nil))) pR rfl rfl (fun _ _ => ?_))))))))))))))))))
           refine oA (acts_lit (d := kT) (v0 := []) y29 y0 zT (show 1 * 1 ≤ 16777216 from by decide) (by decide) (fills_arr rfl rfl (by decide) (oT rfl) fills_nil)) pR rfl rfl (fun _ _ => ?_)
           refine oA (acts_append (oT rfl) (by exact pA 2 rfl) (oT rfl) y29 (by (simp; omega)) (by (simp [maxLen]; omega))) (by exact pA 2 rfl) rfl rfl (fun v11_5 _ => ?_)
           refine av rfl rfl (tn (nn (sq (te (ec 6 rfl (ec 7 rfl (ec 9 rfl (ec 18 rfl (ec 19 rfl (ec 20 rfl (ec 27 rfl en))))))) (rg (mv rfl rfl (oP (pu_len_own (oT rfl) (by exact mA 0 rfl) Tryz.underlying36) rfl ?_)))))))
           refine oP (pu_gtr (oT rfl) ot) rfl (tn (nn (tc (oT rfl) (fun c40 => ?_) (fun c40 => ?_))))
           · exfalso
             simp only [decide_eq_true_eq, List.length_append, List.length_set, List.length_replicate] at c40
             omega --done
           · refine sk (bn (nn ?_))
             exact tg (i2, todo.erase key, some key, v11_5, M1 ++ [[a, key]]) ⟨hok2, hst⟩ hle (ea (ec 7 rfl en) (ec 6 rfl (ec 9 rfl (ec 18 rfl (ec 19 rfl (ec 20 rfl (ec 27 rfl en))))))) (op (by repeat first | exact pn | refine pc 0 rfl ?_ | refine pc 1 rfl ?_))
         · obtain ⟨i2, o2⟩ := q9_0
           obtain rfl : o2 = none := by
            cases o2 with
            | none => rfl
            | some k => exact Bool.noConfusion c29
           dsimp only at hq9_0 ⊢
           obtain ⟨rfl, hok2⟩ := hq9_0
           rw [← ha] at hJ hr
           have hnx := prj_end hk hr.2 hM hJ
           refine tr_exit (tx (tx (bh (bn (nn (te (ec 6 rfl (ec 7 rfl (ec 18 rfl (ec 19 rfl (ec 20 rfl en))))) (rg (oP (pad (oT rfl) ot (by omega)) rfl (mv rfl rfl (tn (nn ?_)))))))))))
           exact tg (k + 1, u1, M1) ⟨hk, hnx⟩ (by show q.2.length - (k + 1) < q.2.length - k; omega) (ea (ec 20 rfl (ec 7 rfl en)) (ec 6 rfl (ec 18 rfl (ec 19 rfl en)))) (op (by repeat first | exact pn | refine pc 2 rfl ?_))
     · refine tr_exit (tx (tx (bh (nn (sq (te (ec 7 rfl en) ?_))))))
       obtain rfl : k = q.2.length := by simp only [decide_eq_false_iff_not] at c21; omega
       rw [List.take_length] at hM
       have hres := prm_done hrw hq hM
       have hMi : ∀ t, t ∈ M → ∃ a b : Int, t = [a, b] ∧ TC (labE lab es) a b := fun t ht => by obtain ⟨a, b, h1, _, h2⟩ := (hM.2 t).1 ht; exact ⟨a, b, h1, h2⟩
       have hsm := prm_small (prm_len hM.1 hMi (by omega)) hMi
       refine tr_freeze (perm_at 0 rfl) 7 (oT rfl) (rg (mv rfl rfl (oA (acts_callM (Set_fn (K0 := noK) (n0 := 0) _ hsm) mk_none y77 (oc (oT rfl) oN) pR) pR rfl rfl (fun _ _ => ?_))))
       refine av rfl rfl (ak rfl (tn (nn (tR ?_))))
       exact ret_two .ret (.inl rfl) rfl (setR M) (OT.unfr2 (oT rfl)) (OT.val (oT rfl) (congrArg (Value.int _) (by rw [hnb]; rfl))) (fun _ _ h => h) (by rw [hnb]; exact hres) (by exact pn)
end Go.Proofs.YtklhdalppmjnaaaGreatDoor
