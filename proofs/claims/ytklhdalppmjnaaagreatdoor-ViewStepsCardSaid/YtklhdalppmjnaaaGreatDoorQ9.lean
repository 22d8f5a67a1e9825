/- The texts Dr8, G51, VwA, Vw1, Vw2, Vw3, VwB, Vw4, Vw5, VwC, Vw6, JnL, JnM, JnN, JnP, NtV of this claim, put together in their order. No condition of their own. -/
import Derived.Test.YtklhdalppmjnaaaGreatDoorQ8
import Derived.Test.YtklhdalppmjnaaaGreatDoorQ2
import Derived.Test.YtklhdalppmjnaaaGreatDoorQ7
import Derived.Test.YtklhdalppmjnaaaGreatDoorQ1
import Derived.Test.YtklhdalppmjnaaaGreatDoorProg
import Derived.Test.YtklhdalppmjnaaaGreatDoorRows
import Derived.Lay
import Derived.MakeChecks
import Derived.RowKitTokens
/- Walks through the Go functions dred.New, as typed contracts. -/
namespace Go.Proofs.YtklhdalppmjnaaaGreatDoor
open Go Go.Gw Go.So Go.Tu Go.Jn
open Go.Dr hiding Pr
set_option linter.unusedVariables false
set_option linter.unusedSimpArgs false
theorem rises_nd {l : List Tp} (h : Rises l) : l.Nodup := h.imp fun {a b} hab e => by subst e; rw [cmp_self] at hab; omega
theorem span_len3 {P : List Pr} {R : List Tp} (h : SpanT P R) (hP : P.length ≤ 60) : R.length ≤ 3600 := prm_len (rises_nd h.1) (fun t ht => (h.2 t).1 ht) hP
theorem labE_in {lab : Lab} {es : List Ed} (h : ∀ e ∈ es, in64 e.1 ∧ in64 e.2.2) : ∀ x ∈ labE lab es, inP x := fun x hx => by
 obtain ⟨e, he, rfl⟩ := List.mem_map.1 hx
 exact h e (List.mem_filter.1 he).1
/-- A new dred. -/
structure NewD (lab : Lab) (es : List Ed) (d : DO) (re rs : RS) (E S : List Pr) : Prop where
 l : d.lab = lab
 ok : DOk E S re rs
 m : ∀ x, x ∈ E ↔ x ∈ labE lab es
 n : E.length ≤ es.length
theorem new_says {lab : Lab} {es : List Ed} {d : DO} {re rs : RS} {E S : List Pr} {R : List Tp} (hl : d.lab = lab) (hR : SpanT (labE lab es) R) (hei : ∀ e ∈ es, in64 e.1 ∧ in64 e.2.2) (he : RelOk E re) (hs : RelOk S rs) (hE : ∀ x, x ∈ E ↔ x ∈ labE lab es) (hS : ∀ x : Pr, x ∈ S ↔ tpl x ∈ R) (hn : E.length ≤ es.length) : NewD lab es d re rs E S := ⟨hl, ⟨he, hs, fun a b => by
 rw [hS, hR.2, TC.congr hE]
 constructor
 · rintro ⟨a2, b2, h1, h2⟩
   have h3 : a = a2 ∧ b = b2 := by simpa [tpl] using h1
   rw [h3.1, h3.2]; exact h2
 · exact fun h => ⟨a, b, rfl, h⟩, fun x hx => labE_in hei x ((hE x).1 hx)⟩, hE, hn⟩
theorem span_step {R : List Tp} {S : List Pr} {k : Nat} {p : Pr} (hk : k < R.length) (hp : at' R (k : Int) = tpl p) (h : ∀ x : Pr, x ∈ S ↔ tpl x ∈ R.take k) (x : Pr) : x ∈ addP S p ↔ tpl x ∈ R.take (k + 1) := by
 rw [addP_mem, h, List.take_succ_eq_append_getElem hk, List.mem_append, List.mem_singleton]
 rw [at'_nat hk] at hp
 rw [hp]
 exact ⟨fun q => q.imp id fun e => by rw [e], fun q => q.imp id tpl_inj⟩

set_option maxHeartbeats 1000000 in
set_option maxRecDepth 20000 in
/-- rhizome/dred.New -/
theorem DNew_fn (lab : Lab) (es : List Ed) (hnb : nameB lab = true) (hm : es.length ≤ 60) (hei : ∀ e ∈ es, in64 e.1 ∧ in64 e.2.2) : Ct Tryz.prog 29 [BsT lab, SlT kE es] ([]) (DO × RS × RS × List Pr × List Pr) (fun q => TupT [IsV (pt q.1.g 0), I64 0]) (fun q => DrI q.1 0 q.2.1 q.2.2.1) (fun q => NewD lab es q.1 q.2.1 q.2.2.1 q.2.2.2.1 q.2.2.2.2) := by
 refine fn_intro Tryz.func29 rfl rfl ?_
 intro H w
 refine sq (te (ec 0 rfl (ec 1 rfl en)) (rg (ak rfl (ak rfl (tn (nn (sq (te (ec 0 rfl (ec 1 rfl en)) (rg (mv rfl rfl (mv rfl rfl (oA (aC (Pairs_fn lab es (by omega) hei) y130 (oc (oT rfl) (oc (oT rfl) oN)) pR) pR rfl rfl (fun R hR => ?_)))))))))))))
 refine mv rfl rfl (oP (pu_extract (oT rfl) rfl) rfl (oP (pu_extract (oT rfl) rfl) rfl (av rfl rfl (av rfl rfl (tn (nn (sq (sq (te (ec 0 rfl (ec 1 rfl (ec 6 rfl (ec 7 rfl en)))) (rg (mv rfl rfl (oP (pu_neq (oT rfl) ot) rfl (tn (nn (tc (oT rfl) (fun c20 => ?_) (fun c20 => ?_))))))))))))))))
 · exfalso
   rw [hnb] at c20
   exact absurd (of_decide_eq_true c20) (by decide) --done
 · rw [hnb] at hR
   have hR : SpanT (labE lab es) R := hR
   have hPl := labE_len lab es
   have hRl := span_len3 hR (by omega)
   refine sk (nn (sq (te (ec 0 rfl (ec 1 rfl (ec 6 rfl en))) (rg (mv rfl rfl (oA (aC dNewRel_fn y131 oN pR) pR rfl rfl fun oe _ => (oA (aC dNewRel_fn y131 oN pR) pR rfl rfl fun os _ => (oP (pu_build (d := kDr) (v0 := ([], .pointer none, .pointer none, 0)) (ps := [(0, 1), (1, 1), (2, 1), (3, 1)]) zDr (by kernel_rfl) rfl (fills_cons rfl ld0 (oT rfl) (fills_cons rfl ld1 (OT.raw (oT rfl) rfl) (fills_cons rfl ld2 (OT.raw (oT rfl) rfl) fills_nil)))) rfl (oA (acts_box (d := kDr) (oT rfl)) pR rfl rfl (fun g4_4 _ => ?_))))))))))
   refine av rfl rfl (tn (tr_perm (L' := BlkI g4_4 106 kDr (dV ⟨g4_4, lab, oe, os⟩ 0) :: (RelI oe ⟨[], [], 0⟩ ++ RelI os ⟨[], [], 0⟩)) (List.Perm.cons _ (show (RelI os ⟨[], [], 0⟩ ++ (RelI oe ⟨[], [], 0⟩ ++ [])).Perm (RelI oe ⟨[], [], 0⟩ ++ RelI os ⟨[], [], 0⟩) from by rw [List.append_nil]; exact List.perm_append_comm)) ?_))
   refine nn (sq (sq (te (ec 0 rfl (ec 1 rfl (ec 6 rfl (ec 8 rfl en)))) (rg (mv rfl rfl (oP (pls (oT rfl) Tryz.underlying26) rfl (oP (pu_move ot) rfl (tn (nn (tb (tr_loopK (σ := Nat × RS × List Pr) (ec 0 rfl (ec 6 rfl (ec 8 rfl (ec 27 rfl (ec 28 rfl en))))) (fun s => [(29, I64 (s.1 : Int))]) (fun s => BlkI g4_4 106 kDr (dV ⟨g4_4, lab, oe, os⟩ 0) :: (RelI oe s.2.1 ++ RelI os ⟨[], [], 0⟩)) (fun s => s.1 ≤ es.length ∧ RelOk s.2.2 s.2.1 ∧ (∀ x, x ∈ s.2.2 ↔ x ∈ labE lab (es.take s.1)) ∧ s.2.2.length ≤ s.1) (fun s => es.length - s.1) (0, ⟨[], [], 0⟩, []) ⟨Nat.zero_le _, relok_nil, fun x => by simp [labE], Nat.le_refl _⟩ ?_ (op pl) ?_)))))))))))
   · exact (ec 29 rfl en)
   · rintro ⟨k, re2, E2⟩ ⟨hk, hre, hE, hEl⟩
     dsimp only at hk hre hE hEl ⊢
     refine sq (te (ec 0 rfl (ec 6 rfl (ec 8 rfl (ec 27 rfl (ec 28 rfl (ec 29 rfl en)))))) (rg (oP (pu_lss (oT rfl) (oT rfl)) rfl (tn (nn (sq (tc (oT rfl) (fun c30 => ?_) (fun c30 => ?_))))))))
     · refine sk (nn (sq (tb (sq (te (ec 0 rfl (ec 6 rfl (ec 8 rfl (ec 27 rfl (ec 28 rfl (ec 29 rfl en)))))) ?_)))))
       have hkl : k < es.length := by simp only [decide_eq_true_eq] at c30; omega
       obtain ⟨e, he⟩ : ∃ e, at' es (k : Int) = e := ⟨_, rfl⟩
       have hst := labE_step (lab := lab) hkl he
       refine rg (oP (pu_index (oT rfl) (oT rfl) Tryz.underlying26 y61 (by omega) (by omega)) rfl (oP (pL (oT rfl) y61) rfl (oA (acts_alloc (zE)) pR rfl rfl (fun g7_2 _ => ?_))))
       refine oA (asv (oT rfl) (oT rfl) (by exact pA 0 rfl) y61) (by exact pA 0 rfl) rfl rfl (fun _ _ => ?_)
       refine tn ?_
       rw [he]
       refine nn (sq (te (ec 0 rfl (ec 6 rfl (ec 8 rfl (ec 10 rfl (ec 27 rfl (ec 28 rfl (ec 29 rfl en))))))) (rg (oP (pf (oT rfl) y62) rfl (oP (plb (oT rfl) (by exact mA 0 rfl) le1 y40) rfl ?_)))))
       refine mv rfl rfl (oP (pu_bs_eql (oT rfl) (oT rfl)) rfl (tn (nn (tc (oT rfl) (fun c36 => ?_) (fun c36 => ?_)))))
       · have hlb : e.2.1 = lab := of_decide_eq_true c36
         rw [if_pos hlb] at hst
         refine te (ec 0 rfl (ec 6 rfl (ec 8 rfl (ec 10 rfl (ec 27 rfl (ec 28 rfl (ec 29 rfl en))))))) ?_
         apply tr_any (m := 9) (ns := [[(8, none)], [(37, some 0)], [(38, some 1)], [(39, some 2)], [(10, none)], [(41, some 4)], [(10, none)], [(43, some 6)], [(42, some 5), (44, some 7)]]) (by kernel_rfl) (by kernel_rfl) (Ts := [_, _, _, _, _, _, _, _, _]) rfl
         case hops =>
          refine ⟨?_, ?_, ?_, ?_, ?_, ?_, ?_, ?_, ?_, trivial⟩
          · exact rmv rfl
          · exact rP (pu_nilCheck (oT rfl))
          · exact rP (pf (oT rfl) y110)
          · exact rP (pu_load_rawf (oT rfl) (by exact mA 1 rfl) ld1 y105)
          · exact rP (pf (oT rfl) y63)
          · exact rP (plb (oT rfl) (by exact mA 0 rfl) le0 y2)
          · exact rP (pf (oT rfl) y64)
          · exact rP (plb (oT rfl) (by exact mA 0 rfl) le2 y2)
          · exact rP (pu_build_arr (d := kPP) (v0 := (0, 0)) (agg := false) Tryz.underlying109 y2 zPr rfl (fills_cons rfl Lens.p0 (oT rfl) (fills_cons rfl Lens.p1 (oT rfl) fills_nil)))
         case h =>
          refine op_midl [_, _] (RelI os ⟨[], [], 0⟩) rfl (aC (dPut_fn oe re2 E2 (e.1, e.2.2) hre (by omega)) y106 (oc (oT rfl) (oc (oT rfl) oN)) (perm_mid0 [_, _] (RelI oe re2) (RelI os ⟨[], [], 0⟩))) rfl rfl fun re3 hre3 => (tn (bn (nn (te (ec 0 rfl (ec 6 rfl (ec 8 rfl (ec 27 rfl (ec 28 rfl (ec 29 rfl en)))))) (rg (oP (pad (oT rfl) ot (by omega)) rfl (mv rfl rfl (tn (nn ?_)))))))))
          exact tg (k + 1, re3, addP E2 (e.1, e.2.2)) ⟨hkl, hre3, fun x => by rw [hst, addP_mem, hE, List.mem_append, List.mem_singleton], (by have := addP_len E2 (e.1, e.2.2); show (addP E2 (e.1, e.2.2)).length ≤ k + 1; omega)⟩ (by show es.length - (k + 1) < es.length - k; omega) (ea (ec 29 rfl en) (ec 0 rfl (ec 6 rfl (ec 8 rfl (ec 27 rfl (ec 28 rfl en)))))) (op (pd pl))
       · have hlb : ¬ e.2.1 = lab := of_decide_eq_false c36
         rw [if_neg hlb] at hst
         refine sk (bn (nn (te (ec 0 rfl (ec 6 rfl (ec 8 rfl (ec 27 rfl (ec 28 rfl (ec 29 rfl en)))))) (rg (oP (pad (oT rfl) ot (by omega)) rfl (mv rfl rfl (tn (nn ?_))))))))
         exact tg (k + 1, re2, E2) ⟨hkl, hre, fun x => by rw [hst, hE], (by show E2.length ≤ k + 1; omega)⟩ (by show es.length - (k + 1) < es.length - k; omega) (ea (ec 29 rfl en) (ec 0 rfl (ec 6 rfl (ec 8 rfl (ec 27 rfl (ec 28 rfl en)))))) (op (pd pl))
     · refine tr_exit (tx (tx (bh (nn (sq (sq (te (ec 6 rfl (ec 8 rfl en)) ?_)))))))
       obtain rfl : k = es.length := by simp only [decide_eq_false_iff_not] at c30; omega
       rw [List.take_length] at hE
       refine rg (mv rfl rfl (oP (pls (oT rfl) Tryz.underlying36) rfl (oP (pu_move ot) rfl (tn (nn (tb (tr_loopK (σ := Nat × RS × List Pr) (ec 8 rfl (ec 48 rfl (ec 49 rfl en))) (fun s => [(50, I64 (s.1 : Int))]) (fun s => BlkI g4_4 106 kDr (dV ⟨g4_4, lab, oe, os⟩ 0) :: (RelI oe re2 ++ RelI os s.2.1)) (fun s => s.1 ≤ R.length ∧ RelOk s.2.2 s.2.1 ∧ (∀ x : Pr, x ∈ s.2.2 ↔ tpl x ∈ R.take s.1) ∧ s.2.2.length ≤ s.1) (fun s => R.length - s.1) (0, ⟨[], [], 0⟩, []) ⟨Nat.zero_le _, relok_nil, fun x => by simp, Nat.le_refl _⟩ ?_ (op pl) ?_)))))))
       · exact (ec 50 rfl en)
       · rintro ⟨k2, rs2, S2⟩ ⟨hk2l, hrs, hS, hSl⟩
         dsimp only at hk2l hrs hS hSl ⊢
         refine sq (te (ec 8 rfl (ec 48 rfl (ec 49 rfl (ec 50 rfl en)))) (rg (oP (pu_lss (oT rfl) (oT rfl)) rfl (tn (nn (sq (tc (oT rfl) (fun c51 => ?_) (fun c51 => ?_))))))))
         · refine sk (nn (sq (tb (sq (te (ec 8 rfl (ec 48 rfl (ec 49 rfl (ec 50 rfl en)))) ?_)))))
           have hk2 : k2 < R.length := by simp only [decide_eq_true_eq] at c51; omega
           obtain ⟨a, b, hab, _⟩ := (hR.2 _).1 (at_mem hk2)
           refine rg (oP (pu_index (oT rfl) (oT rfl) Tryz.underlying36 y0 (by omega) (by omega)) rfl (oP (pL (oT rfl) y0) rfl (av rfl rfl (tn ?_))))
           rw [hab]
           refine nn (te (ec 8 rfl (ec 12 rfl (ec 48 rfl (ec 49 rfl (ec 50 rfl en))))) ?_)
           apply tr_any (m := 11) (ns := [[(8, none)], [(54, some 0)], [(55, some 1)], [(56, some 2)], [(12, none)], [(58, some 4)], [(59, some 5)], [(12, none)], [(61, some 7)], [(62, some 8)], [(60, some 6), (63, some 9)]]) (by kernel_rfl) (by kernel_rfl) (Ts := [_, _, _, _, _, _, _, _, _, _, _]) rfl
           case hops =>
            refine ⟨?_, ?_, ?_, ?_, ?_, ?_, ?_, ?_, ?_, ?_, ?_, trivial⟩
            · exact rmv rfl
            · exact rP (pu_nilCheck (oT rfl))
            · exact rP (pf (oT rfl) y104)
            · exact rP (pu_load_rawf (oT rfl) (by exact mA 0 rfl) ld2 y105)
            · exact rmv rfl
            · exact rP (pu_index (oT rfl) ot Tryz.underlying51 y2 (by omega) (by (simp; done)))
            · exact rP (pL (oT rfl) y2)
            · exact rmv rfl
            · exact rP (pu_index (oT rfl) ot Tryz.underlying51 y2 (by omega) (by (simp; done)))
            · exact rP (pL (oT rfl) y2)
            · exact rP (pu_build_arr (d := kPP) (v0 := (0, 0)) (agg := false) Tryz.underlying109 y2 zPr rfl (fills_cons rfl Lens.p0 (oT rfl) (fills_cons rfl Lens.p1 (oT rfl) fills_nil)))
           case h =>
            refine op_tl2 [_] (RelI oe re2) rfl (aC (dPut_fn os rs2 S2 (a, b) hrs (by omega)) y106 (oc (oT rfl) (oc (oT rfl) oN)) (perm_tl2 (X := [_]) (Y := (RelI oe re2)))) rfl rfl fun rs3 hrs3 => (tn (bn (nn (te (ec 8 rfl (ec 48 rfl (ec 49 rfl (ec 50 rfl en)))) (rg (oP (pad (oT rfl) ot (by omega)) rfl (mv rfl rfl (tn (nn ?_)))))))))
            exact tg (k2 + 1, rs3, addP S2 (a, b)) ⟨hk2, hrs3, span_step hk2 hab hS, (by have := addP_len S2 (a, b); show (addP S2 (a, b)).length ≤ k2 + 1; omega)⟩ (by show R.length - (k2 + 1) < R.length - k2; omega) (ea (ec 50 rfl en) (ec 8 rfl (ec 48 rfl (ec 49 rfl en)))) (op pl)
         · refine tr_exit (tx (tx (bh (nn (sq (te (ec 8 rfl en) ?_))))))
           obtain rfl : k2 = R.length := by simp only [decide_eq_false_iff_not] at c51; omega
           rw [List.take_length] at hS
           have hsay := new_says (d := ⟨g4_4, lab, oe, os⟩) rfl hR hei hre hrs hE hS hEl
           refine rg (mv rfl rfl (av rfl rfl (ak rfl (tn (nn (tR ?_))))))
           exact ret_two .ret (.inl rfl) rfl (⟨g4_4, lab, oe, os⟩, re2, rs2, E2, S2) (oT rfl) (oT rfl) (fun _ _ h => h) hsay pl
end Go.Proofs.YtklhdalppmjnaaaGreatDoor
/- Typed walks: a method called through an interface whose value is known. Over any program. -/
namespace Go.Gw
open Go
set_option linter.unusedVariables false
set_option linter.unusedSimpArgs false
theorem acts_invoke {C : Cx} {Γ : Env} {L R J : List It} {dst : Option Tmp} {ty : TypeId} {pos : String} {after : Array Edge} {guard : Option (Nat × Bool)} {f : FuncId} {As : List Ty} {ρ : Type} {T : ρ → Ty} {I : ρ → List It} {φ : ρ → Prop} {x : Operand} {t : TypeId} {v : Value} {name : String} {xs : List Operand} {ats : Array TypeId}
 (hx : OT C.N Γ x (IsV (.iface t v))) (hm : ∀ w, (method (C.P.types.size + Made.depth) t v name).run C.P w = .ok (f, v) w) (hin : enters C.P f = true) (hF : Ct C.P f (IsV v :: As) J ρ T I φ) (hxs : OTs C.N Γ xs As) (hL : List.Perm L (J ++ R)) :
 Acts C Γ L { dst, op := .call { callee := .invoke x name, args := xs.toArray, argTypes := ats }, type := ty, pos, after, guard } J ρ T I φ := by
 intro a w H fi s ow Q K hK
 have hv : a.eval x = .iface t v := hx a H fi
 have hp : ∀ (P : Program) (w : World), (program).run P w = .ok P w := fun P w => rfl
 have hrun : (execOp a.eval { dst, op := .call { callee := .invoke x name, args := xs.toArray, argTypes := ats }, type := ty, pos, after, guard }).run C.P w = .ok (.enter f (v :: xs.map a.eval).toArray) w := by
  simp only [execOp, resolve, hv, Sem.run_bind, Sem.run_pure, Result.andThen_ok, invoke]
  rw [show (((#[Value.iface t v] ++ Array.map a.eval xs.toArray) : Array Value)[0]?) = some (Value.iface t v) from by simp]
  simp only [callMethod, Sem.run_bind, hp, Result.andThen_ok, hm]
  rw [show (#[v] ++ (#[Value.iface t v] ++ Array.map a.eval xs.toArray).extract 1 (#[Value.iface t v] ++ Array.map a.eval xs.toArray).size : Array Value) = (v :: xs.map a.eval).toArray from by simp; exact List.take_of_length_le (by simp)]
  exact run_enters hin _ _
 simp only [Oper.wp, hrun, Oper.upon_enter]
 have hA : AllP H (IsV v :: As) (v :: xs.map a.eval) := ⟨rfl, OTs.all fi hxs⟩
 refine Calls.mono (hF H w _ s.on hA ((ow.perm hL).left.mono fun _ _ _ => trivial)) ?_
 rintro e w' ⟨r, v', H', rfl, hφ, s', hv', ho⟩
 exact hK r v' w' H' hφ s' hv' ho
end Go.Gw
/- Which method a dred's interface value has. -/
namespace Go.Proofs.YtklhdalppmjnaaaGreatDoor
open Go Go.Gw Go.So Go.Tu Go.Jn Go.MapKept
open Go.Dr hiding Pr
set_option linter.unusedVariables false
set_option linter.unusedSimpArgs false
theorem m_do (g : Nat) (w : World) : (method (Tryz.prog.types.size + Made.depth) 75 (pt g 0) "Do").run Tryz.prog w = .ok (189, pt g 0) w := by kernel_rfl
theorem m_read (g : Nat) (w : World) : (method (Tryz.prog.types.size + Made.depth) 75 (pt g 0) "Read").run Tryz.prog w = .ok (191, pt g 0) w := by kernel_rfl
abbrev encE (e : Ed) : Value := .agg (tvE e)
theorem chkE (em : Bool) (k : Ed) (w : World) : (Instr.checkKey em 10000 42 (encE k)).run Tryz.prog w = .ok () w := by
 have hu : Tryz.prog.underlying 42 = some _ := Tryz.underlying42
 have h3 : Tryz.prog.underlying 3 = some (.int .i64) := Tryz.underlying3
 have h9 : Tryz.prog.underlying 9 = some .string := Tryz.underlying9
 have hk : Tryz.prog.plainKey 3 = true := by decide +kernel
 have hk9 : Tryz.prog.plainKey 9 = true := by decide +kernel
 rw [show (10000 : Nat) = 9999 + 1 from rfl, Instr.checkKey]
 simp only [Sem.run_bind, run_underlying hu, Result.andThen_ok]
 have p0 : (part 3 (tvE k) 0).run Tryz.prog w = .ok (.int .i64 k.1) w := run_part_plain w hk rfl
 have p1 : (part 9 (tvE k) 1).run Tryz.prog w = .ok (.string (bs k.2.1)) w := run_part_plain w hk9 rfl
 have p2 : (part 3 (tvE k) 2).run Tryz.prog w = .ok (.int .i64 k.2.2) w := run_part_plain w hk rfl
 have c : ∀ n : Int, (Instr.checkKey em 9999 3 (.int .i64 n)).run Tryz.prog w = .ok () w := fun n => run_checkKey h3 (by simp [IsKey]) em 9998
 have c9 : ∀ l : List UInt8, (Instr.checkKey em 9999 9 (.string (bs l))).run Tryz.prog w = .ok () w := fun l => run_checkKey h9 (by simp [IsKey]) em 9998
 simp [p0, p1, p2, c, c9]
theorem mkE : MKey Tryz.prog 42 kE encE :=
 MKey.ofAsk (d := .struct (Tryz.prog.fieldsOf 42)) (by unfold Program.fieldsOf; rw [Tryz.underlying42]) ev_eq (fun a b => rfl) chkE (fun w a b => by
  rw [show Op.equal 42 (encE a) (encE b) = Op.equalIn 10000 42 (encE a) (encE b) from rfl]; exact run_equalEd w 9998 a b) (fun k => by simp [Instr.sameBits]; rw [bytes_beq])
end Go.Proofs.YtklhdalppmjnaaaGreatDoor
/- Walks through the Go functions view.Content, as typed contracts. -/
namespace Go.Proofs.YtklhdalppmjnaaaGreatDoor
open Go Go.Gw Go.So Go.Tu Go.Jn
open Go.Dr hiding Pr
set_option linter.unusedVariables false
set_option linter.unusedSimpArgs false
abbrev kSt : Kd (Vw × Value × Value) := kpair kV (kpair kraw kraw)
theorem lt0 {t : Vw × Value × Value} : Lens kSt kV 0 t t.1 (fun y => (y, t.2)) := Lens.fst
theorem lt1 {t : Vw × Value × Value} : Lens kSt kraw 5 t t.2.1 (fun y => (t.1, y, t.2.2)) := Lens.comp (Lens.snd (a := kV) (b := kpair kraw kraw)) (Lens.fst (a := kraw) (b := kraw))
theorem lt2 {t : Vw × Value × Value} : Lens kSt kraw 6 t t.2.2 (fun y => (t.1, t.2.1, y)) := Lens.comp (Lens.snd (a := kV) (b := kpair kraw kraw)) (Lens.snd (a := kraw) (b := kraw))
theorem zSt : ZeroOf Tryz.prog 74 kSt (([], 0, [], [], []), .nilIface, .map none) := ⟨.agg #[.string (bs []), .int .i64 0, nilS, nilS, .string (bs []), .nilIface, .map none], by kernel_rfl, fun H => ⟨[.string (bs []), .int .i64 0, nilS, nilS, .string (bs []), .nilIface, .map none], ⟨[.string (bs []), .int .i64 0, nilS, nilS, .string (bs [])], [_, _], ⟨[_], [_, _, _, _], rfl, ⟨[_], [_, _, _], rfl, ⟨[_], [_, _], ⟨nilS, rfl, nil_sl⟩, ⟨[_], [_], ⟨nilS, rfl, nil_sl⟩, rfl, rfl⟩, rfl⟩, rfl⟩, rfl⟩, ⟨[_], [_], ⟨rfl, rfl⟩, ⟨rfl, rfl⟩, rfl⟩, rfl⟩, rfl⟩⟩
theorem cont_reach {lab : Lab} {es : List Ed} {R : List Tp} (hR : if nameB lab then SpanT (labE lab es) R else R = []) : if nameB lab then (SpanT (labE lab es) (R, if nameB lab then (0 : Int) else 1).1 ∧ (R, if nameB lab then (0 : Int) else 1).2 = 0) else (R, if nameB lab then (0 : Int) else 1) = ([], 1) := by
 cases hn : nameB lab with
 | true => rw [hn] at hR; exact ⟨hR, rfl⟩
 | false => rw [hn] at hR; have hR : R = [] := hR; rw [hR]; rfl

set_option maxRecDepth 20000 in
/-- rhizome/view.Content -/
theorem Content_fn (v : Vw) (es : List Ed) (ho : v.2.2.1.length ≤ maxLen) (ha : v.2.2.2.1.length ≤ maxLen) (hm : es.length ≤ 60) (hei : ∀ e ∈ es, in64 e.1 ∧ in64 e.2.2) : Ct Tryz.prog 14 [kV.T v, SlT kE es] ([]) (List Tp × Int) (fun q => TupT [SlT kT q.1, I64 q.2]) (fun _ => []) (fun q => (if checkB v = true then (if v.2.1 = 2 then (if nameB v.2.2.2.2 then (SpanT (labE v.2.2.2.2 es) q.1 ∧ q.2 = 0) else q = ([], 1)) else ∃ r, ResSay v es r ∧ q = (if r.2.2 = 0 ∧ 4000 < r.1.length then ([], 5) else (r.1, r.2.2))) else q = ([], 1))) := by
 refine fn_intro Tryz.func14 rfl rfl ?_
 intro H w
 refine sq (te (ec 0 rfl (ec 1 rfl en)) (rg (oA (acts_box (d := kV) (oT rfl)) pR rfl rfl (fun g0_0 _ => ?_))))
 refine ak rfl (ak rfl (tn (nn (sq (sq (te (ec 1 rfl (ec 2 rfl en)) (rg (oP (plv (oT rfl) (by exact mA 0 rfl) y58) rfl ?_))))))))
 refine oA (aC (Check_fn v ho ha) y60 (oc (oT rfl) oN) pR) pR rfl rfl (fun _ _ => ?_)
 refine av rfl rfl (tn (nn (sq (te (ec 1 rfl (ec 2 rfl (ec 6 rfl en))) (rg (mv rfl rfl (oP (pu_neq (oT rfl) ot) rfl (tn (nn (tc (oT rfl) (fun c13 => ?_) (fun c13 => ?_)))))))))))
 · have hck : checkB v = false := by
    cases h : checkB v with
    | false => rfl
    | true => rw [h] at c13; exact absurd (of_decide_eq_true c13) (by decide)
   refine sq (te (ec 6 rfl en) (rg (mv rfl rfl (ak rfl (av rfl rfl (tn (nn (tR (tt ?_)))))))))
   exact ret_two .ret (.inl rfl) rfl ([], 1) (OT.conv (oT rfl) (fun H u h => nil_slt h)) (OT.val (oT rfl) (congrArg (Value.int _) (by rw [hck]; rfl))) (fun _ _ h => h) (by rw [if_neg (by rw [hck]; decide)]) (by exact pn)
 · have hck : checkB v = true := by
    cases h : checkB v with
    | true => rfl
    | false => rw [h] at c13; exact absurd c13 (by decide)
   refine sk (nn (sq (sq (te (ec 1 rfl (ec 2 rfl en)) (rg (oP (pf (oT rfl) y53) rfl (oP (plb (oT rfl) (by exact mA 0 rfl) lv1 y2) rfl ?_)))))))
   refine oP (pu_eql (oT rfl) ot) rfl (tn (nn (tc (oT rfl) (fun c17 => ?_) (fun c17 => ?_))))
   · have hk2 : v.2.1 = 2 := of_decide_eq_true c17
     refine sq (te (ec 1 rfl (ec 2 rfl en)) (rg (oP (pf (oT rfl) y54) rfl (oP (plb (oT rfl) (by exact mA 0 rfl) lv4 y40) rfl ?_))))
     refine mv rfl rfl (oA (aC (Pairs_fn v.2.2.2.2 es (by omega) hei) y130 (oc (oT rfl) (oc (oT rfl) oN)) pR) pR rfl rfl (fun R hR => ?_))
     refine oP (pu_extract (oT rfl) rfl) rfl (oP (pu_extract (oT rfl) rfl) rfl (av rfl rfl (av rfl rfl (tn (nn (tR (tt ?_)))))))
     exact ret_two .ret (.inl rfl) rfl (R, if nameB v.2.2.2.2 then 0 else 1) (oT rfl) (oT rfl) (fun _ _ h => h) (by rw [if_pos hck, if_pos hk2]; exact cont_reach hR) (by exact pn)
   · have hk2 : ¬ v.2.1 = 2 := of_decide_eq_false c17
     refine sk (nn (sq (te (ec 1 rfl (ec 2 rfl en)) (rg (oP (plv (oT rfl) (by exact mA 0 rfl) y58) rfl ?_)))))
     refine mv rfl rfl (oA (aC (Result_fn v es ho ha (by omega)) y132 (oc (oT rfl) (oc (oT rfl) oN)) pR) pR rfl rfl (fun r hr => ?_))
     refine mv rfl rfl (oP (pu_extract (oT rfl) rfl) rfl (oP (pu_extract (oT rfl) rfl) rfl (oP (pu_extract (oT rfl) rfl) rfl (av rfl rfl (av rfl rfl (av rfl rfl (tn (nn (sq (sq (te (ec 7 rfl (ec 9 rfl en)) (rg (mv rfl rfl (oP (pu_eql (oT rfl) ot) rfl (mv rfl rfl (oG rfl rfl rfl (gm (oT rfl)) (fun hg => by (have hg1 := hg.2; (try simp only [cq2] at hg1); exact pu_move (oT rfl))) rfl ?_))))))))))))))))
     refine oG rfl rfl rfl (gm (oT rfl)) (fun hg => by (have hg1 := hg.2; (try simp only [cq2] at hg1); exact pls (by exact gu (oT rfl) hg) Tryz.underlying36)) rfl ?_
     refine oG rfl rfl rfl (gm (oT rfl)) (fun hg => by (have hg1 := hg.2; (try simp only [cq2] at hg1); exact pu_gtr (by exact gu (oT rfl) hg) ot)) rfl ?_
     refine oP (pu_pick_and (oT rfl) (oT rfl)) rfl (tn (nn (tc (oT rfl) (fun c37 => ?_) (fun c37 => ?_))))
     · have hcc : r.2.2 = 0 ∧ 4000 < r.1.length := by have h := c37; simp at h; exact ⟨h.1, by omega⟩
       refine sq (te en (rg (ak rfl (ak rfl (tn (nn (tR (tt ?_))))))))
       exact ret_two .ret (.inl rfl) rfl ([], 5) (OT.conv (oT rfl) (fun H u h => nil_slt h)) (oT rfl) (fun _ _ h => h) (by rw [if_pos hck, if_neg hk2]; exact ⟨r, hr, (if_pos hcc).symm⟩) (by exact pn)
     · have hcc : ¬ (r.2.2 = 0 ∧ 4000 < r.1.length) := fun hx => by have h := c37; simp at h; have := h hx.1; omega
       refine sk (nn (sq (te (ec 7 rfl (ec 9 rfl en)) (rg (mv rfl rfl (mv rfl rfl (av rfl rfl (av rfl rfl (tn (nn (tR ?_)))))))))))
       exact ret_two .ret (.inl rfl) rfl (r.1, r.2.2) (oT rfl) (oT rfl) (fun _ _ h => h) (by rw [if_pos hck, if_neg hk2]; exact ⟨r, hr, (if_neg hcc).symm⟩) (by exact pn)
/-- A standing view that a dred keeps. -/
structure SO where
 g : Nat
 ga : Nat
 v : Vw
 d : DO
abbrev stV (o : SO) : Vw × Value × Value := (o.v, .iface 75 (pt o.d.g 0), mp o.ga)
def StI (o : SO) (n : Int) (re rs : RS) (al : List (Ed × Bool)) : List It := BlkI o.g 74 kSt (stV o) :: MapI o.ga encE kbool.T al :: DrI o.d n re rs
abbrev allE (al : List (Ed × Bool)) (e : Ed) : Bool := (lkp e al).getD false
/-- A new one. -/
structure NewV (v : Vw) (es : List Ed) (o : SO) (re rs : RS) (al : List (Ed × Bool)) (E S : List Pr) : Prop where
 ov : o.v = v
 d : NewD v.2.2.2.2 es o.d re rs E S
 a : ∀ e, allE al e = decide (e ∈ es)
theorem all_put {al : List (Ed × Bool)} {es : List Ed} {k : Nat} (hk : k < es.length) {e : Ed} (he : at' es (k : Int) = e) (h : ∀ x, allE al x = decide (x ∈ es.take k)) (x : Ed) : allE (ptk e true al) x = decide (x ∈ es.take (k + 1)) := by
 unfold allE at h ⊢
 rw [lkp_put, List.take_succ_eq_append_getElem hk]
 rw [at'_nat hk] at he
 rw [he]
 by_cases q : e = x
 · subst q; simp
 · rw [if_neg q, h]
   have : ¬ x = e := fun q2 => q q2.symm
   simp [this]

set_option maxRecDepth 20000 in
/-- slices.Clone[[]string,string] -/
theorem CloneS_fn (xs : List Lab) (hm : xs.length ≤ 1000000) : Ct Tryz.prog 45 [SlT kS xs] ([]) Unit (fun _ => SlT kS xs) (fun _ => []) (fun _ => True) := by
 refine fn_intro Tryz.func45 rfl rfl ?_
 intro H w
 refine sq (te (ec 0 rfl en) (rg (ak rfl (tn (nn (sq (sq (te (ec 0 rfl en) (rg (mv rfl rfl (oA (acts_isnil (oT rfl) Tryz.underlying22) pR rfl rfl (fun b1 hb1 => ?_))))))))))))
 refine tn (nn (tc (oT rfl) (fun c4 => ?_) (fun c4 => ?_)))
 · try simp only [cq] at c4
   obtain rfl := hb1 c4
   refine sq (te en (rg (ak rfl (tn (nn (tR (tt ?_)))))))
   exact ret_one .ret (.inl rfl) rfl () (OT.conv (oT rfl) (fun H u h => nil_slt h)) trivial (by exact pn)
 · try simp only [cq] at c4
   refine sk (nn (sq (te (ec 0 rfl en) (rg (oA (acts_lit_own (d := kS) (v0 := []) y48 y40 zS (show 0 * 1 ≤ 16777216 from by decide) (by decide) fills_nil) pR rfl rfl (fun v3_0 _ => ?_))))))
   refine mv rfl rfl (oA (acts_append (oT rfl) (by exact pA 0 rfl) (oT rfl) y48 (by (simp; omega)) (by (simp [maxLen]; omega))) (by exact pA 0 rfl) rfl rfl (fun v3_2 _ => ?_))
   refine av rfl rfl (tn (tr_freeze (perm_at 0 rfl) 2 (oT rfl) (nn (tR ?_))))
   exact ret_one .ret (.inl rfl) rfl () (oT rfl) trivial (by exact pn)
set_option maxRecDepth 20000 in
/-- slices.Clone[[]rhizome/api.Atom,rhizome/api.Atom] -/
theorem CloneAt_fn (xs : List Atm) (hm : xs.length ≤ 1000000) : Ct Tryz.prog 46 [SlT kA xs] ([]) Unit (fun _ => SlT kA xs) (fun _ => []) (fun _ => True) := by
 refine fn_intro Tryz.func46 rfl rfl ?_
 intro H w
 refine sq (te (ec 0 rfl en) (rg (ak rfl (tn (nn (sq (sq (te (ec 0 rfl en) (rg (mv rfl rfl (oA (acts_isnil (oT rfl) Tryz.underlying23) pR rfl rfl (fun b1 hb1 => ?_))))))))))))
 refine tn (nn (tc (oT rfl) (fun c4 => ?_) (fun c4 => ?_)))
 · try simp only [cq] at c4
   obtain rfl := hb1 c4
   refine sq (te en (rg (ak rfl (tn (nn (tR (tt ?_)))))))
   exact ret_one .ret (.inl rfl) rfl () (OT.conv (oT rfl) (fun H u h => nil_slt h)) trivial (by exact pn)
 · try simp only [cq] at c4
   refine sk (nn (sq (te (ec 0 rfl en) (rg (oA (acts_lit_own (d := kA) (v0 := ([], [], [])) y133 y45 zA (show 0 * 3 ≤ 16777216 from by decide) (by decide) fills_nil) pR rfl rfl (fun v3_0 _ => ?_))))))
   refine mv rfl rfl (oA (acts_append (oT rfl) (by exact pA 0 rfl) (oT rfl) y133 (by (simp; omega)) (by (simp [maxLen]; omega))) (by exact pA 0 rfl) rfl rfl (fun v3_2 _ => ?_))
   refine av rfl rfl (tn (tr_freeze (perm_at 0 rfl) 2 (oT rfl) (nn (tR ?_))))
   exact ret_one .ret (.inl rfl) rfl () (oT rfl) trivial (by exact pn)
set_option maxRecDepth 20000 in
/-- rhizome/view.own -/
theorem vown_fn (v : Vw) (ho : v.2.2.1.length ≤ 1000000) (ha : v.2.2.2.1.length ≤ 1000000) : Ct Tryz.prog 28 [kV.T v] ([]) Unit (fun _ => kV.T v) (fun _ => []) (fun _ => True) := by
 refine fn_intro Tryz.func28 rfl rfl ?_
 intro H w
 refine sq (te (ec 0 rfl en) (rg (oA (acts_box (d := kV) (oT rfl)) pR rfl rfl (fun g0_0 _ => ?_))))
 refine oA (acts_alloc (zV)) pR rfl rfl (fun g0_1 _ => ?_)
 refine tn (nn (sq (te (ec 1 rfl (ec 2 rfl en)) ?_)))
 apply tr_any (m := 7) (ns := [[(1, none)], [(3, some 0)], [(4, some 1)], [(1, none)], [(6, some 3)], [(7, some 4)], [(1, none)]]) (by kernel_rfl) (by kernel_rfl) (Ts := [_, _, _, _, _, _, _]) rfl
 case hops =>
  refine ⟨?_, ?_, ?_, ?_, ?_, ?_, ?_, trivial⟩
  · exact rP (pf (oT rfl) y55)
  · exact rP (plb (oT rfl) (by exact mA 1 rfl) lv2 y56)
  · exact rop_acts rfl (aC (CloneS_fn _ (by omega)) y134 (oc (oT rfl) oN) pR) (fun _ _ _ _ h => h)
  · exact rP (pf (oT rfl) y43)
  · exact rP (plb (oT rfl) (by exact mA 1 rfl) lv3 y44)
  · exact rop_acts rfl (aC (CloneAt_fn _ (by omega)) y135 (oc (oT rfl) oN) pR) (fun _ _ _ _ h => h)
  · exact rP (pf (oT rfl) y55)
 case h =>
  refine oA (acts_store_blk (oT rfl) (oT rfl) (by exact pA 1 rfl) lv2 y56) (by exact pA 1 rfl) rfl rfl (fun _ _ => ?_)
  refine oP (pf (oT rfl) y43) rfl (oA (acts_store_blk (oT rfl) (oT rfl) (by exact pA 0 rfl) lv3 y44) (by exact pA 0 rfl) rfl rfl (fun _ _ => ?_))
  refine tn (nn (sq (te (ec 1 rfl (ec 2 rfl en)) (rg (oP (plv (oT rfl) (by exact mA 0 rfl) y58) rfl ?_)))))
  refine oA (asv (oT rfl) (oT rfl) (by exact pA 1 rfl) y58) (by exact pA 1 rfl) rfl rfl (fun _ _ => ?_)
  refine tn (nn (tR ?_))
  exact ret_cell .ret (.inl rfl) rfl () (oT rfl) (by exact mA 0 rfl) y58 rfl trivial (by exact pn)
set_option maxHeartbeats 1000000 in
set_option maxRecDepth 20000 in
/-- rhizome/view.New -/
theorem VNew_fn (v : Vw) (es : List Ed) (hk2 : v.2.1 = 2) (hck : checkB v = true) (hnb : nameB v.2.2.2.2 = true) (ho : v.2.2.1.length ≤ 1000000) (ha : v.2.2.2.1.length ≤ 1000000) (hm : es.length ≤ 60) (hei : ∀ e ∈ es, in64 e.1 ∧ in64 e.2.2) : Ct Tryz.prog 10 [kV.T v, SlT kE es] ([]) (SO × RS × RS × List (Ed × Bool) × List Pr × List Pr) (fun q => TupT [IsV (pt q.1.g 0), I64 0]) (fun q => StI q.1 0 q.2.1 q.2.2.1 q.2.2.2.1) (fun q => NewV v es q.1 q.2.1 q.2.2.1 q.2.2.2.1 q.2.2.2.2.1 q.2.2.2.2.2) := by
 refine fn_intro Tryz.func10 rfl rfl ?_
 intro H w
 refine sq (te (ec 0 rfl (ec 1 rfl en)) (rg (oA (acts_box (d := kV) (oT rfl)) pR rfl rfl (fun g0_0 _ => ?_))))
 refine ak rfl (ak rfl (tn (nn (sq (sq (te (ec 1 rfl (ec 2 rfl en)) (rg (oP (plv (oT rfl) (by exact mA 0 rfl) y58) rfl ?_))))))))
 refine mv rfl rfl (oA (aC (Content_fn v es (by unfold maxLen; omega) (by unfold maxLen; omega) (by omega) hei) y136 (oc (oT rfl) (oc (oT rfl) oN)) pR) pR rfl rfl (fun q hq => ?_))
 refine mv rfl rfl (oP (pu_extract (oT rfl) rfl) rfl (oP (pu_extract (oT rfl) rfl) rfl (av rfl rfl (av rfl rfl (tn (nn (sq (te (ec 1 rfl (ec 2 rfl (ec 7 rfl en))) ?_))))))))
 rw [if_pos hck, if_pos hk2, if_pos hnb] at hq
 rw [hq.2]
 refine rg (mv rfl rfl (oP (pu_neq (oT rfl) ot) rfl (tn (nn (tc (oT rfl) (fun c18 => ?_) (fun c18 => ?_))))))
 · exfalso
   exact absurd (of_decide_eq_true c18) (by decide) --done
 · refine sk (nn (sq (te (ec 1 rfl (ec 2 rfl en)) (rg (oP (plv (oT rfl) (by exact mA 0 rfl) y58) rfl ?_)))))
   refine oA (aC (vown_fn _ (by omega) (by omega)) y137 (oc (oT rfl) oN) pR) pR rfl rfl (fun _ _ => ?_)
   refine oA (acts_makeMap encE kbool.T) pR rfl rfl (fun g4_2 _ => ?_)
   refine oP (pu_build (d := kSt) (v0 := (([], 0, [], [], []), .nilIface, .map none)) (ps := [(0, 5), (5, 1), (6, 1)]) zSt (by kernel_rfl) rfl (fills_cons rfl lt0 (oT rfl) (fills_cons rfl lt2 (OT.raw (oT rfl) rfl) fills_nil))) rfl (oA (acts_box (d := kSt) (oT rfl)) pR rfl rfl (fun g4_4 _ => ?_))
   refine av rfl rfl (tn (nn (sq (sq (te (ec 1 rfl (ec 2 rfl (ec 8 rfl en))) (rg (mv rfl rfl (oP (pls (oT rfl) Tryz.underlying26) rfl (oP (pu_move ot) rfl (tn (nn (tb (tr_loopK (σ := Nat × List (Ed × Bool)) (ec 1 rfl (ec 2 rfl (ec 8 rfl (ec 25 rfl (ec 26 rfl en))))) (fun s => [(27, I64 (s.1 : Int))]) (fun s => [BlkI g4_4 74 kSt (v, .nilIface, mp g4_2), MapI g4_2 encE kbool.T s.2, BlkI g0_0 25 kV v]) (fun s => s.1 ≤ es.length ∧ ∀ x, allE s.2 x = decide (x ∈ es.take s.1)) (fun s => es.length - s.1) (0, []) ⟨Nat.zero_le _, fun x => by simp [allE, lkp]⟩ ?_ (op (by repeat first | exact pn | refine pc 0 rfl ?_)) ?_)))))))))))))
   · exact (ec 27 rfl en)
   · rintro ⟨k, al⟩ ⟨hk, hal⟩
     dsimp only at hk hal ⊢
     refine sq (te (ec 1 rfl (ec 2 rfl (ec 8 rfl (ec 25 rfl (ec 26 rfl (ec 27 rfl en)))))) (rg (oP (pu_lss (oT rfl) (oT rfl)) rfl (tn (nn (sq (tc (oT rfl) (fun c28 => ?_) (fun c28 => ?_))))))))
     · refine sk (nn (sq (tb (sq (te (ec 1 rfl (ec 2 rfl (ec 8 rfl (ec 25 rfl (ec 26 rfl (ec 27 rfl en)))))) ?_)))))
       have hkl : k < es.length := by simp only [decide_eq_true_eq] at c28; omega
       obtain ⟨e, he⟩ : ∃ e, at' es (k : Int) = e := ⟨_, rfl⟩
       refine rg (oP (pu_index (oT rfl) (oT rfl) Tryz.underlying26 y61 (by omega) (by omega)) rfl (oP (pL (oT rfl) y61) rfl (oA (acts_alloc (zE)) pR rfl rfl (fun g7_2 _ => ?_))))
       refine oA (asv (oT rfl) (oT rfl) (by exact pA 0 rfl) y61) (by exact pA 0 rfl) rfl rfl (fun _ _ => ?_)
       refine tn ?_
       rw [he]
       refine nn (te (ec 1 rfl (ec 2 rfl (ec 8 rfl (ec 10 rfl (ec 25 rfl (ec 26 rfl (ec 27 rfl en))))))) ?_)
       apply tr_any (m := 5) (ns := [[(8, none)], [(31, some 0)], [(32, some 1)], [(33, some 2)], [(10, none)]]) (by kernel_rfl) (by kernel_rfl) (Ts := [_, _, _, _, _]) rfl
       case hops =>
        refine ⟨?_, ?_, ?_, ?_, ?_, trivial⟩
        · exact rmv rfl
        · exact rP (pu_nilCheck (oT rfl))
        · exact rP (pf (oT rfl) y138)
        · exact rP (pu_load_rawf (oT rfl) (by exact mA 1 rfl) lt2 y139)
        · exact rP (plv (oT rfl) (by exact mA 0 rfl) y61)
       case h =>
        refine oA (acts_update (V := kbool.T) (v := true) mkE Tryz.underlying70 (oT rfl) (by exact pA 2 rfl) (oT rfl) ot) (by exact pA 2 rfl) rfl rfl (fun _ _ => ?_)
        refine tn (bn (nn (te (ec 1 rfl (ec 2 rfl (ec 8 rfl (ec 25 rfl (ec 26 rfl (ec 27 rfl en)))))) (rg (oP (pad (oT rfl) ot (by omega)) rfl (mv rfl rfl (tn (nn ?_))))))))
        exact tg (k + 1, ptk e true al) ⟨hkl, all_put hkl he hal⟩ (by show es.length - (k + 1) < es.length - k; omega) (ea (ec 27 rfl en) (ec 1 rfl (ec 2 rfl (ec 8 rfl (ec 25 rfl (ec 26 rfl en)))))) (op (by repeat first | exact pn | refine pc 0 rfl ?_ | refine pc 1 rfl ?_ | refine pc 2 rfl ?_))
     · refine tr_exit (tx (tx (bh (nn (sq (sq (te (ec 1 rfl (ec 2 rfl (ec 8 rfl en))) ?_)))))))
       obtain rfl : k = es.length := by simp only [decide_eq_false_iff_not] at c28; omega
       rw [List.take_length] at hal
       refine rg (oP (pf (oT rfl) y53) rfl (oP (plb (oT rfl) (by exact mA 2 rfl) lv1 y2) rfl ?_))
       refine oP (pu_eql (oT rfl) ot) rfl (tn (nn (tc (oT rfl) (fun c39 => ?_) (fun c39 => ?_))))
       · refine te (ec 1 rfl (ec 2 rfl (ec 8 rfl en))) (rg (mv rfl rfl (oP (pf (oT rfl) y54) rfl (oP (plb (oT rfl) (by exact mA 2 rfl) lv4 y40) rfl ?_))))
         refine mv rfl rfl (oA (aC (DNew_fn v.2.2.2.2 es hnb (by omega) hei) y140 (oc (oT rfl) (oc (oT rfl) oN)) pR) pR rfl rfl (fun r hr => ?_))
         refine tr_perm List.perm_append_comm (mv rfl rfl (oP (pu_extract (oT rfl) rfl) rfl (oP (pu_makeIface (oT rfl) Tryz.underlying75 rfl) rfl (oP (pu_extract (oT rfl) rfl) rfl (oP (pu_nilCheck (oT rfl)) rfl (oP (pf (oT rfl) y141) rfl (oA (acts_store_rawf (oT rfl) (oT rfl) (by rfl) (by exact pA 0 rfl) lt1 y142) (by exact pA 0 rfl) rfl rfl (fun _ _ => ?_))))))))
         refine tn (nn (sq (te (ec 8 rfl en) (rg (mv rfl rfl (av rfl rfl (ak rfl (tn (nn (tR ?_))))))))))
         exact ret_two .ret (.inl rfl) rfl (⟨g4_4, g4_2, v, r.1⟩, r.2.1, r.2.2.1, al, r.2.2.2.1, r.2.2.2.2) (oT rfl) (oT rfl) (fun _ _ h => h) ⟨rfl, hr, hal⟩ (pc 0 rfl (pc 0 rfl (pd pl)))
       · exfalso
         exact absurd hk2 (of_decide_eq_false c39) --done
/-- What is wrong with edges that go, and come. -/
def lookV (al : List (Ed × Bool)) (gone come : List Ed) : Int := if gone.all (allE al) = true then (if (decide gone.Nodup && (decide come.Nodup && come.all fun e => !allE al e || decide (e ∈ gone))) = true then 0 else 2) else 4
/-- How often. -/
abbrev CntE (m : List (Ed × Int)) (l : List Ed) : Prop := l.Nodup ∧ ∀ x, (lkp x m).getD 0 = if x ∈ l then 1 else 0
theorem cnt_nil : CntE [] [] := ⟨List.nodup_nil, fun x => by simp [lkp]⟩
theorem cnt_step {m : List (Ed × Int)} {es : List Ed} {k : Nat} (hk : k < es.length) {e : Ed} (he : at' es (k : Int) = e) (h : CntE m (es.take k)) (hc : ¬ (lkp e m).getD 0 + 1 > 1) : CntE (ptk e ((lkp e m).getD 0 + 1) m) (es.take (k + 1)) := by
 have h1 := h.2 e
 have hne : e ∉ es.take k := fun q => by rw [if_pos q] at h1; omega
 rw [if_neg hne] at h1
 rw [at'_nat hk] at he
 rw [List.take_succ_eq_append_getElem hk, he]
 refine ⟨List.nodup_append.2 ⟨h.1, by simp, fun a ha b hb q => hne (by rw [← (by simpa using hb : b = e), ← q]; exact ha)⟩, fun x => ?_⟩
 rw [lkp_put]
 by_cases q : e = x
 · subst q; simp [h1]
 · have q2 : ¬ x = e := fun z => q z.symm
   rw [if_neg q, h.2]; simp [q2]
theorem cnt_bad {m : List (Ed × Int)} {es : List Ed} {k : Nat} (hk : k < es.length) {e : Ed} (he : at' es (k : Int) = e) (h : CntE m (es.take k)) (hc : (lkp e m).getD 0 + 1 > 1) : ¬ es.Nodup := fun hn => by
 have h1 := h.2 e
 rw [at'_nat hk] at he
 have hin : e ∈ es.take k := Classical.byContradiction fun q => by rw [if_neg q] at h1; omega
 obtain ⟨j, hj, h2⟩ := List.mem_take_iff_getElem.1 hin
 have := (List.getElem_inj hn).1 (h2.trans he.symm)
 omega
theorem cnt_range {m : List (Ed × Int)} {l : List Ed} (h : CntE m l) (e : Ed) : 0 ≤ (lkp e m).getD 0 ∧ (lkp e m).getD 0 ≤ 1 := by rw [h.2]; split <;> omega
theorem all_step {p : Ed → Bool} {es : List Ed} {k : Nat} (hk : k < es.length) {e : Ed} (he : at' es (k : Int) = e) (h : (es.take k).all p = true) (hp : p e = true) : (es.take (k + 1)).all p = true := by
 rw [at'_nat hk] at he
 rw [List.take_succ_eq_append_getElem hk, List.all_append, h, he]; simp [hp]
theorem all_no {p : Ed → Bool} {es : List Ed} {k : Nat} (hk : k < es.length) {e : Ed} (he : at' es (k : Int) = e) (hp : p e = false) : es.all p = false := by
 rw [Bool.eq_false_iff]
 intro h
 have := List.all_eq_true.1 h e (by rw [← he]; exact at_mem hk)
 rw [hp] at this; cases this
theorem look_two {al : List (Ed × Bool)} {gone come : List Ed} {m mi : List (Ed × Int)} {k : Nat} {e : Ed} (hal : gone.all (allE al) = true) (hn : gone.Nodup) (hk : k < come.length) (he : at' come (k : Int) = e) (hci : CntE mi (come.take k)) (h0 : (lkp e m).getD 0 = if e ∈ gone then 1 else 0) (hc : ((lkp e al).getD false && decide ((lkp e m).getD 0 = 0) || decide (1 < (lkp e mi).getD 0 + 1)) = true) : lookV al gone come = 2 := by
 have h2 : (decide come.Nodup && come.all fun e => !allE al e || decide (e ∈ gone)) = false := by
  rcases Bool.or_eq_true _ _ ▸ hc with h | h
  · rw [Bool.and_eq_true, decide_eq_true_eq] at h
    have hg : e ∉ gone := fun q => by rw [if_pos q] at h0; omega
    rw [all_no hk he (by show (!allE al e || decide (e ∈ gone)) = false; rw [show allE al e = true from h.1, decide_eq_false hg]; rfl), Bool.and_false]
  · rw [decide_eq_false (cnt_bad hk he hci (of_decide_eq_true h)), Bool.false_and]
 unfold lookV
 rw [if_pos hal, decide_eq_true hn, h2]; rfl
theorem look_ok {al : List (Ed × Bool)} {gone : List Ed} {m mi : List (Ed × Int)} {e : Ed} (h0 : (lkp e m).getD 0 = if e ∈ gone then 1 else 0) (hc : ((lkp e al).getD false && decide ((lkp e m).getD 0 = 0) || decide (1 < (lkp e mi).getD 0 + 1)) = false) : ¬ (lkp e mi).getD 0 + 1 > 1 ∧ (!allE al e || decide (e ∈ gone)) = true := by
 rw [Bool.or_eq_false_iff] at hc
 refine ⟨of_decide_eq_false hc.2, ?_⟩
 have h1 := hc.1
 unfold allE
 cases ha : (lkp e al).getD false with
 | false => rfl
 | true =>
  rw [ha, Bool.true_and] at h1
  have h1 := of_decide_eq_false h1
  by_cases hg : e ∈ gone
  · simp [hg]
  · rw [if_neg hg] at h0; exact absurd h0 h1

set_option maxHeartbeats 1000000 in
set_option maxRecDepth 20000 in
/-- (*rhizome/view.Standing).look -/
theorem vlook_fn (o : SO) (n : Int) (re rs : RS) (al : List (Ed × Bool)) (gone come : List Ed) (h1 : gone.length ≤ 1000) (h2 : come.length ≤ 1000) : Ct Tryz.prog 31 [IsV (pt o.g 0), SlT kE gone, SlT kE come] (StI o n re rs al) Unit (fun _ => I64 (lookV al gone come)) (fun _ => StI o n re rs al) (fun _ => True) := by
 refine fn_intro Tryz.func31 rfl rfl ?_
 intro H w
 refine tr_perm (List.Perm.refl (BlkI o.g 74 kSt (stV o) :: MapI o.ga encE kbool.T al :: DrI o.d n re rs)) (sq (te (ec 0 rfl (ec 1 rfl (ec 2 rfl en))) (rg (ak rfl (tn (nn (sq (te (ec 0 rfl (ec 1 rfl (ec 2 rfl en))) (rg (oA (acts_makeMap encE kI.T) pR rfl rfl (fun g1_0 _ => ?_)))))))))))
 refine av rfl rfl (tn (nn (sq (sq (te (ec 0 rfl (ec 1 rfl (ec 2 rfl (ec 7 rfl en)))) (rg (mv rfl rfl (oP (pls (oT rfl) Tryz.underlying26) rfl (oP (pu_move ot) rfl (tn (nn (tb (tr_loopK (σ := Nat) (ec 0 rfl (ec 1 rfl (ec 2 rfl (ec 7 rfl (ec 16 rfl (ec 17 rfl en)))))) (fun k => [(18, I64 (k : Int))]) (fun k => MapI g1_0 encE kI.T [] :: BlkI o.g 74 kSt (stV o) :: MapI o.ga encE kbool.T al :: DrI o.d n re rs) (fun k => k ≤ gone.length ∧ (gone.take k).all (allE al) = true) (fun k => gone.length - k) 0 ⟨Nat.zero_le _, rfl⟩ ?_ (op pl) ?_)))))))))))))
 · exact (ec 18 rfl en)
 · rintro k ⟨hk, hal⟩
   refine sq (te (ec 0 rfl (ec 1 rfl (ec 2 rfl (ec 7 rfl (ec 16 rfl (ec 17 rfl (ec 18 rfl en))))))) (rg (oP (pu_lss (oT rfl) (oT rfl)) rfl (tn (nn (sq (tc (oT rfl) (fun c19 => ?_) (fun c19 => ?_))))))))
   · refine sk (nn (sq (tb (sq (te (ec 0 rfl (ec 1 rfl (ec 2 rfl (ec 7 rfl (ec 16 rfl (ec 17 rfl (ec 18 rfl en))))))) ?_)))))
     have hkl : k < gone.length := by simp only [decide_eq_true_eq] at c19; omega
     obtain ⟨e, he⟩ : ∃ e, at' gone (k : Int) = e := ⟨_, rfl⟩
     refine rg (oP (pu_index (oT rfl) (oT rfl) Tryz.underlying26 y61 (by omega) (by omega)) rfl (oP (pL (oT rfl) y61) rfl (oA (acts_alloc (zE)) pR rfl rfl (fun g4_2 _ => ?_))))
     refine oA (asv (oT rfl) (oT rfl) (by exact pA 0 rfl) y61) (by exact pA 0 rfl) rfl rfl (fun _ _ => ?_)
     refine tn ?_
     rw [he]
     refine nn (sq (te (ec 0 rfl (ec 1 rfl (ec 2 rfl (ec 7 rfl (ec 9 rfl (ec 16 rfl (ec 17 rfl (ec 18 rfl en)))))))) ?_))
     apply tr_any (m := 5) (ns := [[(0, none)], [(22, some 0)], [(23, some 1)], [(24, some 2)], [(9, none)]]) (by kernel_rfl) (by kernel_rfl) (Ts := [_, _, _, _, _]) rfl
     case hops =>
      refine ⟨?_, ?_, ?_, ?_, ?_, trivial⟩
      · exact rmv rfl
      · exact rP (pu_nilCheck (oT rfl))
      · exact rP (pf (oT rfl) y138)
      · exact rP (pu_load_rawf (oT rfl) (by exact mA 2 rfl) lt2 y139)
      · exact rP (plv (oT rfl) (by exact mA 0 rfl) y61)
     case h =>
      refine oP (pu_lookup_own mkE Tryz.underlying70 zBoD (oT rfl) (by exact mA 3 rfl) (oT rfl)) rfl ?_
      refine oP (pu_not (oT rfl)) rfl (tn (nn (tc (oT rfl) (fun c28 => ?_) (fun c28 => ?_))))
      · have hae : allE al e = false := by simpa using c28
        have hno := all_no hkl he hae
        have hres : lookV al gone come = 4 := by unfold lookV; rw [hno]; rfl
        exact sq (te en (rg (ak rfl (tn (nn (tR (block_ret (tt (tt (block_ret (tt (ret_one .ret (.inl rfl) rfl () (OT.val (oT rfl) (congrArg (Value.int _) (hres.symm))) trivial (pd (pd pl))))))))))))))
      · have hae : allE al e = true := by simpa using c28
        refine sk (bn (nn (te (ec 0 rfl (ec 1 rfl (ec 2 rfl (ec 7 rfl (ec 16 rfl (ec 17 rfl (ec 18 rfl en))))))) (rg (oP (pad (oT rfl) ot (by omega)) rfl (mv rfl rfl (tn (nn ?_))))))))
        exact tg (k + 1) ⟨hkl, all_step hkl he hal hae⟩ (by show gone.length - (k + 1) < gone.length - k; omega) (ea (ec 18 rfl en) (ec 0 rfl (ec 1 rfl (ec 2 rfl (ec 7 rfl (ec 16 rfl (ec 17 rfl en))))))) (op (pd pl))
   · refine tr_exit (tx (tx (bh (nn (sq (sq (te (ec 0 rfl (ec 1 rfl (ec 2 rfl (ec 7 rfl en)))) ?_)))))))
     obtain rfl : k = gone.length := by simp only [decide_eq_false_iff_not] at c19; omega
     rw [List.take_length] at hal
     refine rg (mv rfl rfl (oP (pls (oT rfl) Tryz.underlying26) rfl (oP (pu_move ot) rfl (tn (nn (tb (tr_loopK (σ := Nat × List (Ed × Int)) (ec 0 rfl (ec 2 rfl (ec 7 rfl (ec 30 rfl (ec 31 rfl en))))) (fun s => [(32, I64 (s.1 : Int))]) (fun s => MapI g1_0 encE kI.T s.2 :: BlkI o.g 74 kSt (stV o) :: MapI o.ga encE kbool.T al :: DrI o.d n re rs) (fun s => s.1 ≤ gone.length ∧ CntE s.2 (gone.take s.1)) (fun s => gone.length - s.1) (0, []) ⟨Nat.zero_le _, cnt_nil⟩ ?_ (op pl) ?_)))))))
     · exact (ec 32 rfl en)
     · rintro ⟨k, m⟩ ⟨hk, hc⟩
       dsimp only at hk hc ⊢
       refine sq (te (ec 0 rfl (ec 2 rfl (ec 7 rfl (ec 30 rfl (ec 31 rfl (ec 32 rfl en)))))) (rg (oP (pu_lss (oT rfl) (oT rfl)) rfl (tn (nn (sq (tc (oT rfl) (fun c33 => ?_) (fun c33 => ?_))))))))
       · refine sk (nn (sq (tb (sq (te (ec 0 rfl (ec 2 rfl (ec 7 rfl (ec 30 rfl (ec 31 rfl (ec 32 rfl en)))))) ?_)))))
         have hkl : k < gone.length := by simp only [decide_eq_true_eq] at c33; omega
         obtain ⟨e, he⟩ : ∃ e, at' gone (k : Int) = e := ⟨_, rfl⟩
         have hcr := cnt_range hc e
         refine rg (oP (pu_index (oT rfl) (oT rfl) Tryz.underlying26 y61 (by omega) (by omega)) rfl (oP (pL (oT rfl) y61) rfl (oA (acts_alloc (zE)) pR rfl rfl (fun g10_2 _ => ?_))))
         refine oA (asv (oT rfl) (oT rfl) (by exact pA 0 rfl) y61) (by exact pA 0 rfl) rfl rfl (fun _ _ => ?_)
         refine tn ?_
         rw [he]
         refine nn (sq (te (ec 0 rfl (ec 2 rfl (ec 7 rfl (ec 11 rfl (ec 30 rfl (ec 31 rfl (ec 32 rfl en))))))) ?_))
         apply tr_anyG (ρ := Nat) (φ := fun rr => True) (p := 4) (Lf := fun c rr => cond c (MapE g1_0 encE kI.T (ptk e ((lkp e m).getD 0) m) e rr :: BlkI g10_2 42 kE e :: BlkI o.g 74 kSt (stV o) :: MapI o.ga encE kbool.T al :: DrI o.d n re rs) (BlkI g10_2 42 kE e :: MapI g1_0 encE kI.T m :: BlkI o.g 74 kSt (stV o) :: MapI o.ga encE kbool.T al :: DrI o.d n re rs)) 0 (by kernel_rfl) (m := 6) (ns := [[(7, none)], [(11, none)], [(36, some 0), (37, some 1)], [(38, some 2)], [(36, some 0), (37, some 1)], [(40, some 4)]]) (by kernel_rfl) (by kernel_rfl) (Ts := fun rr => [_, _, kI.T ((lkp e m).getD 0), I64 ((lkp e m).getD 0 + 1), TupT [kI.T ((lkp e m).getD 0), I64 (rr : Int)], I64 (rr : Int)]) (fun _ => rfl)
         case hops =>
          refine ⟨?_, ?_, ?_, ?_, ?_, ?_, trivial⟩
          · exact ⟨cBf (by kernel_rfl) fun r _ => rgo r rfl ⟨rfl, trivial⟩ (rmv rfl), fun _ _ _ _ => rfl⟩
          · exact ⟨cBf (by kernel_rfl) fun r _ => rgo r rfl ⟨rfl, trivial⟩ (rP (plv (oT rfl) (by exact mA 0 rfl) y61)), fun _ _ _ _ => rfl⟩
          · exact ⟨cB (fun r hc => rgo r rfl ⟨rfl, trivial⟩ (rP (pu_lookup_own mkE Tryz.underlying126 zI (oT rfl) (by exact mA 1 rfl) (oT rfl)))) fun r hc => rgo r rfl ⟨rfl, trivial⟩ (rP (pu_lookup_entry mkE Tryz.underlying126 zI (oT rfl) (by exact mA 0 rfl) (oT rfl))), fun _ _ _ _ => rfl⟩
          · exact ⟨by intro c r hc; cases c <;> exact rgo r rfl ⟨rfl, trivial⟩ (rP (pad (oT rfl) ot (by omega))), fun _ _ _ _ => rfl⟩
          · refine ⟨?_, ?_⟩
            · exact cBf (by kernel_rfl) fun r _ => ropg_acts rfl (acts_entry mkE Tryz.underlying126 zI (oT rfl) (by exact pA 1 rfl) (oT rfl)) (by exact pA 1 rfl) (fun r => pR) (fun _ _ _ => trivial) (fun _ _ _ _ h => h)
            · exact fun _ h => absurd h (by decide)
          · refine ⟨?_, ?_⟩
            · exact cBt (by kernel_rfl) fun r _ => rgo r rfl ⟨rfl, trivial⟩ (rP (pu_extract (oT rfl) rfl))
            · exact fun h => Bool.noConfusion (h.symm.trans (by kernel_rfl : okFlag _ _ _ _ = false))
         case h =>
          intro s11_4 _
          refine oA (acts_entryStore (oT rfl) (by exact pA 0 rfl) (oT rfl) (oT rfl)) (by exact pA 0 rfl) rfl rfl (fun _ _ => ?_)
          refine tn ?_
          rw [ptk_put]
          refine nn (sq (te (ec 0 rfl (ec 2 rfl (ec 7 rfl (ec 11 rfl (ec 30 rfl (ec 31 rfl (ec 32 rfl en))))))) (rg (mv rfl rfl (oP (plv (oT rfl) (by exact mA 1 rfl) y61) rfl ?_)))))
          refine oP (pu_lookup_own mkE Tryz.underlying126 zI (oT rfl) (by exact mA 0 rfl) (oT rfl)) rfl ?_
          refine oP (pu_gtr (oT rfl) ot) rfl (tn (nn (tc (oT rfl) (fun c45 => ?_) (fun c45 => ?_))))
          · rw [lkp_put, if_pos rfl] at c45
            have hbd := cnt_bad hkl he hc (of_decide_eq_true c45)
            have hres : lookV al gone come = 2 := by unfold lookV; rw [if_pos hal, decide_eq_false hbd]; rfl
            exact sq (te en (rg (ak rfl (tn (nn (tR (block_ret (tt (tt (block_ret (tt (ret_one .ret (.inl rfl) rfl () (OT.val (oT rfl) (congrArg (Value.int _) (hres.symm))) trivial (pd (pd pl))))))))))))))
          · rw [lkp_put, if_pos rfl] at c45
            have hst := cnt_step hkl he hc (of_decide_eq_false c45)
            refine sk (bn (nn (te (ec 0 rfl (ec 2 rfl (ec 7 rfl (ec 30 rfl (ec 31 rfl (ec 32 rfl en)))))) (rg (oP (pad (oT rfl) ot (by omega)) rfl (mv rfl rfl (tn (nn ?_))))))))
            exact tg (k + 1, ptk e ((lkp e m).getD 0 + 1) m) ⟨hkl, hst⟩ (by show gone.length - (k + 1) < gone.length - k; omega) (ea (ec 32 rfl en) (ec 0 rfl (ec 2 rfl (ec 7 rfl (ec 30 rfl (ec 31 rfl en)))))) (op (pc 0 rfl (pd pl)))
       · refine tr_exit (tx (tx (bh (nn (sq (te (ec 0 rfl (ec 2 rfl (ec 7 rfl en))) ?_))))))
         obtain rfl : k = gone.length := by simp only [decide_eq_false_iff_not] at c33; omega
         rw [List.take_length] at hc
         refine rg (oA (acts_makeMap encE kI.T) pR rfl rfl (fun g15_0 _ => ?_))
         refine av rfl rfl (tn (nn (sq (sq (te (ec 0 rfl (ec 2 rfl (ec 7 rfl (ec 12 rfl en)))) (rg (mv rfl rfl (oP (pls (oT rfl) Tryz.underlying26) rfl (oP (pu_move ot) rfl (tn (nn (tb (tr_loopK (σ := Nat × List (Ed × Int)) (ec 0 rfl (ec 7 rfl (ec 12 rfl (ec 48 rfl (ec 49 rfl en))))) (fun s => [(50, I64 (s.1 : Int))]) (fun s => MapI g15_0 encE kI.T s.2 :: MapI g1_0 encE kI.T m :: BlkI o.g 74 kSt (stV o) :: MapI o.ga encE kbool.T al :: DrI o.d n re rs) (fun s => s.1 ≤ come.length ∧ CntE s.2 (come.take s.1) ∧ ((come.take s.1).all fun e => !allE al e || decide (e ∈ gone)) = true) (fun s => come.length - s.1) (0, []) ⟨Nat.zero_le _, cnt_nil, rfl⟩ ?_ (op pl) ?_)))))))))))))
         · exact (ec 50 rfl en)
         · rintro ⟨k, mi⟩ ⟨hk, hci, hca⟩
           dsimp only at hk hci hca ⊢
           refine sq (te (ec 0 rfl (ec 7 rfl (ec 12 rfl (ec 48 rfl (ec 49 rfl (ec 50 rfl en)))))) (rg (oP (pu_lss (oT rfl) (oT rfl)) rfl (tn (nn (sq (tc (oT rfl) (fun c51 => ?_) (fun c51 => ?_))))))))
           · refine sk (nn (sq (tb (sq (te (ec 0 rfl (ec 7 rfl (ec 12 rfl (ec 48 rfl (ec 49 rfl (ec 50 rfl en)))))) ?_)))))
             have hkl : k < come.length := by simp only [decide_eq_true_eq] at c51; omega
             obtain ⟨e, he⟩ : ∃ e, at' come (k : Int) = e := ⟨_, rfl⟩
             have hcr := cnt_range hci e
             refine rg (oP (pu_index (oT rfl) (oT rfl) Tryz.underlying26 y61 (by omega) (by omega)) rfl (oP (pL (oT rfl) y61) rfl (oA (acts_alloc (zE)) pR rfl rfl (fun g18_2 _ => ?_))))
             refine oA (asv (oT rfl) (oT rfl) (by exact pA 0 rfl) y61) (by exact pA 0 rfl) rfl rfl (fun _ _ => ?_)
             refine tn ?_
             rw [he]
             refine nn (sq (te (ec 0 rfl (ec 7 rfl (ec 12 rfl (ec 14 rfl (ec 48 rfl (ec 49 rfl (ec 50 rfl en))))))) ?_))
             apply tr_anyG (ρ := Nat) (φ := fun rr => True) (p := 4) (Lf := fun c rr => cond c (MapE g15_0 encE kI.T (ptk e ((lkp e mi).getD 0) mi) e rr :: BlkI g18_2 42 kE e :: MapI g1_0 encE kI.T m :: BlkI o.g 74 kSt (stV o) :: MapI o.ga encE kbool.T al :: DrI o.d n re rs) (BlkI g18_2 42 kE e :: MapI g15_0 encE kI.T mi :: MapI g1_0 encE kI.T m :: BlkI o.g 74 kSt (stV o) :: MapI o.ga encE kbool.T al :: DrI o.d n re rs)) 0 (by kernel_rfl) (m := 6) (ns := [[(12, none)], [(14, none)], [(54, some 0), (55, some 1)], [(56, some 2)], [(54, some 0), (55, some 1)], [(58, some 4)]]) (by kernel_rfl) (by kernel_rfl) (Ts := fun rr => [_, _, kI.T ((lkp e mi).getD 0), I64 ((lkp e mi).getD 0 + 1), TupT [kI.T ((lkp e mi).getD 0), I64 (rr : Int)], I64 (rr : Int)]) (fun _ => rfl)
             case hops =>
              refine ⟨?_, ?_, ?_, ?_, ?_, ?_, trivial⟩
              · exact ⟨cBf (by kernel_rfl) fun r _ => rgo r rfl ⟨rfl, trivial⟩ (rmv rfl), fun _ _ _ _ => rfl⟩
              · exact ⟨cBf (by kernel_rfl) fun r _ => rgo r rfl ⟨rfl, trivial⟩ (rP (plv (oT rfl) (by exact mA 0 rfl) y61)), fun _ _ _ _ => rfl⟩
              · exact ⟨cB (fun r hc => rgo r rfl ⟨rfl, trivial⟩ (rP (pu_lookup_own mkE Tryz.underlying126 zI (oT rfl) (by exact mA 1 rfl) (oT rfl)))) fun r hc => rgo r rfl ⟨rfl, trivial⟩ (rP (pu_lookup_entry mkE Tryz.underlying126 zI (oT rfl) (by exact mA 0 rfl) (oT rfl))), fun _ _ _ _ => rfl⟩
              · exact ⟨by intro c r hc; cases c <;> exact rgo r rfl ⟨rfl, trivial⟩ (rP (pad (oT rfl) ot (by omega))), fun _ _ _ _ => rfl⟩
              · refine ⟨?_, ?_⟩
                · exact cBf (by kernel_rfl) fun r _ => ropg_acts rfl (acts_entry mkE Tryz.underlying126 zI (oT rfl) (by exact pA 1 rfl) (oT rfl)) (by exact pA 1 rfl) (fun r => pR) (fun _ _ _ => trivial) (fun _ _ _ _ h => h)
                · exact fun _ h => absurd h (by decide)
              · refine ⟨?_, ?_⟩
                · exact cBt (by kernel_rfl) fun r _ => rgo r rfl ⟨rfl, trivial⟩ (rP (pu_extract (oT rfl) rfl))
                · exact fun h => Bool.noConfusion (h.symm.trans (by kernel_rfl : okFlag _ _ _ _ = false))
             case h =>
              intro s19_4 _
              refine oA (acts_entryStore (oT rfl) (by exact pA 0 rfl) (oT rfl) (oT rfl)) (by exact pA 0 rfl) rfl rfl (fun _ _ => ?_)
              refine tn ?_
              rw [ptk_put]
              refine nn (sq (te (ec 0 rfl (ec 7 rfl (ec 12 rfl (ec 14 rfl (ec 48 rfl (ec 49 rfl (ec 50 rfl en))))))) ?_))
              apply tr_any (m := 15) (ns := [[(0, none)], [(60, some 0)], [(61, some 1)], [(62, some 2)], [(14, none)], [(63, some 3), (64, some 4)], [(65, some 5)], [(7, none), (66, some 6)], [(14, none), (66, some 6)], [(66, some 6), (67, some 7), (68, some 8)], [(66, some 6), (69, some 9)], [(66, some 6), (70, some 10)], [(71, some 11)], [(12, none), (72, some 12)], [(14, none), (72, some 12)]]) (by kernel_rfl) (by kernel_rfl) (Ts := [_, _, _, _, _, _, _, _, _, _, _, _, _, _, _]) rfl
              case hops =>
               refine ⟨?_, ?_, ?_, ?_, ?_, ?_, ?_, ?_, ?_, ?_, ?_, ?_, ?_, ?_, ?_, trivial⟩
               · exact rmv rfl
               · exact rP (pu_nilCheck (oT rfl))
               · exact rP (pf (oT rfl) y138)
               · exact rP (pu_load_rawf (oT rfl) (by exact mA 3 rfl) lt2 y139)
               · exact rP (plv (oT rfl) (by exact mA 1 rfl) y61)
               · exact rP (pu_lookup_own mkE Tryz.underlying70 zBoD (oT rfl) (by exact mA 4 rfl) (oT rfl))
               · exact rmv rfl
               · exact rG rfl rfl rfl (gm (oT rfl)) (fun hg => by (have hg1 := hg.2; exact rmv rfl))
               · exact rG rfl rfl rfl (gm (oT rfl)) (fun hg => by (have hg1 := hg.2; exact rP (plv (oT rfl) (by exact mA 1 rfl) y61)))
               · exact rG rfl rfl rfl (gm (oT rfl)) (fun hg => by (have hg1 := hg.2; exact rP (pu_lookup_own mkE Tryz.underlying126 zI (by exact gu (oT rfl) hg) (by exact mA 2 rfl) (by exact gu (oT rfl) hg))))
               · exact rG rfl rfl rfl (gm (oT rfl)) (fun hg => by (have hg1 := hg.2; exact rP (pu_eql (by exact gu (oT rfl) hg) ot)))
               · exact rP (pu_pick_and (oT rfl) (oT rfl))
               · exact rmv rfl
               · exact rG rfl rfl rfl (gm (oT rfl)) (fun hg => by (have hg1 := hg.2; exact rmv rfl))
               · exact rG rfl rfl rfl (gm (oT rfl)) (fun hg => by (have hg1 := hg.2; exact rP (plv (oT rfl) (by exact mA 1 rfl) y61)))
              case h =>
               refine oG rfl rfl rfl (gm (oT rfl)) (fun hg => by (have hg1 := hg.2; (try simp only [cq2] at hg1); exact pu_lookup_own mkE Tryz.underlying126 zI (by exact gu (oT rfl) hg) (by exact mA 0 rfl) (by exact gu (oT rfl) hg))) rfl ?_
               refine oG rfl rfl rfl (gm (oT rfl)) (fun hg => by (have hg1 := hg.2; (try simp only [cq2] at hg1); exact pu_gtr (by exact gu (oT rfl) hg) ot)) rfl ?_
               refine oP (pu_pick_or (oT rfl) (oT rfl)) rfl (tn (nn (tc (oT rfl) (fun c77 => ?_) (fun c77 => ?_))))
               · rw [lkp_put, if_pos rfl] at c77
                 have hres : lookV al gone come = 2 := look_two hal hc.1 hkl he hci (hc.2 e) c77
                 exact sq (te en (rg (ak rfl (tn (nn (tR (block_ret (tt (tt (block_ret (tt (ret_one .ret (.inl rfl) rfl () (OT.val (oT rfl) (congrArg (Value.int _) (hres.symm))) trivial (pd (pd (pd pl)))))))))))))))
               · rw [lkp_put, if_pos rfl] at c77
                 obtain ⟨hno, hok⟩ := look_ok (hc.2 e) c77
                 have hst := cnt_step hkl he hci hno
                 refine sk (bn (nn (te (ec 0 rfl (ec 7 rfl (ec 12 rfl (ec 48 rfl (ec 49 rfl (ec 50 rfl en)))))) (rg (oP (pad (oT rfl) ot (by omega)) rfl (mv rfl rfl (tn (nn ?_))))))))
                 exact tg (k + 1, ptk e ((lkp e mi).getD 0 + 1) mi) ⟨hkl, hst, all_step hkl he hca hok⟩ (by show come.length - (k + 1) < come.length - k; omega) (ea (ec 50 rfl en) (ec 0 rfl (ec 7 rfl (ec 12 rfl (ec 48 rfl (ec 49 rfl en)))))) (op (pc 0 rfl (pd pl)))
           · refine tr_exit (tx (tx (bh (nn (sq (te en ?_))))))
             obtain rfl : k = come.length := by simp only [decide_eq_false_iff_not] at c51; omega
             rw [List.take_length] at hci hca
             have hres : lookV al gone come = 0 := by unfold lookV; rw [if_pos hal, decide_eq_true hc.1, decide_eq_true hci.1, hca]; rfl
             exact rg (ak rfl (tn (nn (tR (ret_one .ret (.inl rfl) rfl () (OT.val (oT rfl) (congrArg (Value.int _) (hres.symm))) trivial (pd (pd pl)))))))
end Go.Proofs.YtklhdalppmjnaaaGreatDoor
/- A step of a standing view that a dred keeps. Plain. -/
namespace Go.Proofs.YtklhdalppmjnaaaGreatDoor
open Go Go.Gw Go.So Go.Tu Go.Jn Go.MapKept
open Go.Dr hiding Pr
set_option linter.unusedVariables false
set_option linter.unusedSimpArgs false
theorem labE_cons (lab : Lab) (e : Ed) (es : List Ed) : labE lab (e :: es) = if e.2.1 = lab then (e.1, e.2.2) :: labE lab es else labE lab es := by
 unfold labE
 by_cases h : e.2.1 = lab <;> simp [h]
theorem labE_mem {lab : Lab} {es : List Ed} {p : Pr} : p ∈ labE lab es ↔ (p.1, lab, p.2) ∈ es := by
 unfold labE
 rw [List.mem_map]
 constructor
 · rintro ⟨e, he, rfl⟩
   obtain ⟨h1, h2⟩ := List.mem_filter.1 he
   have h2 : e.2.1 = lab := of_decide_eq_true h2
   rw [← h2]; exact h1
 · intro h; exact ⟨_, List.mem_filter.2 ⟨h, by simp⟩, rfl⟩
theorem labE_nd {lab : Lab} : ∀ {es : List Ed}, es.Nodup → (labE lab es).Nodup
 | [], _ => List.nodup_nil
 | e :: es, h => by
  have h1 := List.nodup_cons.1 h
  rw [labE_cons]
  split
  · rename_i hl
    refine List.nodup_cons.2 ⟨fun q => h1.1 ?_, labE_nd h1.2⟩
    have := labE_mem.1 q
    rw [← hl] at this; exact this
  · exact labE_nd h1.2
theorem chk_go {lab : Lab} {E : List Pr} {add : Bool} : ∀ (es : List Ed) (pre : List Pr), (pre ++ labE lab es).Nodup → (∀ x ∈ labE lab es, decide (x ∈ E) = !add) → chkD lab E add pre es = (0, pre ++ labE lab es)
 | [], pre, _, _ => by simp [chkD, labE]
 | e :: es, pre, hn, hin => by
  rw [labE_cons] at hn hin ⊢
  rw [chkD]
  by_cases hl : e.2.1 = lab
  · rw [if_pos hl] at hn hin ⊢
    rw [if_pos hl]
    have h1 := hin _ List.mem_cons_self
    have h2 : (e.1, e.2.2) ∉ pre := fun q => (List.nodup_append.1 hn).2.2 _ q _ List.mem_cons_self rfl
    rw [h1, decide_eq_false h2, if_neg (by cases add <;> decide), if_neg (by cases add <;> decide), chk_go es (pre ++ [(e.1, e.2.2)]) (by rw [List.append_assoc]; exact hn) fun x hx => hin x (List.mem_cons_of_mem _ hx), List.append_assoc]
    rfl
  · rw [if_neg hl] at hn hin ⊢
    rw [if_neg hl]
    exact chk_go es pre hn hin
def VSt (lab : Lab) (al : List (Ed × Bool)) (E : List Pr) : Prop := ∀ p : Pr, p ∈ E ↔ allE al (p.1, lab, p.2) = true
theorem look_says {al : List (Ed × Bool)} {gone come : List Ed} (h : lookV al gone come = 0) : (∀ e ∈ gone, allE al e = true) ∧ gone.Nodup ∧ come.Nodup ∧ ∀ e ∈ come, allE al e = true → e ∈ gone := by
 unfold lookV at h
 by_cases h1 : gone.all (allE al) = true
 · rw [if_pos h1] at h
   by_cases h2 : (decide gone.Nodup && (decide come.Nodup && come.all fun e => !allE al e || decide (e ∈ gone))) = true
   · simp only [Bool.and_eq_true, decide_eq_true_eq, List.all_eq_true, Bool.or_eq_true, Bool.not_eq_true'] at h2
     exact ⟨List.all_eq_true.1 h1, h2.1, h2.2.1, fun e he ha => (h2.2.2 e he).resolve_left fun q => by rw [ha] at q; cases q⟩
   · rw [if_neg h2] at h; exact absurd h (by decide)
 · rw [if_neg h1] at h; exact absurd h (by decide)
theorem chk_gone {lab : Lab} {al : List (Ed × Bool)} {gone come : List Ed} {E : List Pr} (h : lookV al gone come = 0) (hv : VSt lab al E) : chkD lab E false [] gone = (0, labE lab gone) := by
 obtain ⟨h1, h2, _, _⟩ := look_says h
 exact chk_go gone [] (labE_nd h2) fun x hx => decide_eq_true ((hv x).2 (h1 _ (labE_mem.1 hx)))
theorem chk_come {lab : Lab} {al : List (Ed × Bool)} {gone come : List Ed} {E E1 : List Pr} (h : lookV al gone come = 0) (hv : VSt lab al E) (h1 : ∀ x, x ∈ E1 ↔ x ∈ E ∧ x ∉ labE lab gone) : chkD lab E1 true [] come = (0, labE lab come) := by
 obtain ⟨_, _, h3, h4⟩ := look_says h
 refine chk_go come [] (labE_nd h3) fun x hx => decide_eq_false fun q => ?_
 obtain ⟨q1, q2⟩ := (h1 x).1 q
 exact q2 (labE_mem.2 (h4 _ (labE_mem.1 hx) ((hv x).1 q1)))
def AftA (al : List (Ed × Bool)) (gone come : List Ed) (al' : List (Ed × Bool)) : Prop := ∀ e, allE al' e = ((allE al e && !decide (e ∈ gone)) || decide (e ∈ come))
theorem vst_step {lab : Lab} {al al' : List (Ed × Bool)} {gone come : List Ed} {E E1 E2 : List Pr} (hv : VSt lab al E) (h1 : ∀ x, x ∈ E1 ↔ x ∈ E ∧ x ∉ labE lab gone) (h2 : ∀ x, x ∈ E2 ↔ x ∈ E1 ∨ x ∈ labE lab come) (ha : AftA al gone come al') : VSt lab al' E2 := fun p => by
 rw [h2, h1, hv, labE_mem, labE_mem, ha]
 simp
theorem del_step {al al2 : List (Ed × Bool)} {gone : List Ed} {k : Nat} (hk : k < gone.length) {e : Ed} (he : at' gone (k : Int) = e) (hn : (keys al2).Nodup) (h : ∀ x, allE al2 x = (allE al x && !decide (x ∈ gone.take k))) (x : Ed) : allE (dlk e al2) x = (allE al x && !decide (x ∈ gone.take (k + 1))) := by
 have h1 := h x
 unfold allE at h1 ⊢
 rw [lkp_del hn, List.take_succ_eq_append_getElem hk]
 rw [at'_nat hk] at he
 rw [he]
 by_cases q : e = x
 · subst q; simp
 · have q2 : ¬ x = e := fun z => q z.symm
   rw [if_neg q, h1]; simp [q2]
theorem come_step {f : Ed → Bool} {al2 : List (Ed × Bool)} {come : List Ed} {k : Nat} (hk : k < come.length) {e : Ed} (he : at' come (k : Int) = e) (h : ∀ x, allE al2 x = (f x || decide (x ∈ come.take k))) (x : Ed) : allE (ptk e true al2) x = (f x || decide (x ∈ come.take (k + 1))) := by
 have h1 := h x
 unfold allE at h1 ⊢
 rw [lkp_put, List.take_succ_eq_append_getElem hk]
 rw [at'_nat hk] at he
 rw [he]
 by_cases q : e = x
 · subst q; simp
 · have q2 : ¬ x = e := fun z => q z.symm
   rw [if_neg q, h1]; simp [q2]
theorem few_new {S S' : List Pr} (h : S'.length ≤ 3600) : Few (newD S S') := by
 have h1 := setR_len (tplL (S'.filter fun x => decide (x ∉ S)))
 have h2 : (tplL (S'.filter fun x => decide (x ∉ S))).length ≤ S'.length := by rw [List.length_map]; exact List.length_filter_le _ _
 refine ⟨by unfold newD; omega, fun t ht => ?_⟩
 unfold newD at ht
 obtain ⟨p, _, rfl⟩ := List.mem_map.1 (((setR_spec _).2 t).1 ht)
 show (2 : Nat) ≤ _
 omega
end Go.Proofs.YtklhdalppmjnaaaGreatDoor
/- Walks through the Go functions view.Standing).Read, view.Standing).Do, as typed contracts. -/
namespace Go.Proofs.YtklhdalppmjnaaaGreatDoor
open Go Go.Gw Go.So Go.Tu Go.Jn
open Go.Dr hiding Pr
set_option linter.unusedVariables false
set_option linter.unusedSimpArgs false
theorem aft_del {lab : Lab} {E E1 S1 : List Pr} {gone : List Ed} {re rs : RS} (h : DoSays lab E gone false re rs E1 S1) (hc : chkD lab E false [] gone = (0, labE lab gone)) (x : Pr) : x ∈ E1 ↔ x ∈ E ∧ x ∉ labE lab gone := by
 rw [h.m, hc]; exact Iff.rfl
theorem aft_add {lab : Lab} {E1 E2 S2 : List Pr} {come : List Ed} {re rs : RS} (h : DoSays lab E1 come true re rs E2 S2) (hc : chkD lab E1 true [] come = (0, labE lab come)) (x : Pr) : x ∈ E2 ↔ x ∈ E1 ∨ x ∈ labE lab come := by
 rw [h.m, hc]; exact Iff.rfl
abbrev dltA (S S1 : List Pr) : Dl := (newD S S1, newD S1 S)
/-- What a step says. -/
structure StepOk (lab : Lab) (al : List (Ed × Bool)) (E S : List Pr) (gone come : List Ed) (re rs : RS) (al' : List (Ed × Bool)) (E' S' : List Pr) (x : Dl) : Prop where
 ok : DOk E' S' re rs
 v : VSt lab al' E'
 a : AftA al gone come al'
 d : ∃ E1 S1 : List Pr, (∀ y, y ∈ E1 ↔ y ∈ E ∧ y ∉ labE lab gone) ∧ S1.Nodup ∧ (∀ a b, (a, b) ∈ S1 ↔ TC E1 a b) ∧ x = (thenR (dltA S S1) (dltA S1 S')).1

set_option maxRecDepth 20000 in
/-- (*rhizome/view.Standing).Read -/
theorem VRead_fn (o : SO) (n : Int) (re rs : RS) (al : List (Ed × Bool)) (S : List Pr) (hs : RelOk S rs) (hl : S.length ≤ 100000) : Ct Tryz.prog 13 [IsV (pt o.g 0)] (StI o n re rs al) Unit (fun _ => SlT kT (setR (tplL S))) (fun _ => StI o n re rs al) (fun _ => True) := by
 refine fn_intro Tryz.func13 rfl rfl ?_
 intro H w
 refine tr_perm (List.Perm.refl (BlkI o.g 74 kSt (stV o) :: MapI o.ga encE kbool.T al :: DrI o.d n re rs)) (sq (te (ec 0 rfl en) (rg (ak rfl (tn (nn (sq (te (ec 0 rfl en) (rg (mv rfl rfl (oP (pu_nilCheck (oT rfl)) rfl (oP (pf (oT rfl) y141) rfl (oP (pu_load_rawf (oT rfl) (by exact mA 0 rfl) lt1 y142) rfl ?_)))))))))))))
 exact op_tl [_, _] rfl (acts_invoke (oT rfl) (fun w => m_read _ w) y143 (DRead_fn o.d n re rs S hs (by omega)) oN (perm_tl (X := [_, _]))) rfl rfl fun _ _ => (av rfl rfl (tn (nn (tR (ret_one .ret (.inl rfl) rfl () (oT rfl) trivial pl)))))
set_option maxHeartbeats 1000000 in
set_option maxRecDepth 20000 in
/-- (*rhizome/view.Standing).Do -/
theorem VDo_fn (o : SO) (n : Int) (re rs : RS) (al : List (Ed × Bool)) (E S : List Pr) (gone come : List Ed) (hok : DOk E S re rs) (hv : VSt o.d.lab al E) (hgi : ∀ e ∈ gone, in64 e.1 ∧ in64 e.2.2) (hci : ∀ e ∈ come, in64 e.1 ∧ in64 e.2.2) (hEl : E.length + gone.length + come.length ≤ 60) : Ct Tryz.prog 11 [IsV (pt o.g 0), SlT kE gone, SlT kE come] (StI o n re rs al) (Int × RS × RS × List (Ed × Bool) × List Pr × List Pr × Dl) (fun r => TupT [kD.T r.2.2.2.2.2.2, I64 (lookV al gone come)]) (fun r => StI o r.1 r.2.1 r.2.2.1 r.2.2.2.1) (fun r => if lookV al gone come = 0 then StepOk o.d.lab al E S gone come r.2.1 r.2.2.1 r.2.2.2.1 r.2.2.2.2.1 r.2.2.2.2.2.1 r.2.2.2.2.2.2 else r = (n, re, rs, al, E, S, ([], []))) := by
 refine fn_intro Tryz.func11 rfl rfl ?_
 intro H w
 refine sq (te (ec 0 rfl (ec 1 rfl (ec 2 rfl en))) (rg (oA (acts_alloc (z44)) pR rfl rfl (fun g0_0 _ => ?_))))
 refine ak rfl (tn (nn (sq (sq (te (ec 0 rfl (ec 1 rfl (ec 2 rfl (ec 6 rfl en)))) (rg (mv rfl rfl (mv rfl rfl (mv rfl rfl (op_tl [_] rfl (aC (vlook_fn o n re rs al gone come (by omega) (by omega)) y144 (oc (oT rfl) (oc (oT rfl) (oc (oT rfl) oN))) (perm_tl (X := [_]))) rfl rfl fun _ _ => (av rfl rfl (tn (nn (sq (te (ec 0 rfl (ec 1 rfl (ec 2 rfl (ec 6 rfl (ec 8 rfl en))))) (rg (mv rfl rfl (oP (pu_neq (oT rfl) ot) rfl (tn (nn (tc (oT rfl) (fun c23 => ?_) (fun c23 => ?_))))))))))))))))))))))
 · have hl0 : ¬ lookV al gone come = 0 := of_decide_eq_true c23
   refine sq (te (ec 6 rfl (ec 8 rfl en)) (rg (oP (pu_build (d := kD) (v0 := ([], [])) (ps := [(0, 1), (1, 1)]) z44 (by kernel_rfl) rfl fills_nil) rfl (mv rfl rfl (oA (asv (oT rfl) (oT rfl) (by exact pA 0 rfl) y31) (by exact pA 0 rfl) rfl rfl (fun _ _ => ?_))))))
   refine av rfl rfl (tn (nn (tR (tt ?_))))
   exact ret_cell_tmp .ret (.inl rfl) rfl (n, re, rs, al, E, S, ([], [])) (oT rfl) (by exact mA 0 rfl) y31 (oT rfl) (fun _ _ h => h) (by rw [if_neg hl0]) (pd pl)
 · have hl0 : lookV al gone come = 0 := Classical.byContradiction fun h => by rw [decide_eq_true (p := lookV al gone come ≠ 0) h] at c23; cases c23
   have hc1 := chk_gone hl0 hv
   have hSl := span_4000 hok.s.nd (fun a b => (hok.c a b).1) (by omega)
   refine tr_perm (List.Perm.refl (BlkI g0_0 38 kD ([], []) :: BlkI o.g 74 kSt (stV o) :: MapI o.ga encE kbool.T al :: DrI o.d n re rs)) (sk (nn (sq (te (ec 0 rfl (ec 1 rfl (ec 2 rfl (ec 6 rfl en)))) (rg (mv rfl rfl (oP (pu_nilCheck (oT rfl)) rfl (oP (pf (oT rfl) y141) rfl (oP (pu_load_rawf (oT rfl) (by exact mA 1 rfl) lt1 y142) rfl ?_)))))))))
   refine mv rfl rfl (op_tl [_, _, _] rfl (acts_invoke (oT rfl) (fun w => m_do _ w) y145 (DDo_fn o.d n re rs E S gone false hok hgi (by omega)) (oc (oT rfl) (oc ot oN)) (perm_tl (X := [_, _, _]))) rfl rfl fun q hq => (mv rfl rfl (oP (pu_extract (oT rfl) rfl) rfl (oP (pu_extract (oT rfl) rfl) rfl (oA (acts_alloc (z44)) pR rfl rfl (fun g4_9 _ => ?_))))))
   refine oA (asv (oT rfl) (oT rfl) (by exact pA 0 rfl) y31) (by exact pA 0 rfl) rfl rfl (fun _ _ => ?_)
   refine av rfl rfl (tn (nn (sq (sq (te (ec 0 rfl (ec 1 rfl (ec 2 rfl (ec 6 rfl (ec 9 rfl (ec 10 rfl en)))))) ?_)))))
   rw [hc1]
   refine rg (mv rfl rfl (oP (pu_neq (oT rfl) ot) rfl (tn (nn (tc (oT rfl) (fun c36 => ?_) (fun c36 => ?_))))))
   · exfalso
     exact absurd (of_decide_eq_true c36) (fun h => h rfl) --done
   · have hqn := hq.n
     have hq1 := aft_del hq hc1
     have hc2 := chk_come hl0 hv hq1
     have hS1 := span_4000 hq.ok.s.nd (fun a b => (hq.ok.c a b).1) (by omega)
     refine tr_perm (List.Perm.refl (BlkI g4_9 38 kD (dltA S q.2.2.2.2) :: BlkI g0_0 38 kD ([], []) :: BlkI o.g 74 kSt (stV o) :: MapI o.ga encE kbool.T al :: DrI o.d q.1 q.2.1 q.2.2.1)) (sk (nn (sq (te (ec 0 rfl (ec 1 rfl (ec 2 rfl (ec 6 rfl (ec 9 rfl en))))) (rg (mv rfl rfl (oP (pu_nilCheck (oT rfl)) rfl (oP (pf (oT rfl) y141) rfl (oP (pu_load_rawf (oT rfl) (by exact mA 2 rfl) lt1 y142) rfl ?_)))))))))
     refine mv rfl rfl (op_tl [_, _, _, _] rfl (acts_invoke (oT rfl) (fun w => m_do _ w) y145 (DDo_fn o.d q.1 q.2.1 q.2.2.1 q.2.2.2.1 q.2.2.2.2 come true hq.ok hci (by omega)) (oc (oT rfl) (oc ot oN)) (perm_tl (X := [_, _, _, _]))) rfl rfl fun p hp => (mv rfl rfl (oP (pu_extract (oT rfl) rfl) rfl (oP (pu_extract (oT rfl) rfl) rfl (oA (acts_alloc (z44)) pR rfl rfl (fun g7_9 _ => ?_))))))
     refine oA (asv (oT rfl) (oT rfl) (by exact pA 0 rfl) y31) (by exact pA 0 rfl) rfl rfl (fun _ _ => ?_)
     refine av rfl rfl (tn (nn (sq (sq (te (ec 0 rfl (ec 1 rfl (ec 2 rfl (ec 6 rfl (ec 9 rfl (ec 10 rfl (ec 11 rfl en))))))) ?_)))))
     rw [hc2]
     refine rg (mv rfl rfl (oP (pu_neq (oT rfl) ot) rfl (tn (nn (tc (oT rfl) (fun c49 => ?_) (fun c49 => ?_))))))
     · exfalso
       exact absurd (of_decide_eq_true c49) (fun h => h rfl) --done
     · have hpn := hp.n
       have hp1 := aft_add hp hc2
       have hE1 : q.2.2.2.1.length ≤ E.length := len_sub hq.ok.e.nd fun x hx => ((hq1 x).1 hx).1
       have hS2 := span_4000 hp.ok.s.nd (fun a b => (hp.ok.c a b).1) (by omega)
       refine tr_perm (List.Perm.refl (BlkI g7_9 38 kD (dltA q.2.2.2.2 p.2.2.2.2) :: BlkI g4_9 38 kD (dltA S q.2.2.2.2) :: BlkI g0_0 38 kD ([], []) :: BlkI o.g 74 kSt (stV o) :: MapI o.ga encE kbool.T al :: DrI o.d p.1 p.2.1 p.2.2.1)) (sk (nn (sq (sq (te (ec 0 rfl (ec 1 rfl (ec 2 rfl (ec 6 rfl (ec 9 rfl (ec 11 rfl en)))))) (rg (mv rfl rfl (oP (pls (oT rfl) Tryz.underlying26) rfl (oP (pu_move ot) rfl (tn (nn (tb (tr_loopK (σ := Nat × List (Ed × Bool)) (ec 0 rfl (ec 2 rfl (ec 6 rfl (ec 9 rfl (ec 11 rfl (ec 58 rfl (ec 59 rfl en))))))) (fun s => [(60, I64 (s.1 : Int))]) (fun s => BlkI g7_9 38 kD (dltA q.2.2.2.2 p.2.2.2.2) :: BlkI g4_9 38 kD (dltA S q.2.2.2.2) :: BlkI g0_0 38 kD ([], []) :: BlkI o.g 74 kSt (stV o) :: MapI o.ga encE kbool.T s.2 :: DrI o.d p.1 p.2.1 p.2.2.1) (fun s => s.1 ≤ gone.length ∧ ∀ x, allE s.2 x = (allE al x && !decide (x ∈ gone.take s.1))) (fun s => gone.length - s.1) (0, al) ⟨Nat.zero_le _, fun x => by simp⟩ ?_ (op pl) ?_)))))))))))))
       · exact (ec 60 rfl en)
       · rintro ⟨k, al2⟩ ⟨hk, hal⟩
         dsimp only at hk hal ⊢
         refine sq (te (ec 0 rfl (ec 2 rfl (ec 6 rfl (ec 9 rfl (ec 11 rfl (ec 58 rfl (ec 59 rfl (ec 60 rfl en)))))))) (rg (oP (pu_lss (oT rfl) (oT rfl)) rfl (tn (nn (sq (tc (oT rfl) (fun c61 => ?_) (fun c61 => ?_))))))))
         · refine sk (nn (sq (tb (sq (te (ec 0 rfl (ec 2 rfl (ec 6 rfl (ec 9 rfl (ec 11 rfl (ec 58 rfl (ec 59 rfl (ec 60 rfl en)))))))) ?_)))))
           have hkl : k < gone.length := by simp only [decide_eq_true_eq] at c61; omega
           obtain ⟨e, he⟩ : ∃ e, at' gone (k : Int) = e := ⟨_, rfl⟩
           refine rg (oP (pu_index (oT rfl) (oT rfl) Tryz.underlying26 y61 (by omega) (by omega)) rfl (oP (pL (oT rfl) y61) rfl (oA (acts_alloc (zE)) pR rfl rfl (fun g13_2 _ => ?_))))
           refine oA (asv (oT rfl) (oT rfl) (by exact pA 0 rfl) y61) (by exact pA 0 rfl) rfl rfl (fun _ _ => ?_)
           refine tn ?_
           rw [he]
           refine nn (te (ec 0 rfl (ec 2 rfl (ec 6 rfl (ec 9 rfl (ec 11 rfl (ec 13 rfl (ec 58 rfl (ec 59 rfl (ec 60 rfl en))))))))) (tr_fact (mem_at 5 rfl) tr_mapnd fun hnd => ?_))
           have hst := del_step hkl he hnd hal
           apply tr_any (m := 5) (ns := [[(0, none)], [(64, some 0)], [(65, some 1)], [(66, some 2)], [(13, none)]]) (by kernel_rfl) (by kernel_rfl) (Ts := [_, _, _, _, _]) rfl
           case hops =>
            refine ⟨?_, ?_, ?_, ?_, ?_, trivial⟩
            · exact rmv rfl
            · exact rP (pu_nilCheck (oT rfl))
            · exact rP (pf (oT rfl) y138)
            · exact rP (pu_load_rawf (oT rfl) (by exact mA 4 rfl) lt2 y139)
            · exact rP (plv (oT rfl) (by exact mA 0 rfl) y61)
           case h =>
            refine oA (acts_delete mkE Tryz.underlying70 rfl (oT rfl) (by exact pA 5 rfl) (oT rfl)) (by exact pA 5 rfl) rfl rfl (fun _ _ => ?_)
            refine tn (bn (nn (te (ec 0 rfl (ec 2 rfl (ec 6 rfl (ec 9 rfl (ec 11 rfl (ec 58 rfl (ec 59 rfl (ec 60 rfl en)))))))) (rg (oP (pad (oT rfl) ot (by omega)) rfl (mv rfl rfl (tn (nn ?_))))))))
            exact tg (k + 1, dlk e al2) ⟨hkl, hst⟩ (by show gone.length - (k + 1) < gone.length - k; omega) (ea (ec 60 rfl en) (ec 0 rfl (ec 2 rfl (ec 6 rfl (ec 9 rfl (ec 11 rfl (ec 58 rfl (ec 59 rfl en)))))))) (op (pc 2 rfl (pc 2 rfl (pc 2 rfl (pc 2 rfl (pc 0 rfl (pd pl)))))))
         · refine tr_exit (tx (tx (bh (nn (sq (sq (te (ec 0 rfl (ec 2 rfl (ec 6 rfl (ec 9 rfl (ec 11 rfl en))))) ?_)))))))
           obtain rfl : k = gone.length := by simp only [decide_eq_false_iff_not] at c61; omega
           rw [List.take_length] at hal
           refine rg (mv rfl rfl (oP (pls (oT rfl) Tryz.underlying26) rfl (oP (pu_move ot) rfl (tn (nn (tb (tr_loopK (σ := Nat × List (Ed × Bool)) (ec 0 rfl (ec 6 rfl (ec 9 rfl (ec 11 rfl (ec 70 rfl (ec 71 rfl en)))))) (fun s => [(72, I64 (s.1 : Int))]) (fun s => BlkI g7_9 38 kD (dltA q.2.2.2.2 p.2.2.2.2) :: BlkI g4_9 38 kD (dltA S q.2.2.2.2) :: BlkI g0_0 38 kD ([], []) :: BlkI o.g 74 kSt (stV o) :: MapI o.ga encE kbool.T s.2 :: DrI o.d p.1 p.2.1 p.2.2.1) (fun s => s.1 ≤ come.length ∧ ∀ x, allE s.2 x = ((allE al x && !decide (x ∈ gone)) || decide (x ∈ come.take s.1))) (fun s => come.length - s.1) (0, al2) ⟨Nat.zero_le _, fun x => by rw [hal]; simp⟩ ?_ (op pl) ?_)))))))
           · exact (ec 72 rfl en)
           · rintro ⟨k, al3⟩ ⟨hk, hcm⟩
             dsimp only at hk hcm ⊢
             refine sq (te (ec 0 rfl (ec 6 rfl (ec 9 rfl (ec 11 rfl (ec 70 rfl (ec 71 rfl (ec 72 rfl en))))))) (rg (oP (pu_lss (oT rfl) (oT rfl)) rfl (tn (nn (sq (tc (oT rfl) (fun c73 => ?_) (fun c73 => ?_))))))))
             · refine sk (nn (sq (tb (sq (te (ec 0 rfl (ec 6 rfl (ec 9 rfl (ec 11 rfl (ec 70 rfl (ec 71 rfl (ec 72 rfl en))))))) ?_)))))
               have hkl : k < come.length := by simp only [decide_eq_true_eq] at c73; omega
               obtain ⟨e, he⟩ : ∃ e, at' come (k : Int) = e := ⟨_, rfl⟩
               have hst := come_step hkl he hcm
               refine rg (oP (pu_index (oT rfl) (oT rfl) Tryz.underlying26 y61 (by omega) (by omega)) rfl (oP (pL (oT rfl) y61) rfl (oA (acts_alloc (zE)) pR rfl rfl (fun g18_2 _ => ?_))))
               refine oA (asv (oT rfl) (oT rfl) (by exact pA 0 rfl) y61) (by exact pA 0 rfl) rfl rfl (fun _ _ => ?_)
               refine tn ?_
               rw [he]
               refine nn (te (ec 0 rfl (ec 6 rfl (ec 9 rfl (ec 11 rfl (ec 15 rfl (ec 70 rfl (ec 71 rfl (ec 72 rfl en)))))))) ?_)
               apply tr_any (m := 5) (ns := [[(0, none)], [(76, some 0)], [(77, some 1)], [(78, some 2)], [(15, none)]]) (by kernel_rfl) (by kernel_rfl) (Ts := [_, _, _, _, _]) rfl
               case hops =>
                refine ⟨?_, ?_, ?_, ?_, ?_, trivial⟩
                · exact rmv rfl
                · exact rP (pu_nilCheck (oT rfl))
                · exact rP (pf (oT rfl) y138)
                · exact rP (pu_load_rawf (oT rfl) (by exact mA 4 rfl) lt2 y139)
                · exact rP (plv (oT rfl) (by exact mA 0 rfl) y61)
               case h =>
                refine oA (acts_update (V := kbool.T) (v := true) mkE Tryz.underlying70 (oT rfl) (by exact pA 5 rfl) (oT rfl) ot) (by exact pA 5 rfl) rfl rfl (fun _ _ => ?_)
                refine tn (bn (nn (te (ec 0 rfl (ec 6 rfl (ec 9 rfl (ec 11 rfl (ec 70 rfl (ec 71 rfl (ec 72 rfl en))))))) (rg (oP (pad (oT rfl) ot (by omega)) rfl (mv rfl rfl (tn (nn ?_))))))))
                exact tg (k + 1, ptk e true al3) ⟨hkl, hst⟩ (by show come.length - (k + 1) < come.length - k; omega) (ea (ec 72 rfl en) (ec 0 rfl (ec 6 rfl (ec 9 rfl (ec 11 rfl (ec 70 rfl (ec 71 rfl en))))))) (op (pc 2 rfl (pc 2 rfl (pc 2 rfl (pc 2 rfl (pc 0 rfl (pd pl)))))))
             · refine tr_exit (tx (tx (bh (nn (sq (te (ec 6 rfl (ec 9 rfl (ec 11 rfl en))) ?_))))))
               obtain rfl : k = come.length := by simp only [decide_eq_false_iff_not] at c73; omega
               rw [List.take_length] at hcm
               have haft : AftA al gone come al3 := hcm
               have hsay : StepOk o.d.lab al E S gone come p.2.1 p.2.2.1 al3 p.2.2.2.1 p.2.2.2.2 (thenR (dltA S q.2.2.2.2) (dltA q.2.2.2.2 p.2.2.2.2)).1 := ⟨hp.ok, vst_step hv hq1 hp1 haft, haft, q.2.2.2.1, q.2.2.2.2, hq1, hq.ok.s.nd, hq.ok.c, rfl⟩
               refine rg (oP (plv (oT rfl) (by exact mA 1 rfl) y31) rfl ?_)
               refine oP (plv (oT rfl) (by exact mA 0 rfl) y31) rfl ?_
               refine oA (aC (Then_fn (dltA S q.2.2.2.2) (dltA q.2.2.2.2 p.2.2.2.2) (few_new (by omega)) (few_new (by omega)) (few_new (by omega)) (few_new (by omega))) y146 (oc (oT rfl) (oc (oT rfl) oN)) pR) pR rfl rfl (fun _ _ => ?_)
               refine mv rfl rfl (oP (pu_extract (oT rfl) rfl) rfl (oP (pu_extract (oT rfl) rfl) rfl (oA (acts_alloc (z44)) pR rfl rfl (fun g21_6 _ => ?_))))
               refine oA (asv (oT rfl) (oT rfl) (by exact pA 0 rfl) y31) (by exact pA 0 rfl) rfl rfl (fun _ _ => ?_)
               refine av rfl rfl (tn (nn (sq (te (ec 6 rfl (ec 16 rfl en)) (rg (oP (plv (oT rfl) (by exact mA 0 rfl) y31) rfl ?_))))))
               refine oA (asv (oT rfl) (oT rfl) (by exact pA 3 rfl) y31) (by exact pA 3 rfl) rfl rfl (fun _ _ => ?_)
               refine ak rfl (tn (nn (tR ?_)))
               exact ret_cell_tmp .ret (.inl rfl) rfl (p.1, p.2.1, p.2.2.1, al3, p.2.2.2.1, p.2.2.2.2, (thenR (dltA S q.2.2.2.2) (dltA q.2.2.2.2 p.2.2.2.2)).1) (oT rfl) (by exact mA 0 rfl) y31 (oT rfl) (fun _ _ h => (by rw [hl0]; exact h)) (by rw [if_pos hl0]; exact hsay) (pd (pd (pd (pd pl))))
abbrev vR : Vw := ([114], 2, [], [], [97])
abbrev eR1 : List Ed := [(1, [97], 2)]
abbrev eR2 : List Ed := [(1, [97], 3)]
theorem one_list {α : Type} {l : List α} {a : α} (hn : l.Nodup) (h : ∀ x, x ∈ l ↔ x = a) : l = [a] := by
 match l, hn, h with
 | [], _, h => exact absurd ((h a).2 rfl) (by simp)
 | [b], _, h => rw [(h b).1 (by simp)]
 | b :: c :: l, hn, h =>
  have h1 := (h b).1 (by simp)
  have h2 := (h c).1 (by simp)
  rw [h1, h2] at hn; simp at hn
theorem tc_single {E : List Pr} {p : Pr} (h : ∀ x, x ∈ E ↔ x = p) (hne : p.1 ≠ p.2) (a b : Int) : TC E a b ↔ (a, b) = p := by
 constructor
 · intro ht
   cases ht with
   | one q => exact (h _).1 q
   | cons q t =>
    have h1 := (h _).1 q
    obtain ⟨⟨c, hc⟩, _⟩ := t.ends
    have h2 := (h _).1 hc
    exact absurd ((congrArg Prod.fst h2).symm.trans (congrArg Prod.snd h1)) hne
 · intro q; exact .one ((h _).2 q)
theorem vst_new {v : Vw} {es : List Ed} {o : SO} {re rs : RS} {al : List (Ed × Bool)} {E S : List Pr} (h : NewV v es o re rs al E S) : VSt o.d.lab al E := fun p => by
 rw [h.d.m, h.d.l, labE_mem, h.a, decide_eq_true_eq]
theorem aw_look {al : List (Ed × Bool)} (ha : ∀ e, allE al e = decide (e ∈ eR1)) : lookV al eR1 eR2 = 0 := by
 unfold lookV
 rw [show allE al = fun e => decide (e ∈ eR1) from funext ha]
 decide
theorem aw_S {o : SO} {re rs : RS} {al : List (Ed × Bool)} {E S : List Pr} (h : NewV vR eR1 o re rs al E S) : S = [(1, 2)] := by
 have hE : ∀ x, x ∈ E ↔ x = (1, 2) := fun x => by rw [h.d.m, labE_mem]; simp [Prod.ext_iff]
 exact one_list h.d.ok.s.nd fun x => by rw [show x = (x.1, x.2) from rfl, h.d.ok.c, tc_single hE (by decide)]
theorem aw_step {o : SO} {re rs re2 rs2 : RS} {al al2 : List (Ed × Bool)} {E S E2 S2 : List Pr} {x : Dl} (h : NewV vR eR1 o re rs al E S) (hs : StepOk o.d.lab al E S eR1 eR2 re2 rs2 al2 E2 S2 x) : S2 = [(1, 3)] ∧ x = ([[1, 3]], [[1, 2]]) := by
 have hl : o.d.lab = [97] := h.d.l
 have hE : ∀ y, y ∈ E2 ↔ y = (1, 3) := fun y => by
  rw [hs.v, hs.a, h.a, hl]
  simp [Prod.ext_iff]
  intro a b c
  exact absurd c (by simp [a, b])
 have hS2 : S2 = [(1, 3)] := one_list hs.ok.s.nd fun y => by rw [show y = (y.1, y.2) from rfl, hs.ok.c, tc_single hE (by decide)]
 refine ⟨hS2, ?_⟩
 obtain ⟨E1, S1, h1, h2, h3, rfl⟩ := hs.d
 have hS := aw_S h
 have hE0 : ∀ y, y ∈ E ↔ y = (1, 2) := fun y => by rw [h.d.m, labE_mem]; simp [Prod.ext_iff]
 have hE1 : ∀ y, y ∉ E1 := fun y hy => by
  obtain ⟨q1, q2⟩ := (h1 y).1 hy
  rw [hl] at q2
  rw [(hE0 y).1 q1] at q2
  exact q2 (labE_mem.2 (by simp))
 have hS1 : S1 = [] := List.eq_nil_iff_forall_not_mem.2 fun y hy => by
  obtain ⟨⟨c, hc⟩, _⟩ := ((h3 y.1 y.2).1 hy).ends
  exact hE1 _ hc
 rw [hS, hS1, hS2]
 decide

set_option maxHeartbeats 1000000 in
set_option maxRecDepth 20000 in
/-- rhizome/rhizomelaw18.awake -/
theorem awake18_fn  : Ct Tryz.prog 8 [] ([]) Unit (fun _ => BoolT true) (fun _ => []) (fun _ => True) := by
 refine fn_intro Tryz.func8 rfl rfl ?_
 intro H w
 refine sq (te en (rg (ak rfl (tn (nn (sq (te en (rg (oP (pu_build (d := kV) (v0 := ([], 0, [], [], [])) (ps := [(0, 1), (1, 1), (2, 1), (3, 1), (4, 1)]) zV (by kernel_rfl) rfl (fills_cons rfl lv0 ot (fills_cons rfl lv1 ot (fills_cons rfl lv4 ot fills_nil)))) rfl (oP (pu_build (d := kE) (v0 := (0, [], 0)) (ps := [(0, 1), (1, 1), (2, 1)]) zE (by kernel_rfl) rfl (fills_cons rfl le0 ot (fills_cons rfl le1 ot (fills_cons rfl le2 ot fills_nil)))) rfl (oA (acts_lit (d := kE) (v0 := (0, [], 0)) y147 y61 zE (show 1 * 3 ≤ 16777216 from by decide) (by decide) (fills_arr rfl rfl (by decide) (oT rfl) fills_nil)) pR rfl rfl (fun _ _ => ?_))))))))))))
 refine tr_as 5 (T := kV.T vR) (oT rfl) (tr_as 7 (T := SlT kE eR1) (oT rfl) (oA (aC (VNew_fn vR eR1 rfl (by decide) (by decide) (by decide) (by decide) (by decide) (by decide)) y148 (oc (oT rfl) (oc (oT rfl) oN)) pR) pR rfl rfl fun q hq => (mv rfl rfl (oP (pu_extract (oT rfl) rfl) rfl (oP (pu_extract (oT rfl) rfl) rfl (av rfl rfl (av rfl rfl (tn (nn (sq (sq (te (ec 1 rfl (ec 2 rfl en)) (tr_perm (L' := StI q.1 0 q.2.1 q.2.2.1 q.2.2.2.1) (by rw [List.append_nil]) ?_)))))))))))))
 have hvs := vst_new hq
 have hlk := aw_look hq.a
 refine rg (mv rfl rfl (oP (pu_neq (oT rfl) ot) rfl (mv rfl rfl (oG rfl rfl rfl (gm (oT rfl)) (fun hg => by (have hg1 := hg.2; (try simp only [cq2] at hg1); exact pu_move (oT rfl))) rfl ?_))))
 refine oG rfl rfl rfl (gm (oT rfl)) (fun hg => by (have hg1 := hg.2; (try simp only [cq2] at hg1); exact pu_ptr_eql ptr_is (by exact gu (oT rfl) hg) Tryz.underlying32)) rfl ?_
 refine oP (pu_pick_or (oT rfl) (oT rfl)) rfl (tn (nn (tc (oT rfl) (fun c16 => ?_) (fun c16 => ?_))))
 · exfalso
   simp at c16 --done
 · refine sk (nn (sq (te (ec 1 rfl en) (rg (mv rfl rfl (oP (pu_build (d := kE) (v0 := (0, [], 0)) (ps := [(0, 1), (1, 1), (2, 1)]) zE (by kernel_rfl) rfl (fills_cons rfl le0 ot (fills_cons rfl le1 ot (fills_cons rfl le2 ot fills_nil)))) rfl (oA (acts_lit (d := kE) (v0 := (0, [], 0)) y147 y61 zE (show 1 * 3 ≤ 16777216 from by decide) (by decide) (fills_arr rfl rfl (by decide) (oT rfl) fills_nil)) pR rfl rfl (fun _ _ => ?_))))))))
   refine oP (pu_build (d := kE) (v0 := (0, [], 0)) (ps := [(0, 1), (1, 1), (2, 1)]) zE (by kernel_rfl) rfl (fills_cons rfl le0 ot (fills_cons rfl le1 ot (fills_cons rfl le2 ot fills_nil)))) rfl (oA (acts_lit (d := kE) (v0 := (0, [], 0)) y147 y61 zE (show 1 * 3 ≤ 16777216 from by decide) (by decide) (fills_arr rfl rfl (by decide) (oT rfl) fills_nil)) pR rfl rfl (fun _ _ => ?_))
   refine tr_as 20 (T := SlT kE eR1) (oT rfl) (tr_as 22 (T := SlT kE eR2) (oT rfl) (op_tl [] rfl (aC (VDo_fn q.1 0 q.2.1 q.2.2.1 q.2.2.2.1 q.2.2.2.2.1 q.2.2.2.2.2 eR1 eR2 hq.d.ok hvs (by decide) (by decide) (by have := hq.d.n; simp at this ⊢; omega)) y149 (oc (oT rfl) (oc (oT rfl) (oc (oT rfl) oN))) (perm_tl (X := []))) rfl rfl fun r hr => ?_))
   refine mv rfl rfl (oP (pu_extract (oT rfl) rfl) rfl (oP (pu_extract (oT rfl) rfl) rfl (oA (acts_alloc (z44)) pR rfl rfl (fun g4_9 _ => ?_))))
   refine oA (asv (oT rfl) (oT rfl) (by exact pA 0 rfl) y31) (by exact pA 0 rfl) rfl rfl (fun _ _ => ?_)
   refine av rfl rfl (tn (nn (sq (te (ec 1 rfl (ec 2 rfl (ec 3 rfl en))) ?_))))
   rw [hlk]
   rw [if_pos hlk] at hr
   obtain ⟨hS2, hx⟩ := aw_step hq hr
   rw [hx]
   refine rg (mv rfl rfl (oP (pu_eql (oT rfl) ot) rfl (mv rfl rfl (oG rfl rfl rfl (gm (oT rfl)) (fun hg => by (have hg1 := hg.2; (try simp only [cq2] at hg1); exact pf (oT rfl) y24)) rfl ?_))))
   refine oG rfl rfl rfl (gm (oT rfl)) (fun hg => by (have hg1 := hg.2; (try simp only [cq2] at hg1); exact plb (by exact gu (oT rfl) hg) (by exact mA 0 rfl) (Lens.fst (a := kL) (b := kL)) y25)) rfl ?_
   refine oG rfl rfl rfl (gm (oT rfl)) (fun hg => by (have hg1 := hg.2; (try simp only [cq2] at hg1); exact pls (by exact gu (oT rfl) hg) Tryz.underlying36)) rfl ?_
   refine oG rfl rfl rfl (gm (oT rfl)) (fun hg => by (have hg1 := hg.2; (try simp only [cq2] at hg1); exact pu_eql (by exact gu (oT rfl) hg) ot)) rfl ?_
   refine oP (pu_pick_and (oT rfl) (oT rfl)) rfl (mv rfl rfl (oG rfl rfl rfl (gm (oT rfl)) (fun hg => by (have hg1 := hg.2; (try simp only [cq2] at hg1); exact pf (oT rfl) y27)) rfl ?_))
   refine oG rfl rfl rfl (gm (oT rfl)) (fun hg => by (have hg1 := hg.2; (try simp only [cq2] at hg1); exact plb (by exact gu (oT rfl) hg) (by exact mA 0 rfl) (Lens.snd (a := kL) (b := kL)) y25)) rfl ?_
   refine oG rfl rfl rfl (gm (oT rfl)) (fun hg => by (have hg1 := hg.2; (try simp only [cq2] at hg1); exact pls (by exact gu (oT rfl) hg) Tryz.underlying36)) rfl ?_
   refine oG rfl rfl rfl (gm (oT rfl)) (fun hg => by (have hg1 := hg.2; (try simp only [cq2] at hg1); exact pu_eql (by exact gu (oT rfl) hg) ot)) rfl ?_
   refine oP (pu_pick_and (oT rfl) (oT rfl)) rfl (mv rfl rfl (oG rfl rfl rfl (gm (oT rfl)) (fun hg => by (have hg1 := hg.2; (try simp only [cq2] at hg1); exact pf (oT rfl) y24)) rfl ?_))
   refine oG rfl rfl rfl (gm (oT rfl)) (fun hg => by (have hg1 := hg.2; (try simp only [cq2] at hg1); exact plb (by exact gu (oT rfl) hg) (by exact mA 0 rfl) (Lens.fst (a := kL) (b := kL)) y25)) rfl ?_
   refine oG rfl rfl rfl (gm (oT rfl)) (fun hg => by (have hg1 := hg.2; (try simp only [cq2] at hg1); exact pu_index (by exact gu (oT rfl) hg) ot Tryz.underlying36 y0 (by omega) (by (simp; done)))) rfl ?_
   refine oG rfl rfl rfl (gm (oT rfl)) (fun hg => by (have hg1 := hg.2; (try simp only [cq2] at hg1); exact pL (by exact gu (oT rfl) hg) y0)) rfl ?_
   refine oG rfl rfl rfl (gm (oT rfl)) (fun hg => by (have hg1 := hg.2; (try simp only [cq2] at hg1); exact pu_index (by exact gu (oT rfl) hg) ot Tryz.underlying51 y2 (by omega) (by decide))) rfl ?_
   refine oG rfl rfl rfl (gm (oT rfl)) (fun hg => by (have hg1 := hg.2; (try simp only [cq2] at hg1); exact pL (by exact gu (oT rfl) hg) y2)) rfl ?_
   refine oG rfl rfl rfl (gm (oT rfl)) (fun hg => by (have hg1 := hg.2; (try simp only [cq2] at hg1); exact pu_eql (by exact gu (oT rfl) hg) ot)) rfl ?_
   refine oP (pu_pick_and (oT rfl) (oT rfl)) rfl (mv rfl rfl (oG rfl rfl rfl (gm (oT rfl)) (fun hg => by (have hg1 := hg.2; (try simp only [cq2] at hg1); exact pu_move (oT rfl))) rfl ?_))
   refine op_gu_same rfl rfl rfl (gm (oT rfl)) (perm_tl (X := [_])) (fun hg => aC (VRead_fn q.1 r.1 r.2.1 r.2.2.1 r.2.2.2.1 r.2.2.2.2.2.1 hr.ok.s (by rw [hS2]; decide)) y150 (oc (gu (oT rfl) hg) oN) (perm_tl (X := [_]))) rfl ?_
   refine oG rfl rfl rfl (gm (oT rfl)) (fun hg => by (have hg1 := hg.2; (try simp only [cq2] at hg1); exact pls (by exact gu (oT rfl) hg) Tryz.underlying36)) rfl ?_
   refine oG rfl rfl rfl (gm (oT rfl)) (fun hg => by (have hg1 := hg.2; (try simp only [cq2] at hg1); exact pu_eql (by exact gu (oT rfl) hg) ot)) rfl ?_
   refine oP (pu_pick_and (oT rfl) (oT rfl)) rfl (av rfl rfl (tn (nn (tR ?_))))
   exact ret_one .ret (.inl rfl) rfl () (OT.val (oT rfl) (congrArg Value.bool (by rw [hS2]; decide))) trivial pn
end Go.Proofs.YtklhdalppmjnaaaGreatDoor
/- The law of steps: a pattern of one atom, of two, and a reach. Plain. -/
namespace Go.Proofs.YtklhdalppmjnaaaGreatDoor
open Go Go.Gw Go.So Go.Tu Go.Jn Go.MapKept
open Go.Dr hiding Pr
set_option linter.unusedVariables false
set_option linter.unusedSimpArgs false
abbrev aXY : Atm := ([120], [97], [121])
abbrev aYZ : Atm := ([121], [97], [122])
abbrev vP : Vw := ([112], 1, [[120], [121]], [aXY], [])
abbrev vT : Vw := ([116], 1, [[120], [122]], [aXY, aYZ], [])
theorem two_of {r : Tp} (h : r.length = 2) : r = [r.getD 0 0, r.getD 1 0] := by
 match r, h with
 | [a, b], _ => rfl
theorem three_of {r : Tp} (h : r.length = 3) : r = [r.getD 0 0, r.getD 1 0, r.getD 2 0] := by
 match r, h with
 | [a, b, c], _ => rfl
theorem row1 {es : List Ed} {V : List Lab} (hV : varsL [aXY] <+: V) (h0 : ix V [120] = 0) (h1 : ix V [121] = 1) (r : Tp) : r ∈ rowsK (byLab es) V [aXY] ↔ ∃ x y : Int, r = [x, y] ∧ (x, [97], y) ∈ es := by
 rw [(rows_spec es [aXY] hV).2]
 have hl : (varsL [aXY]).length = 2 := by decide
 rw [hl]
 constructor
 · rintro ⟨h2, h3⟩
   have h4 := h3 aXY (by simp)
   unfold env at h4
   rw [show ix V aXY.1 = 0 from h0, show ix V aXY.2.2 = 1 from h1] at h4
   exact ⟨_, _, two_of h2, h4⟩
 · rintro ⟨x, y, rfl, h3⟩
   refine ⟨rfl, fun a ha => ?_⟩
   rw [List.mem_singleton.1 ha]
   unfold env
   rw [show ix V aXY.1 = 0 from h0, show ix V aXY.2.2 = 1 from h1]
   exact h3
theorem row2 {es : List Ed} (r : Tp) : r ∈ rowsK (byLab es) (varsL [aXY, aYZ]) [aXY, aYZ] ↔ ∃ x y z : Int, r = [x, y, z] ∧ (x, [97], y) ∈ es ∧ (y, [97], z) ∈ es := by
 rw [(rows_spec es [aXY, aYZ] (List.prefix_refl _)).2]
 have hl : (varsL [aXY, aYZ]).length = 3 := by decide
 have i0 : ix (varsL [aXY, aYZ]) [120] = 0 := by decide
 have i1 : ix (varsL [aXY, aYZ]) [121] = 1 := by decide
 have i2 : ix (varsL [aXY, aYZ]) [122] = 2 := by decide
 rw [hl]
 constructor
 · rintro ⟨h2, h3⟩
   have h4 := h3 aXY (by simp)
   have h5 := h3 aYZ (by simp)
   unfold env at h4 h5
   rw [show ix (varsL [aXY, aYZ]) aXY.1 = 0 from i0, show ix (varsL [aXY, aYZ]) aXY.2.2 = 1 from i1] at h4
   rw [show ix (varsL [aXY, aYZ]) aYZ.1 = 1 from i1, show ix (varsL [aXY, aYZ]) aYZ.2.2 = 2 from i2] at h5
   exact ⟨_, _, _, three_of h2, h4, h5⟩
 · rintro ⟨x, y, z, rfl, h3, h4⟩
   refine ⟨rfl, fun a ha => ?_⟩
   have ha : a = aXY ∨ a = aYZ := by simpa using ha
   unfold env
   rcases ha with rfl | rfl
   · rw [show ix (varsL [aXY, aYZ]) aXY.1 = 0 from i0, show ix (varsL [aXY, aYZ]) aXY.2.2 = 1 from i1]; exact h3
   · rw [show ix (varsL [aXY, aYZ]) aYZ.1 = 1 from i1, show ix (varsL [aXY, aYZ]) aYZ.2.2 = 2 from i2]; exact h4
theorem row0_len {es : List Ed} {V : List Lab} : (rowsK (byLab es) V []).length ≤ 1 := by simp [rowsK]
theorem row1_len {es : List Ed} {V : List Lab} (hV : varsL [aXY] <+: V) (h0 : ix V [120] = 0) (h1 : ix V [121] = 1) : (rowsK (byLab es) V [aXY]).length ≤ es.length := by
 have := len_sub (m := es.map fun e => ([e.1, e.2.2] : Tp)) (rows_spec es [aXY] hV).1 fun r hr => by
  obtain ⟨x, y, rfl, h⟩ := (row1 hV h0 h1 r).1 hr
  exact List.mem_map.2 ⟨_, h, rfl⟩
 rwa [List.length_map] at this
theorem row2_len {es : List Ed} (he : es.length ≤ 20) : (rowsK (byLab es) (varsL [aXY, aYZ]) [aXY, aYZ]).length ≤ 400 := by
 have h1 := len_sub (m := es.flatMap fun e => es.map fun f => ([e.1, e.2.2, f.2.2] : Tp)) (rows_spec es [aXY, aYZ] (List.prefix_refl _)).1 fun r hr => by
  obtain ⟨x, y, z, rfl, h, h2⟩ := (row2 r).1 hr
  exact List.mem_flatMap.2 ⟨_, h, List.mem_map.2 ⟨_, h2, rfl⟩⟩
 have h2 := flat_len (fun e : Ed => es.map fun f : Ed => ([e.1, e.2.2, f.2.2] : Tp)) es.length es fun x hx => by simp
 have h3 : es.length * es.length ≤ 20 * 20 := Nat.mul_le_mul he he
 omega
theorem cont_p {es : List Ed} {q : List Tp × Int} (he : es.length ≤ 20) (h : ∃ r, ResSay vP es r ∧ q = (if r.2.2 = 0 ∧ 4000 < r.1.length then ([], 5) else (r.1, r.2.2))) : q.2 = 0 ∧ q.1.length ≤ 20 ∧ ∀ t, t ∈ q.1 ↔ ∃ x y : Int, t = [x, y] ∧ (x, [97], y) ∈ es := by
 have hV : varsL [aXY] <+: varsL [aXY] := List.prefix_refl _
 have i0 : ix (varsL [aXY]) [120] = 0 := by decide
 have i1 : ix (varsL [aXY]) [121] = 1 := by decide
 have hl1 := row1_len (es := es) hV i0 i1
 obtain ⟨r, h1, rfl⟩ := h
 rcases h1 with ⟨h1, _⟩ | ⟨_, ⟨k, hk, h2⟩, _⟩ | ⟨_, _, rfl⟩
 · exact absurd h1 (by decide)
 · exfalso
   have hk : k ≤ 1 := hk
   match k, hk with
   | 0, _ => have := row0_len (es := es) (V := varsL vP.2.2.2.1); have h2 : 3000 < (rowsK (byLab es) (varsL vP.2.2.2.1) []).length := h2; omega
   | 1, _ => have h2 : 3000 < (rowsK (byLab es) (varsL [aXY]) [aXY]).length := h2; omega
 · have ha : (allOf vP es).length ≤ 20 := by
    unfold allOf
    rw [List.length_map]
    have := setR_len (rowsK (byLab es) (varsL [aXY]) [aXY])
    show (setR (rowsK (byLab es) (varsL [aXY]) [aXY])).length ≤ 20
    omega
   have hb := setR_len (allOf vP es)
   rw [if_neg (by rintro ⟨_, q⟩; have q : 4000 < (setR (allOf vP es)).length := q; omega)]
   refine ⟨rfl, by show (setR (allOf vP es)).length ≤ 20; omega, fun t => ?_⟩
   show t ∈ setR (allOf vP es) ↔ _
   rw [(setR_spec _).2]
   unfold allOf
   rw [List.mem_map]
   constructor
   · rintro ⟨s, hs, rfl⟩
     have hs : s ∈ setR (rowsK (byLab es) (varsL [aXY]) [aXY]) := hs
     rw [(setR_spec _).2] at hs
     obtain ⟨x, y, rfl, h⟩ := (row1 hV i0 i1 s).1 hs
     exact ⟨x, y, rfl, h⟩
   · rintro ⟨x, y, rfl, h⟩
     exact ⟨[x, y], ((setR_spec _).2 _).2 ((row1 hV i0 i1 _).2 ⟨x, y, rfl, h⟩), rfl⟩
theorem cont_t {es : List Ed} {q : List Tp × Int} (he : es.length ≤ 20) (h : ∃ r, ResSay vT es r ∧ q = (if r.2.2 = 0 ∧ 4000 < r.1.length then ([], 5) else (r.1, r.2.2))) : q.2 = 0 ∧ q.1.length ≤ 400 ∧ ∀ t, t ∈ q.1 ↔ ∃ x y z : Int, t = [x, z] ∧ (x, [97], y) ∈ es ∧ (y, [97], z) ∈ es := by
 have hV : varsL [aXY] <+: varsL [aXY, aYZ] := by decide
 have i0 : ix (varsL [aXY, aYZ]) [120] = 0 := by decide
 have i1 : ix (varsL [aXY, aYZ]) [121] = 1 := by decide
 have hl1 := row1_len (es := es) hV i0 i1
 have hl2 := row2_len he
 obtain ⟨r, h1, rfl⟩ := h
 rcases h1 with ⟨h1, _⟩ | ⟨_, ⟨k, hk, h2⟩, _⟩ | ⟨_, _, rfl⟩
 · exact absurd h1 (by decide)
 · exfalso
   have hk : k ≤ 2 := hk
   match k, hk with
   | 0, _ => have := row0_len (es := es) (V := varsL vT.2.2.2.1); have h2 : 3000 < (rowsK (byLab es) (varsL vT.2.2.2.1) []).length := h2; omega
   | 1, _ => have h2 : 3000 < (rowsK (byLab es) (varsL [aXY, aYZ]) [aXY]).length := h2; omega
   | 2, _ => have h2 : 3000 < (rowsK (byLab es) (varsL [aXY, aYZ]) [aXY, aYZ]).length := h2; omega
 · have ha : (allOf vT es).length ≤ 400 := by
    unfold allOf
    rw [List.length_map]
    have := setR_len (rowsK (byLab es) (varsL [aXY, aYZ]) [aXY, aYZ])
    show (setR (rowsK (byLab es) (varsL [aXY, aYZ]) [aXY, aYZ])).length ≤ 400
    omega
   have hb := setR_len (allOf vT es)
   rw [if_neg (by rintro ⟨_, q⟩; have q : 4000 < (setR (allOf vT es)).length := q; omega)]
   refine ⟨rfl, by show (setR (allOf vT es)).length ≤ 400; omega, fun t => ?_⟩
   show t ∈ setR (allOf vT es) ↔ _
   rw [(setR_spec _).2]
   unfold allOf
   rw [List.mem_map]
   constructor
   · rintro ⟨s, hs, rfl⟩
     have hs : s ∈ setR (rowsK (byLab es) (varsL [aXY, aYZ]) [aXY, aYZ]) := hs
     rw [(setR_spec _).2] at hs
     obtain ⟨x, y, z, rfl, h⟩ := (row2 s).1 hs
     exact ⟨x, y, z, rfl, h⟩
   · rintro ⟨x, y, z, rfl, h⟩
     exact ⟨[x, y, z], ((setR_spec _).2 _).2 ((row2 _).2 ⟨x, y, z, rfl, h⟩), rfl⟩
section
variable {es : List Ed} {P R T : List Tp}
theorem st_all (hP : ∀ t, t ∈ P ↔ ∃ x y : Int, t = [x, y] ∧ (x, [97], y) ∈ es) (hT : ∀ t, t ∈ T ↔ ∃ x y z : Int, t = [x, z] ∧ (x, [97], y) ∈ es ∧ (y, [97], z) ∈ es) (hR : SpanT (labE [97] es) R) {t : Tp} (ht : t ∈ P ++ T) : t ∈ R := by
 rw [hR.2]
 rcases List.mem_append.1 ht with ht | ht
 · obtain ⟨x, y, rfl, h⟩ := (hP t).1 ht
   exact ⟨x, y, rfl, .one (labE_mem.2 h)⟩
 · obtain ⟨x, y, z, rfl, h, h2⟩ := (hT t).1 ht
   exact ⟨x, z, rfl, .cons (labE_mem.2 h) (.one (labE_mem.2 h2))⟩
def okK (P R : List Tp) (t : Tp) (k : Nat) : Bool := P.contains t || (P.take k).any fun x => decide (at' x 0 = at' t 0) && R.contains [at' x 1, at' t 1]
theorem okK_step {t : Tp} {k : Nat} (hk : k < P.length) : okK P R t (k + 1) = (okK P R t k || (decide (at' (at' P (k : Int)) 0 = at' t 0) && R.contains [at' (at' P (k : Int)) 1, at' t 1])) := by
 unfold okK
 rw [List.take_succ_eq_append_getElem hk, List.any_append, at'_nat hk]
 simp [Bool.or_assoc]
theorem ok_end (hP : ∀ t, t ∈ P ↔ ∃ x y : Int, t = [x, y] ∧ (x, [97], y) ∈ es) (hR : SpanT (labE [97] es) R) {t : Tp} (ht : t ∈ R) : okK P R t P.length = true := by
 obtain ⟨a, b, rfl, h⟩ := (hR.2 t).1 ht
 unfold okK
 rw [List.take_length, Bool.or_eq_true]
 cases h with
 | one q => exact .inl (List.contains_iff_mem.2 ((hP _).2 ⟨a, b, rfl, labE_mem.1 q⟩))
 | @cons _ c _ q h =>
  refine .inr (List.any_eq_true.2 ⟨[a, c], (hP _).2 ⟨a, c, rfl, labE_mem.1 q⟩, ?_⟩)
  rw [Bool.and_eq_true]
  exact ⟨decide_eq_true rfl, List.contains_iff_mem.2 ((hR.2 _).2 ⟨c, b, rfl, h⟩)⟩
end
end Go.Proofs.YtklhdalppmjnaaaGreatDoor
/- Walks through the Go functions rhizomeref18.Has, rhizomelaw18.ViewSteps, as typed contracts. -/
namespace Go.Proofs.YtklhdalppmjnaaaGreatDoor
open Go Go.Gw Go.So Go.Tu Go.Jn
open Go.Dr hiding Pr
set_option linter.unusedVariables false
set_option linter.unusedSimpArgs false
theorem not_stepE {e : Ed} {xs : List Ed} {k : Nat} (h : k < xs.length) (h0 : e ∉ xs.take k) (h1 : ¬ at' xs (k : Int) = e) : e ∉ xs.take (k + 1) := by
 rw [at'_nat h] at h1
 rw [List.take_succ_eq_append_getElem h, List.mem_append, List.mem_singleton]
 rintro (h2 | h2)
 · exact h0 h2
 · exact h1 h2.symm
theorem cont_of {v : Vw} {es : List Ed} {q : List Tp × Int} (h : (if checkB v = true then (if v.2.1 = 2 then (if nameB v.2.2.2.2 then (SpanT (labE v.2.2.2.2 es) q.1 ∧ q.2 = 0) else q = ([], 1)) else ∃ r, ResSay v es r ∧ q = (if r.2.2 = 0 ∧ 4000 < r.1.length then ([], 5) else (r.1, r.2.2))) else q = ([], 1))) (hc : checkB v = true) (hk : ¬ v.2.1 = 2) : ∃ r, ResSay v es r ∧ q = (if r.2.2 = 0 ∧ 4000 < r.1.length then ([], 5) else (r.1, r.2.2)) := by rwa [if_pos hc, if_neg hk] at h

set_option maxRecDepth 20000 in
/-- rhizome/rhizomeref18.Has -/
theorem eHas_fn (es : List Ed) (e : Ed) (hm : es.length ≤ 1000000) : Ct Tryz.prog 16 [SlT kE es, kE.T e] ([]) Unit (fun _ => BoolT (decide (e ∈ es))) (fun _ => []) (fun _ => True) := by
 refine fn_intro Tryz.func16 rfl rfl ?_
 intro H w
 refine sq (te (ec 0 rfl (ec 1 rfl en)) (rg (oA (acts_box (d := kE) (oT rfl)) pR rfl rfl (fun g0_0 _ => ?_))))
 refine ak rfl (tn (nn (sq (sq (te (ec 0 rfl (ec 3 rfl en)) (rg (mv rfl rfl (oP (pls (oT rfl) Tryz.underlying26) rfl (oP (pu_move ot) rfl (tn (nn (tb (tr_loopK (σ := Nat) (ec 0 rfl (ec 3 rfl (ec 7 rfl en))) (fun k => [(8, I64 (k : Int))]) (fun k => [BlkI g0_0 42 kE e]) (fun k => k ≤ es.length ∧ e ∉ es.take k) (fun k => es.length - k) 0 ⟨Nat.zero_le _, by simp⟩ ?_ (op (by repeat first | exact pn | refine pc 0 rfl ?_)) ?_)))))))))))))
 · exact (ec 8 rfl en)
 · rintro k ⟨hk, hno⟩
   refine sq (te (ec 0 rfl (ec 3 rfl (ec 7 rfl (ec 8 rfl en)))) (rg (oP (pu_lss (oT rfl) (oT rfl)) rfl (tn (nn (sq (tc (oT rfl) (fun c9 => ?_) (fun c9 => ?_))))))))
   · refine sk (nn (sq (tb (sq (te (ec 0 rfl (ec 3 rfl (ec 7 rfl (ec 8 rfl en)))) ?_)))))
     have hkl : k < es.length := by simp only [decide_eq_true_eq] at c9; omega
     refine rg (mv rfl rfl (av rfl rfl (tn (nn (sq (te (ec 0 rfl (ec 3 rfl (ec 5 rfl (ec 7 rfl (ec 8 rfl en))))) ?_))))))
     apply tr_any (m := 5) (ns := [[(0, none)], [(5, none)], [(11, some 0), (12, some 1)], [(13, some 2)], [(3, none)]]) (by kernel_rfl) (by kernel_rfl) (Ts := [_, _, _, _, _]) rfl
     case hops =>
      refine ⟨?_, ?_, ?_, ?_, ?_, trivial⟩
      · exact rmv rfl
      · exact rmv rfl
      · exact rP (pu_index (oT rfl) (oT rfl) Tryz.underlying26 y61 (by omega) (by omega))
      · exact rP (pL (oT rfl) y61)
      · exact rP (plv (oT rfl) (by exact mA 0 rfl) y61)
     case h =>
      refine oP (pu_eq_of eqEd (oT rfl) (oT rfl)) rfl (tn (nn (tc (oT rfl) (fun c16 => ?_) (fun c16 => ?_))))
      · have hin : e ∈ es := by have h := of_decide_eq_true c16; rw [← h]; exact at_mem hkl
        refine sq (te en (rg (ak rfl (tn (nn (tR (block_ret (tt (tt (block_ret (tt ?_)))))))))))
        exact ret_one .ret (.inl rfl) rfl () (OT.val (oT rfl) (congrArg Value.bool (by simp [hin]))) trivial (by exact pn)
      · have hst := not_stepE hkl hno (of_decide_eq_false c16)
        refine sk (bn (nn (te (ec 0 rfl (ec 3 rfl (ec 7 rfl (ec 8 rfl en)))) (rg (oP (pad (oT rfl) ot (by omega)) rfl (mv rfl rfl (tn (nn ?_))))))))
        exact tg (k + 1) ⟨hkl, hst⟩ (by omega) (ea (ec 8 rfl en) (ec 0 rfl (ec 3 rfl (ec 7 rfl en)))) (op (by repeat first | exact pn | refine pc 0 rfl ?_))
   · refine tr_exit (tx (tx (bh (nn (sq (te en ?_))))))
     obtain rfl : k = es.length := by simp only [decide_eq_false_iff_not] at c9; omega
     rw [List.take_length] at hno
     refine rg (ak rfl (tn (nn (tR ?_))))
     exact ret_one .ret (.inl rfl) rfl () (OT.val (oT rfl) (congrArg Value.bool (by simp [hno]))) trivial (by exact pn)
set_option maxHeartbeats 1000000 in
set_option maxRecDepth 20000 in
/-- rhizome/rhizomelaw18.ViewSteps -/
theorem ViewSteps_fn (es : List Ed) (hel : es.length ≤ 4398046510976) (hei : ∀ e ∈ es, in64 e.1 ∧ in64 e.2.2) : Ct Tryz.prog 4 [SlT kE es] ([]) Unit (fun _ => BoolT true) (fun _ => []) (fun _ => True) := by
 refine fn_intro Tryz.func4 rfl rfl ?_
 intro H w
 refine sq (te (ec 0 rfl en) (rg (ak rfl (tn (nn (sq (sq (te (ec 0 rfl en) (rg (oA (aC awake18_fn y151 oN pR) pR rfl rfl (fun _ _ => ?_)))))))))))
 refine oP (pu_not (oT rfl)) rfl (mv rfl rfl (oG rfl rfl rfl (gm (oT rfl)) (fun hg => by (have hg1 := hg.2; (try simp only [cq2] at hg1); exact pu_move (oT rfl))) rfl ?_))
 refine oG rfl rfl rfl (gm (oT rfl)) (fun hg => by (have hg1 := hg.2; (try simp only [cq2] at hg1); exact pls (by exact gu (oT rfl) hg) Tryz.underlying26)) rfl ?_
 refine oG rfl rfl rfl (gm (oT rfl)) (fun hg => by (have hg1 := hg.2; (try simp only [cq2] at hg1); exact pu_gtr (by exact gu (oT rfl) hg) ot)) rfl ?_
 refine oP (pu_pick_or (oT rfl) (oT rfl)) rfl (tn (nn (tc (oT rfl) (fun c26 => ?_) (fun c26 => ?_))))
 · refine sq (te en (rg (oA (aC awake18_fn y151 oN pR) pR rfl rfl (fun _ _ => ?_))))
   exact av rfl rfl (tn (nn (tR (tt (ret_one .ret (.inl rfl) rfl () (oT rfl) trivial pn)))))
 · have he20 : es.length ≤ 20 := by have h := c26; simp at h; omega
   refine sk (nn (sq (te (ec 0 rfl en) (rg (oA (acts_lit (d := kS) (v0 := []) y48 y40 zS (show 2 * 1 ≤ 16777216 from by decide) (by decide) (fills_arr rfl rfl (by decide) ot (fills_arr rfl rfl (by decide) ot fills_nil))) pR rfl rfl (fun _ _ => ?_))))))
   refine oP (pu_build (d := kA) (v0 := ([], [], [])) (ps := [(0, 1), (1, 1), (2, 1)]) zA (by kernel_rfl) rfl (fills_cons rfl la0 ot (fills_cons rfl la1 ot (fills_cons rfl la2 ot fills_nil)))) rfl (oA (acts_lit (d := kA) (v0 := ([], [], [])) y133 y45 zA (show 1 * 3 ≤ 16777216 from by decide) (by decide) (fills_arr rfl rfl (by decide) (oT rfl) fills_nil)) pR rfl rfl (fun _ _ => ?_))
   refine oP (pu_build (d := kV) (v0 := ([], 0, [], [], [])) (ps := [(0, 1), (1, 1), (2, 1), (3, 1), (4, 1)]) zV (by kernel_rfl) rfl (fills_cons rfl lv0 ot (fills_cons rfl lv1 ot (fills_cons rfl lv2 (oT rfl) (fills_cons rfl lv3 (oT rfl) fills_nil))))) rfl (tr_as 32 (T := kV.T vP) (oT rfl) (mv rfl rfl (oA (aC (Content_fn vP es (by decide) (by decide) (by omega) hei) y136 (oc (oT rfl) (oc (oT rfl) oN)) pR) pR rfl rfl fun P hP => (mv rfl rfl (oP (pu_extract (oT rfl) rfl) rfl (oP (pu_extract (oT rfl) rfl) rfl (av rfl rfl (av rfl rfl (tn (nn (sq (te (ec 0 rfl (ec 3 rfl (ec 4 rfl en))) ?_))))))))))))
   obtain ⟨hP0, hPl, hP⟩ := cont_p he20 (cont_of hP (by decide) (by decide))
   rw [hP0]
   refine rg (oP (pu_build (d := kV) (v0 := ([], 0, [], [], [])) (ps := [(0, 1), (1, 1), (2, 1), (3, 1), (4, 1)]) zV (by kernel_rfl) rfl (fills_cons rfl lv0 ot (fills_cons rfl lv1 ot (fills_cons rfl lv4 ot fills_nil)))) rfl (mv rfl rfl (tr_as 38 (T := kV.T vR) (oT rfl) (oA (aC (Content_fn vR es (by decide) (by decide) (by omega) hei) y136 (oc (oT rfl) (oc (oT rfl) oN)) pR) pR rfl rfl fun R hR => (mv rfl rfl (oP (pu_extract (oT rfl) rfl) rfl (oP (pu_extract (oT rfl) rfl) rfl (av rfl rfl (av rfl rfl (tn (nn (sq (te (ec 0 rfl (ec 3 rfl (ec 4 rfl (ec 5 rfl (ec 6 rfl en))))) ?_)))))))))))))
   rw [if_pos (by decide), if_pos rfl, if_pos (by decide)] at hR
   obtain ⟨hR, hR0⟩ := hR
   rw [hR0]
   have hR : SpanT (labE [97] es) R.1 := hR
   have hPE := labE_len [97] es
   have hRl := span_len3 hR (by omega)
   refine rg (oA (acts_lit (d := kS) (v0 := []) y48 y40 zS (show 2 * 1 ≤ 16777216 from by decide) (by decide) (fills_arr rfl rfl (by decide) ot (fills_arr rfl rfl (by decide) ot fills_nil))) pR rfl rfl (fun _ _ => ?_))
   refine oP (pu_build (d := kA) (v0 := ([], [], [])) (ps := [(0, 1), (1, 1), (2, 1)]) zA (by kernel_rfl) rfl (fills_cons rfl la0 ot (fills_cons rfl la1 ot (fills_cons rfl la2 ot fills_nil)))) rfl (oP (pu_build (d := kA) (v0 := ([], [], [])) (ps := [(0, 1), (1, 1), (2, 1)]) zA (by kernel_rfl) rfl (fills_cons rfl la0 ot (fills_cons rfl la1 ot (fills_cons rfl la2 ot fills_nil)))) rfl (oA (acts_lit (d := kA) (v0 := ([], [], [])) y133 y45 zA (show 2 * 3 ≤ 16777216 from by decide) (by decide) (fills_arr rfl rfl (by decide) (oT rfl) (fills_arr rfl rfl (by decide) (oT rfl) fills_nil))) pR rfl rfl (fun _ _ => ?_)))
   refine oP (pu_build (d := kV) (v0 := ([], 0, [], [], [])) (ps := [(0, 1), (1, 1), (2, 1), (3, 1), (4, 1)]) zV (by kernel_rfl) rfl (fills_cons rfl lv0 ot (fills_cons rfl lv1 ot (fills_cons rfl lv2 (oT rfl) (fills_cons rfl lv3 (oT rfl) fills_nil))))) rfl (tr_as 48 (T := kV.T vT) (oT rfl) (mv rfl rfl (oA (aC (Content_fn vT es (by decide) (by decide) (by omega) hei) y136 (oc (oT rfl) (oc (oT rfl) oN)) pR) pR rfl rfl fun T hT => (mv rfl rfl (oP (pu_extract (oT rfl) rfl) rfl (oP (pu_extract (oT rfl) rfl) rfl (av rfl rfl (av rfl rfl (tn (nn (sq (sq (te (ec 0 rfl (ec 3 rfl (ec 4 rfl (ec 5 rfl (ec 6 rfl (ec 7 rfl (ec 8 rfl en))))))) ?_)))))))))))))
   obtain ⟨hT0, hTl, hT⟩ := cont_t he20 (cont_of hT (by decide) (by decide))
   rw [hT0]
   have hsP : Small P.1 := ⟨by omega, fun t ht => by obtain ⟨x, y, rfl, _⟩ := (hP t).1 ht; show (2 : Nat) ≤ _; omega⟩
   have hsR : Small R.1 := prm_small hRl fun t ht => (hR.2 t).1 ht
   refine rg (mv rfl rfl (oP (pu_neq (oT rfl) ot) rfl (mv rfl rfl (oG rfl rfl rfl (gm (oT rfl)) (fun hg => by (have hg1 := hg.2; (try simp only [cq2] at hg1); exact pu_move (oT rfl))) rfl ?_))))
   refine oG rfl rfl rfl (gm (oT rfl)) (fun hg => by (have hg1 := hg.2; (try simp only [cq2] at hg1); exact pu_neq (by exact gu (oT rfl) hg) ot)) rfl ?_
   refine oP (pu_pick_or (oT rfl) (oT rfl)) rfl (mv rfl rfl (oG rfl rfl rfl (gm (oT rfl)) (fun hg => by (have hg1 := hg.2; (try simp only [cq2] at hg1); exact pu_move (oT rfl))) rfl ?_))
   refine oG rfl rfl rfl (gm (oT rfl)) (fun hg => by (have hg1 := hg.2; (try simp only [cq2] at hg1); exact pu_neq (by exact gu (oT rfl) hg) ot)) rfl ?_
   refine oP (pu_pick_or (oT rfl) (oT rfl)) rfl (tn (nn (tc (oT rfl) (fun c62 => ?_) (fun c62 => ?_))))
   · exfalso
     simp at c62 --done
   · refine sk (nn (sq (sq (te (ec 0 rfl (ec 3 rfl (ec 5 rfl (ec 7 rfl en)))) (rg (oA (acts_lit_own (d := kT) (v0 := []) y29 y0 zT (show 0 * 1 ≤ 16777216 from by decide) (by decide) fills_nil) pR rfl rfl (fun v8_0 _ => ?_)))))))
     refine mv rfl rfl (oA (acts_append (oT rfl) (by exact pA 0 rfl) (oT rfl) y29 (by (simp; omega)) (by (simp [maxLen]; omega))) (by exact pA 0 rfl) rfl rfl (fun v8_2 _ => ?_))
     refine mv rfl rfl (oA (acts_append (oT rfl) (by exact pA 0 rfl) (oT rfl) y29 (by (simp; omega)) (by (simp [maxLen]; omega))) (by exact pA 0 rfl) rfl rfl (fun v8_4 _ => ?_))
     refine oP (pu_len_own (oT rfl) (by exact mA 0 rfl) Tryz.underlying36) rfl ?_
     refine oP (pu_move ot) rfl (tn (tr_freeze (perm_at 0 rfl) 67 (oT rfl) (tr_as 67 (T := SlT kT (P.1 ++ T.1)) (oT rfl) (tr_as 68 (T := I64 ((P.1 ++ T.1).length : Int)) (oT rfl) (nn (tb (tr_loopK (σ := Nat) (ec 0 rfl (ec 3 rfl (ec 5 rfl (ec 67 rfl (ec 68 rfl en))))) (fun k => [(69, I64 (k : Int))]) (fun k => []) (fun k => k ≤ (P.1 ++ T.1).length) (fun k => (P.1 ++ T.1).length - k) 0 (Nat.zero_le _) ?_ (op pn) ?_)))))))
     · exact (ec 69 rfl en)
     · rintro k hk0
       refine sq (te (ec 0 rfl (ec 3 rfl (ec 5 rfl (ec 67 rfl (ec 68 rfl (ec 69 rfl en)))))) (rg (oP (pu_lss (oT rfl) (oT rfl)) rfl (tn (nn (sq (tc (oT rfl) (fun c70 => ?_) (fun c70 => ?_))))))))
       · refine sk (nn (sq (tb (sq (te (ec 0 rfl (ec 3 rfl (ec 5 rfl (ec 67 rfl (ec 68 rfl (ec 69 rfl en)))))) ?_)))))
         have hk : k < (P.1 ++ T.1).length := by simp only [decide_eq_true_eq] at c70; omega
         obtain ⟨t, ht⟩ : ∃ t, at' (P.1 ++ T.1) (k : Int) = t := ⟨_, rfl⟩
         have htR : t ∈ R.1 := st_all hP hT hR (by rw [← ht]; exact at_mem hk)
         obtain ⟨ti, tj, hte, _⟩ := (hR.2 t).1 htR
         have htl : t.length ≤ 1000000 := by rw [hte]; show (2 : Nat) ≤ _; omega
         refine rg (oP (pu_index (oT rfl) (oT rfl) Tryz.underlying36 y0 (by omega) (by omega)) rfl (oP (pL (oT rfl) y0) rfl (av rfl rfl (tn ?_))))
         rw [ht]
         refine nn (sq (te (ec 0 rfl (ec 3 rfl (ec 5 rfl (ec 10 rfl (ec 67 rfl (ec 68 rfl (ec 69 rfl en))))))) (rg (mv rfl rfl (mv rfl rfl (oA (aC (rHas_fn _ _ (by assumption) (by assumption)) y28 (oc (oT rfl) (oc (oT rfl) oN)) pR) pR rfl rfl (fun _ _ => ?_)))))))
         refine oP (pu_not (oT rfl)) rfl (tn (nn (tc (oT rfl) (fun c76 => ?_) (fun c76 => ?_))))
         · exfalso
           rw [List.contains_iff_mem.2 htR] at c76
           cases c76 --done
         · refine sk (bn (nn (te (ec 0 rfl (ec 3 rfl (ec 5 rfl (ec 67 rfl (ec 68 rfl (ec 69 rfl en)))))) (rg (oP (pad (oT rfl) ot (by (simp [maxLen] at *; omega))) rfl ?_)))))
           refine mv rfl rfl (tn (nn ?_))
           exact tg (k + 1) hk (by omega) (ea (ec 69 rfl en) (ec 0 rfl (ec 3 rfl (ec 5 rfl (ec 67 rfl (ec 68 rfl en)))))) (op pn)
       · refine tr_exit (tx (tx (bh (nn (sq (sq (te (ec 0 rfl (ec 3 rfl (ec 5 rfl en))) (rg (mv rfl rfl (oP (pls (oT rfl) Tryz.underlying26) rfl (oP (pu_move ot) rfl (tn (nn (tb (tr_loopK (σ := Nat) (ec 0 rfl (ec 3 rfl (ec 5 rfl (ec 78 rfl (ec 79 rfl en))))) (fun k => [(80, I64 (k : Int))]) (fun k => []) (fun k => k ≤ es.length) (fun k => es.length - k) 0 (Nat.zero_le _) ?_ (op pn) ?_)))))))))))))))
         · exact (ec 80 rfl en)
         · rintro k hk0
           refine sq (te (ec 0 rfl (ec 3 rfl (ec 5 rfl (ec 78 rfl (ec 79 rfl (ec 80 rfl en)))))) (rg (oP (pu_lss (oT rfl) (oT rfl)) rfl (tn (nn (sq (tc (oT rfl) (fun c81 => ?_) (fun c81 => ?_))))))))
           · refine sk (nn (sq (tb (sq (te (ec 0 rfl (ec 3 rfl (ec 5 rfl (ec 78 rfl (ec 79 rfl (ec 80 rfl en)))))) ?_)))))
             have hk : k < es.length := by simp only [decide_eq_true_eq] at c81; omega
             obtain ⟨e, he⟩ : ∃ e, at' es (k : Int) = e := ⟨_, rfl⟩
             have hein : e ∈ es := by rw [← he]; exact at_mem hk
             refine rg (oP (pu_index (oT rfl) (oT rfl) Tryz.underlying26 y61 (by omega) (by omega)) rfl (oP (pL (oT rfl) y61) rfl (oA (acts_alloc (zE)) pR rfl rfl (fun g16_2 _ => ?_))))
             refine oA (asv (oT rfl) (oT rfl) (by exact pA 0 rfl) y61) (by exact pA 0 rfl) rfl rfl (fun _ _ => ?_)
             refine tn ?_
             rw [he]
             refine nn (sq (te (ec 0 rfl (ec 3 rfl (ec 5 rfl (ec 12 rfl (ec 78 rfl (ec 79 rfl (ec 80 rfl en))))))) (rg (oP (pf (oT rfl) y62) rfl (oP (plb (oT rfl) (by exact mA 0 rfl) le1 y40) rfl ?_)))))
             refine oP (pu_bs_eql (oT rfl) ot) rfl (mv rfl rfl (oG rfl rfl rfl (gm (oT rfl)) (fun hg => by (have hg1 := hg.2; (try simp only [cq2] at hg1); exact pu_move (oT rfl))) rfl ?_))
             refine oG rfl rfl rfl (gm (oT rfl)) (fun hg => by (have hg1 := hg.2; (try simp only [cq2] at hg1); exact pf (oT rfl) y63)) rfl ?_
             refine oG rfl rfl rfl (gm (oT rfl)) (fun hg => by (have hg1 := hg.2; (try simp only [cq2] at hg1); exact plb (by exact gu (oT rfl) hg) (by exact mA 0 rfl) le0 y2)) rfl ?_
             refine oG rfl rfl rfl (gm (oT rfl)) (fun hg => by (have hg1 := hg.2; (try simp only [cq2] at hg1); exact pf (oT rfl) y64)) rfl ?_
             refine oG rfl rfl rfl (gm (oT rfl)) (fun hg => by (have hg1 := hg.2; (try simp only [cq2] at hg1); exact plb (by exact gu (oT rfl) hg) (by exact mA 0 rfl) le2 y2)) rfl ?_
             refine op_gu_acts () rfl rfl rfl (gm (oT rfl)) (fun hg => by (have hg1 := hg.2; (try simp only [cq2] at hg1); exact acts_lit (d := kI) (v0 := 0) y33 y2 zI (show 2 * 1 ≤ 16777216 from by decide) (by decide) (fills_arr rfl rfl (by decide) (by exact gu (oT rfl) hg) (fills_arr rfl rfl (by decide) (by exact gu (oT rfl) hg) fills_nil)))) rfl (fun _ _ => ?_)
             refine op_gu_acts () rfl rfl rfl (gm (oT rfl)) (fun hg => by (have hg1 := hg.2; (try simp only [cq2] at hg1); exact aC (rHas_fn P.1 [e.1, e.2.2] hsP (by show (2 : Nat) ≤ _; omega)) y28 (oc (by exact gu (oT rfl) hg) (oc (by exact gu (oT rfl) hg) oN)) pR)) rfl (fun _ _ => ?_)
             refine oG rfl rfl rfl (gm (oT rfl)) (fun hg => by (have hg1 := hg.2; (try simp only [cq2] at hg1); exact pu_not (by exact gu (oT rfl) hg))) rfl ?_
             refine oP (pu_pick_and (oT rfl) (oT rfl)) rfl (tn (nn (tc (oT rfl) (fun c96 => ?_) (fun c96 => ?_))))
             · exfalso
               have h9 := Bool.and_eq_true_iff.1 c96
               have hl := of_decide_eq_true h9.1
               have hin2 : (e.1, [97], e.2.2) ∈ es := by rw [← hl]; exact hein
               have h10 := h9.2
               rw [List.contains_iff_mem.2 ((hP _).2 ⟨e.1, e.2.2, rfl, hin2⟩)] at h10
               cases h10 --done
             · refine sk (bn (nn (te (ec 0 rfl (ec 3 rfl (ec 5 rfl (ec 78 rfl (ec 79 rfl (ec 80 rfl en)))))) (rg (oP (pad (oT rfl) ot (by omega)) rfl (mv rfl rfl (tn (nn ?_))))))))
               exact tg (k + 1) hk (by omega) (ea (ec 80 rfl en) (ec 0 rfl (ec 3 rfl (ec 5 rfl (ec 78 rfl (ec 79 rfl en)))))) (op pn)
           · refine tr_exit (tx (tx (bh (nn (sq (sq (te (ec 0 rfl (ec 3 rfl (ec 5 rfl en))) (rg (mv rfl rfl (oP (pls (oT rfl) Tryz.underlying36) rfl (oP (pu_move ot) rfl (tn (nn (tb (tr_loopK (σ := Nat) (ec 0 rfl (ec 3 rfl (ec 5 rfl (ec 98 rfl (ec 99 rfl en))))) (fun k => [(100, I64 (k : Int))]) (fun k => []) (fun k => k ≤ P.1.length) (fun k => P.1.length - k) 0 (Nat.zero_le _) ?_ (op pn) ?_)))))))))))))))
             · exact (ec 100 rfl en)
             · rintro k hk0
               refine sq (te (ec 0 rfl (ec 3 rfl (ec 5 rfl (ec 98 rfl (ec 99 rfl (ec 100 rfl en)))))) (rg (oP (pu_lss (oT rfl) (oT rfl)) rfl (tn (nn (sq (tc (oT rfl) (fun c101 => ?_) (fun c101 => ?_))))))))
               · refine sk (nn (sq (tb (sq (te (ec 0 rfl (ec 3 rfl (ec 5 rfl (ec 98 rfl (ec 99 rfl (ec 100 rfl en)))))) ?_)))))
                 have hk : k < P.1.length := by simp only [decide_eq_true_eq] at c101; omega
                 obtain ⟨x, y, hxy, hes⟩ := (hP _).1 (at_mem hk)
                 refine rg (oP (pu_index (oT rfl) (oT rfl) Tryz.underlying36 y0 (by omega) (by omega)) rfl (oP (pL (oT rfl) y0) rfl (av rfl rfl (tn ?_))))
                 rw [hxy]
                 refine nn (sq (te (ec 0 rfl (ec 3 rfl (ec 5 rfl (ec 14 rfl (ec 98 rfl (ec 99 rfl (ec 100 rfl en))))))) ?_))
                 apply tr_any (m := 8) (ns := [[(0, none)], [(14, none)], [(105, some 1)], [(106, some 2)], [(14, none)], [(108, some 4)], [(109, some 5)], [(107, some 3), (110, some 6)]]) (by kernel_rfl) (by kernel_rfl) (Ts := [_, _, _, _, _, _, _, _]) rfl
                 case hops =>
                  refine ⟨?_, ?_, ?_, ?_, ?_, ?_, ?_, ?_, trivial⟩
                  · exact rmv rfl
                  · exact rmv rfl
                  · exact rP (pu_index (oT rfl) ot Tryz.underlying51 y2 (by omega) (by (simp; done)))
                  · exact rP (pL (oT rfl) y2)
                  · exact rmv rfl
                  · exact rP (pu_index (oT rfl) ot Tryz.underlying51 y2 (by omega) (by (simp; done)))
                  · exact rP (pL (oT rfl) y2)
                  · exact rP (pu_build (d := kE) (v0 := (0, [], 0)) (ps := [(0, 1), (1, 1), (2, 1)]) zE (by kernel_rfl) rfl (fills_cons rfl le0 (oT rfl) (fills_cons rfl le1 ot (fills_cons rfl le2 (oT rfl) fills_nil))))
                 case h =>
                  refine oA (aC (eHas_fn es _ (by omega)) y152 (oc (oT rfl) (oc (oT rfl) oN)) pR) pR rfl rfl (fun _ _ => ?_)
                  refine oP (pu_not (oT rfl)) rfl (tn (nn (tc (oT rfl) (fun c113 => ?_) (fun c113 => ?_))))
                  · exfalso
                    have c113 : (!decide ((x, [97], y) ∈ es)) = true := c113
                    rw [decide_eq_true hes] at c113
                    cases c113 --done
                  · refine sk (bn (nn (te (ec 0 rfl (ec 3 rfl (ec 5 rfl (ec 98 rfl (ec 99 rfl (ec 100 rfl en)))))) (rg (oP (pad (oT rfl) ot (by omega)) rfl (mv rfl rfl (tn (nn ?_))))))))
                    exact tg (k + 1) hk (by omega) (ea (ec 100 rfl en) (ec 0 rfl (ec 3 rfl (ec 5 rfl (ec 98 rfl (ec 99 rfl en)))))) (op pn)
               · refine tr_exit (tx (tx (bh (nn (sq (sq (te (ec 3 rfl (ec 5 rfl en)) (rg (mv rfl rfl (oP (pls (oT rfl) Tryz.underlying36) rfl (oP (pu_move ot) rfl (tn (nn (tb (tr_loopK (σ := Nat) (ec 3 rfl (ec 5 rfl (ec 115 rfl (ec 116 rfl en)))) (fun k => [(117, I64 (k : Int))]) (fun k => []) (fun k => k ≤ R.1.length) (fun k => R.1.length - k) 0 (Nat.zero_le _) ?_ (op pn) ?_)))))))))))))))
                 · exact (ec 117 rfl en)
                 · rintro k hk0
                   refine sq (te (ec 3 rfl (ec 5 rfl (ec 115 rfl (ec 116 rfl (ec 117 rfl en))))) (rg (oP (pu_lss (oT rfl) (oT rfl)) rfl (tn (nn (sq (tc (oT rfl) (fun c118 => ?_) (fun c118 => ?_))))))))
                   · refine sk (nn (sq (tb (sq (te (ec 3 rfl (ec 5 rfl (ec 115 rfl (ec 116 rfl (ec 117 rfl en))))) ?_)))))
                     have hk : k < R.1.length := by simp only [decide_eq_true_eq] at c118; omega
                     have htR := at_mem hk
                     obtain ⟨ti, tj, hte, _⟩ := (hR.2 _).1 htR
                     refine rg (oP (pu_index (oT rfl) (oT rfl) Tryz.underlying36 y0 (by omega) (by omega)) rfl (oP (pL (oT rfl) y0) rfl (av rfl rfl (tn ?_))))
                     rw [hte]
                     rw [hte] at htR
                     have htl : ([ti, tj] : Tp).length ≤ 1000000 := by show (2 : Nat) ≤ _; omega
                     refine nn (sq (te (ec 3 rfl (ec 5 rfl (ec 16 rfl (ec 115 rfl (ec 116 rfl (ec 117 rfl en)))))) (rg (mv rfl rfl (mv rfl rfl (oA (aC (rHas_fn _ _ (by assumption) (by assumption)) y28 (oc (oT rfl) (oc (oT rfl) oN)) pR) pR rfl rfl (fun _ _ => ?_)))))))
                     refine av rfl rfl (tn (nn (sq (sq (te (ec 3 rfl (ec 5 rfl (ec 16 rfl (ec 17 rfl (ec 115 rfl (ec 116 rfl (ec 117 rfl en))))))) (rg (mv rfl rfl (oP (pls (oT rfl) Tryz.underlying36) rfl (oP (pu_move ot) rfl (tn (nn (tb (tr_loopK (σ := Nat) (ec 3 rfl (ec 5 rfl (ec 16 rfl (ec 115 rfl (ec 116 rfl (ec 117 rfl (ec 124 rfl (ec 125 rfl en)))))))) (fun j => [(126, I64 (j : Int)), (17, BoolT (okK P.1 R.1 [ti, tj] j))]) (fun j => []) (fun j => j ≤ P.1.length) (fun j => P.1.length - j) 0 (Nat.zero_le _) ?_ (op pn) ?_)))))))))))))
                     · exact (ec 126 rfl (es_cons (t := 17) (OT.val (oT rfl) (congrArg Value.bool (by simp [okK]))) en))
                     · rintro j hj0
                       refine sq (te (ec 3 rfl (ec 5 rfl (ec 16 rfl (ec 17 rfl (ec 115 rfl (ec 116 rfl (ec 117 rfl (ec 124 rfl (ec 125 rfl (ec 126 rfl en)))))))))) (rg (oP (pu_lss (oT rfl) (oT rfl)) rfl (tn (nn (sq (tc (oT rfl) (fun c127 => ?_) (fun c127 => ?_))))))))
                       · refine sk (nn (sq (tb (sq (te (ec 3 rfl (ec 5 rfl (ec 16 rfl (ec 17 rfl (ec 115 rfl (ec 116 rfl (ec 117 rfl (ec 124 rfl (ec 125 rfl (ec 126 rfl en)))))))))) ?_)))))
                         have hj : j < P.1.length := by simp only [decide_eq_true_eq] at c127; omega
                         obtain ⟨x, y, hxy, hes⟩ := (hP _).1 (at_mem hj)
                         have hst := okK_step (P := P.1) (R := R.1) (t := [ti, tj]) hj
                         rw [hxy] at hst
                         refine rg (oP (pu_index (oT rfl) (oT rfl) Tryz.underlying36 y0 (by omega) (by omega)) rfl (oP (pL (oT rfl) y0) rfl (av rfl rfl (tn ?_))))
                         rw [hxy]
                         refine nn (te (ec 3 rfl (ec 5 rfl (ec 16 rfl (ec 17 rfl (ec 19 rfl (ec 115 rfl (ec 116 rfl (ec 117 rfl (ec 124 rfl (ec 125 rfl (ec 126 rfl en))))))))))) ?_)
                         apply tr_any (m := 18) (ns := [[(17, none)], [(130, some 0)], [(19, none), (131, some 1)], [(131, some 1), (132, some 2)], [(131, some 1), (133, some 3)], [(16, none), (131, some 1)], [(131, some 1), (135, some 5)], [(131, some 1), (136, some 6)], [(131, some 1), (134, some 4), (137, some 7)], [(131, some 1), (138, some 8)], [(5, none), (139, some 9)], [(19, none), (139, some 9)], [(139, some 9), (141, some 11)], [(139, some 9), (142, some 12)], [(16, none), (139, some 9)], [(139, some 9), (144, some 14)], [(139, some 9), (145, some 15)], [(139, some 9), (143, some 13), (146, some 16)]]) (by kernel_rfl) (by kernel_rfl) (Ts := [_, _, _, _, _, _, _, _, _, _, _, _, _, _, _, _, _, _]) rfl
                         case hops =>
                          refine ⟨?_, ?_, ?_, ?_, ?_, ?_, ?_, ?_, ?_, ?_, ?_, ?_, ?_, ?_, ?_, ?_, ?_, ?_, trivial⟩
                          · exact rmv rfl
                          · exact rmv rfl
                          · exact rG rfl rfl rfl (gm (oT rfl)) (fun hg => by (have hg1 := hg.2; exact rmv rfl))
                          · exact rG rfl rfl rfl (gm (oT rfl)) (fun hg => by (have hg1 := hg.2; exact rP (pu_index (by exact gu (oT rfl) hg) ot Tryz.underlying51 y2 (by omega) (by (simp; done)))))
                          · exact rG rfl rfl rfl (gm (oT rfl)) (fun hg => by (have hg1 := hg.2; exact rP (pL (by exact gu (oT rfl) hg) y2)))
                          · exact rG rfl rfl rfl (gm (oT rfl)) (fun hg => by (have hg1 := hg.2; exact rmv rfl))
                          · exact rG rfl rfl rfl (gm (oT rfl)) (fun hg => by (have hg1 := hg.2; exact rP (pu_index (by exact gu (oT rfl) hg) ot Tryz.underlying51 y2 (by omega) (by (simp; done)))))
                          · exact rG rfl rfl rfl (gm (oT rfl)) (fun hg => by (have hg1 := hg.2; exact rP (pL (by exact gu (oT rfl) hg) y2)))
                          · exact rG rfl rfl rfl (gm (oT rfl)) (fun hg => by (have hg1 := hg.2; exact rP (pu_eql (by exact gu (oT rfl) hg) (by exact gu (oT rfl) hg))))
                          · exact rG rfl rfl rfl (gm (oT rfl)) (fun hg => by (have hg1 := hg.2; exact rP (pu_move (by exact gu (oT rfl) hg))))
                          · exact rG rfl rfl rfl (oT rfl) (fun hg => by (have hg1 := hg.2; exact rmv rfl))
                          · exact rG rfl rfl rfl (oT rfl) (fun hg => by (have hg1 := hg.2; exact rmv rfl))
                          · exact rG rfl rfl rfl (oT rfl) (fun hg => by (have hg1 := hg.2; exact rP (pu_index (by exact gu (oT rfl) hg) ot Tryz.underlying51 y2 (by omega) (by (simp; done)))))
                          · exact rG rfl rfl rfl (oT rfl) (fun hg => by (have hg1 := hg.2; exact rP (pL (by exact gu (oT rfl) hg) y2)))
                          · exact rG rfl rfl rfl (oT rfl) (fun hg => by (have hg1 := hg.2; exact rmv rfl))
                          · exact rG rfl rfl rfl (oT rfl) (fun hg => by (have hg1 := hg.2; exact rP (pu_index (by exact gu (oT rfl) hg) ot Tryz.underlying51 y2 (by omega) (by (simp; done)))))
                          · exact rG rfl rfl rfl (oT rfl) (fun hg => by (have hg1 := hg.2; exact rP (pL (by exact gu (oT rfl) hg) y2)))
                          · exact rG rfl rfl rfl (oT rfl) (fun hg => by (have hg1 := hg.2; exact rop_acts rfl (acts_lit (d := kI) (v0 := 0) y33 y2 zI (show 2 * 1 ≤ 16777216 from by decide) (by decide) (fills_arr rfl rfl (by decide) (by exact gu (oT rfl) hg) (fills_arr rfl rfl (by decide) (by exact gu (oT rfl) hg) fills_nil))) (fun _ _ _ _ h => h)))
                         case h =>
                          refine op_gu_acts () rfl rfl rfl (oT rfl) (fun hg => by (have hg1 := hg.2; (try simp only [cq2] at hg1); exact aC (rHas_fn R.1 [y, tj] hsR (by show (2 : Nat) ≤ _; omega)) y28 (oc (by exact gu (oT rfl) hg) (oc (by exact gu (oT rfl) hg) oN)) pR)) rfl (fun _ _ => ?_)
                          refine oG rfl rfl rfl (gm (oT rfl)) (fun hg => by (have hg1 := hg.2; (try simp only [cq2] at hg1); exact pu_pick_and_p hg (by exact gu (oT rfl) hg) (oT rfl))) rfl ?_
                          refine oP (pu_pick_or (oT rfl) (oT rfl)) rfl (av rfl rfl (tn (bn (nn (te (ec 3 rfl (ec 5 rfl (ec 16 rfl (ec 17 rfl (ec 115 rfl (ec 116 rfl (ec 117 rfl (ec 124 rfl (ec 125 rfl (ec 126 rfl en)))))))))) (rg (oP (pad (oT rfl) ot (by omega)) rfl (mv rfl rfl (tn (nn ?_))))))))))
                          exact tg (j + 1) hj (by omega) (ea (ec 126 rfl (es_cons (t := 17) (OT.val (oT rfl) (congrArg Value.bool hst.symm)) en)) (ec 3 rfl (ec 5 rfl (ec 16 rfl (ec 115 rfl (ec 116 rfl (ec 117 rfl (ec 124 rfl (ec 125 rfl en))))))))) (op pn)
                       · refine tr_exit (tx (tx (bh (nn (sq (te (ec 3 rfl (ec 5 rfl (ec 17 rfl (ec 115 rfl (ec 116 rfl (ec 117 rfl en)))))) ?_))))))
                         obtain rfl : j = P.1.length := by simp only [decide_eq_false_iff_not] at c127; omega
                         rw [ok_end hP hR htR]
                         refine rg (mv rfl rfl (oP (pu_not (oT rfl)) rfl (tn (nn (tc (oT rfl) (fun c153 => ?_) (fun c153 => ?_))))))
                         · exfalso
                           cases c153 --done
                         · refine sk (bn (nn (te (ec 3 rfl (ec 5 rfl (ec 115 rfl (ec 116 rfl (ec 117 rfl en))))) (rg (oP (pad (oT rfl) ot (by omega)) rfl (mv rfl rfl (tn (nn ?_))))))))
                           exact tg (k + 1) hk (by omega) (ea (ec 117 rfl en) (ec 3 rfl (ec 5 rfl (ec 115 rfl (ec 116 rfl en))))) (op pn)
                   · exact tr_exit (tx (tx (bh (nn (sq (te en (rg (ak rfl (tn (nn (tR (ret_one .ret (.inl rfl) rfl () (oT rfl) trivial pn))))))))))))
end Go.Proofs.YtklhdalppmjnaaaGreatDoor
/- The order of atoms, of edges; more edges: what rows and results are then. Plain Lean. -/
namespace Go.Jn
open Go Go.Gw Go.Tu
set_option linter.unusedVariables false
set_option linter.unusedSimpArgs false
abbrev ats (v : Vw) : List Atm := v.2.2.2.1
abbrev outs (v : Vw) : List Lab := v.2.2.1
def rowsV (v : Vw) (l : List Ed) : List Tp := rowsK (byLab l) (varsL (ats v)) (ats v)
theorem rowsV_spec (v : Vw) (l : List Ed) : (rowsV v l).Nodup ∧ ∀ r, r ∈ rowsV v l ↔ r.length = (varsL (ats v)).length ∧ Sat l (varsL (ats v)) (ats v) r := rows_spec l (ats v) (List.prefix_refl _)
theorem perm_mem {α : Type} [DecidableEq α] {l m : List α} (h1 : l.Nodup) (h2 : m.Nodup) (h : ∀ x, x ∈ l ↔ x ∈ m) : l.Perm m := (List.perm_ext_iff_of_nodup h1 h2).2 h
theorem map_nodup {α β : Type} {f : α → β} {l : List α} (hl : l.Nodup) (hf : ∀ a ∈ l, ∀ b ∈ l, f a = f b → a = b) : (l.map f).Nodup := by
 induction l with
 | nil => exact List.nodup_nil
 | cons a l ih =>
  obtain ⟨h1, h2⟩ := List.nodup_cons.1 hl
  rw [List.map_cons]
  refine List.nodup_cons.2 ⟨fun h => ?_, ih h2 fun x hx y hy => hf x (List.mem_cons_of_mem _ hx) y (List.mem_cons_of_mem _ hy)⟩
  obtain ⟨b, hb, e⟩ := List.mem_map.1 h
  have := hf b (List.mem_cons_of_mem _ hb) a List.mem_cons_self e
  subst this; exact h1 hb
theorem Sat.congr {l l' : List Ed} {V W : List Lab} {al bl : List Atm} {r s : Tp} (h : Sat l V al r) (hA : ∀ a ∈ bl, a ∈ al) (hE : ∀ e ∈ l, e ∈ l') (he : ∀ a ∈ bl, env W s a.1 = env V r a.1 ∧ env W s a.2.2 = env V r a.2.2) : Sat l' W bl s := fun a ha => by
 rw [(he a ha).1, (he a ha).2]
 exact hE _ (h a (hA a ha))
section
variable {v w : Vw} {l l' : List Ed}
end
section
variable {v : Vw} {l : List Ed} {m : Ed}
end
end Go.Jn
/- A pattern beside itself with other names; a great pattern. Plain Lean. -/
namespace Go.Jn
open Go Go.Gw Go.Tu
set_option linter.unusedVariables false
set_option linter.unusedSimpArgs false
def turnB (b : UInt8) : UInt8 := UInt8.ofNat (97 + (b.toNat - 97 + 13) % 26)
def turnL : Lab → Lab
 | [] => []
 | b :: t => turnB b :: t
def tA (a : Atm) : Atm := (turnL a.1, a.2.1, turnL a.2.2)
theorem turnB_nat (b : UInt8) : (turnB b).toNat = 97 + (b.toNat - 97 + 13) % 26 := by
 unfold turnB
 have : (b.toNat - 97 + 13) % 26 < 26 := Nat.mod_lt _ (by decide)
 simp; omega
theorem low_iff {b : UInt8} : isLow b = true ↔ 97 ≤ b.toNat ∧ b.toNat ≤ 122 := by unfold isLow; simp
theorem turnB_inj {b c : UInt8} (hb : isLow b = true) (hc : isLow c = true) (h : turnB b = turnB c) : b = c := by
 have e := congrArg UInt8.toNat h
 rw [turnB_nat, turnB_nat] at e
 rw [low_iff] at hb hc
 exact UInt8.toNat_inj.1 (by omega)
theorem name_iff {s : Lab} : nameB s = true ↔ 0 < s.length ∧ s.length ≤ 16 ∧ ∀ b ∈ s, isLow b = true := by unfold nameB; simp [and_assoc]
theorem turnL_inj {s t : Lab} (hs : nameB s = true) (ht : nameB t = true) (h : turnL s = turnL t) : s = t := by
 rw [name_iff] at hs ht
 cases s with
 | nil => simp at hs
 | cons b s =>
  cases t with
  | nil => simp at ht
  | cons c t =>
   simp only [turnL, List.cons.injEq] at h
   rw [turnB_inj (hs.2.2 b List.mem_cons_self) (ht.2.2 c List.mem_cons_self) h.1, h.2]
theorem addV_app {V out : List Lab} {x : Lab} (h : x ∉ V) : addV (V ++ out) x = V ++ addV out x := by
 unfold addV
 by_cases hx : x ∈ out
 · rw [if_pos (by simp [hx]), if_pos (by simpa using hx)]
 · rw [if_neg (by simp [h, hx]), if_neg (by simpa using hx), List.append_assoc]
theorem vars_app {V : List Lab} : ∀ (B : List Atm) (out : List Lab), (∀ b ∈ B, b.1 ∉ V ∧ b.2.2 ∉ V) → B.foldl addA (V ++ out) = V ++ B.foldl addA out
 | [], out, _ => rfl
 | b :: B, out, h => by
  have h1 := h b List.mem_cons_self
  rw [List.foldl_cons, List.foldl_cons, addA, addV_app h1.1, addV_app h1.2, vars_app B _ fun c hc => h c (List.mem_cons_of_mem _ hc)]
  rfl
theorem vars_two {A B : List Atm} (h : ∀ b ∈ B, b.1 ∉ varsL A ∧ b.2.2 ∉ varsL A) : varsL (A ++ B) = varsL A ++ varsL B := by
 have := vars_app B [] h
 rw [List.append_nil] at this
 unfold varsL at this ⊢
 rw [List.foldl_append]; exact this
theorem addV_map {out : List Lab} {x : Lab} (hi : ∀ y ∈ out, turnL y = turnL x → y = x) : addV (out.map turnL) (turnL x) = (addV out x).map turnL := by
 unfold addV
 by_cases hx : x ∈ out
 · rw [if_pos (by simpa using ⟨x, hx, rfl⟩), if_pos (by simpa using hx)]
 · rw [if_neg, if_neg (by simpa using hx), List.map_append]; rfl
   simp only [List.contains_iff_mem, List.mem_map, not_exists, not_and]
   exact fun y hy e => hx (hi y hy e ▸ hy)
theorem vars_map : ∀ (B : List Atm) (out : List Lab), (∀ y ∈ out, nameB y = true) → (∀ b ∈ B, nameB b.1 = true ∧ nameB b.2.2 = true) → (B.map tA).foldl addA (out.map turnL) = (B.foldl addA out).map turnL
 | [], out, _, _ => rfl
 | b :: B, out, ho, hB => by
  obtain ⟨n1, n2⟩ := hB b List.mem_cons_self
  rw [List.map_cons, List.foldl_cons, List.foldl_cons]
  have h1 : ∀ y ∈ addV out b.1, nameB y = true := fun y hy => by rcases addV_mem.1 hy with h | h; exact ho y h; rw [h]; exact n1
  have h2 : ∀ y ∈ addA out b, nameB y = true := fun y hy => by rcases addV_mem.1 hy with h | h; exact h1 y h; rw [h]; exact n2
  rw [show addA (out.map turnL) (tA b) = (addA out b).map turnL from by
   unfold addA tA
   rw [addV_map fun y hy e => turnL_inj (ho y hy) n1 e, addV_map fun y hy e => turnL_inj (h1 y hy) n2 e]]
  exact vars_map B _ h2 fun c hc => hB c (List.mem_cons_of_mem _ hc)
theorem vars_turn {A : List Atm} (hA : ∀ b ∈ A, nameB b.1 = true ∧ nameB b.2.2 = true) : varsL (A.map tA) = (varsL A).map turnL := vars_map A [] (fun y hy => by cases hy) hA
theorem idx_map {V : List Lab} {x : Lab} (hx : x ∈ V) (hi : ∀ y ∈ V, turnL y = turnL x → y = x) : (V.map turnL).idxOf (turnL x) = V.idxOf x := by
 induction V with
 | nil => cases hx
 | cons y V ih =>
  rw [List.map_cons, List.idxOf_cons, List.idxOf_cons]
  by_cases e : y = x
  · subst e; simp
  · have e2 : ¬ turnL y = turnL x := fun h => e (hi y List.mem_cons_self h)
    simp only [beq_iff_eq, e, e2, if_false, cond_false, beq_eq_false_iff_ne.2 e, beq_eq_false_iff_ne.2 e2]
    rcases List.mem_cons.1 hx with h | h
    · exact absurd h.symm e
    · rw [ih h fun z hz => hi z (List.mem_cons_of_mem _ hz)]
section
variable {v w : Vw} {l : List Ed}
structure Prod2 (v w : Vw) : Prop where
 nm : w.1 = v.1
 kd : w.2.1 = v.2.1
 out : outs w = outs v
 lb : w.2.2.2.2 = v.2.2.2.2
 at_ : ats w = ats v ++ (ats v).map tA
 few : (ats v).length ≤ 3
 ok : okV v = true
 no : ∀ x ∈ (ats v).map tA, ∀ y ∈ ats v, x.1 ≠ y.1 ∧ x.1 ≠ y.2.2 ∧ x.2.2 ≠ y.1 ∧ x.2.2 ≠ y.2.2
theorem names_of (h : okV v = true) : ∀ b ∈ ats v, nameB b.1 = true ∧ nameB b.2.1 = true ∧ nameB b.2.2 = true := by
 unfold okV patB at h
 simp only [Bool.and_eq_true, List.all_eq_true] at h
 intro b hb
 have := h.1.2.2 b hb
 exact ⟨this.1.1, this.1.2, this.2⟩
theorem Prod2.vars (h : Prod2 v w) : varsL (ats w) = varsL (ats v) ++ (varsL (ats v)).map turnL := by
 have hn := names_of h.ok
 rw [h.at_, vars_two, vars_turn fun b hb => ⟨(hn b hb).1, (hn b hb).2.2⟩]
 intro b hb
 refine ⟨fun hm => ?_, fun hm => ?_⟩
 · obtain ⟨a, ha, e⟩ := varsL_mem.1 hm
   have := h.no b hb a ha
   rcases e with e | e
   · exact this.1 e
   · exact this.2.1 e
 · obtain ⟨a, ha, e⟩ := varsL_mem.1 hm
   have := h.no b hb a ha
   rcases e with e | e
   · exact this.2.2.1 e
   · exact this.2.2.2 e
theorem var_name (h : okV v = true) {x : Lab} (hx : x ∈ varsL (ats v)) : nameB x = true := by
 obtain ⟨a, ha, e⟩ := varsL_mem.1 hx
 have := names_of h a ha
 rcases e with rfl | rfl
 · exact this.1
 · exact this.2.2
theorem Prod2.apart (h : Prod2 v w) {x : Lab} (hx : x ∈ varsL (ats v)) : turnL x ∉ varsL (ats v) := by
 intro hm
 have hd := varsL_nodup (ats w)
 rw [h.vars] at hd
 exact (List.nodup_append.1 hd).2.2 _ hm _ (List.mem_map_of_mem hx) rfl
theorem env_left {V W : List Lab} {r s : Tp} {x : Lab} (hl : r.length = V.length) (hx : x ∈ V) : env (V ++ W) (r ++ s) x = env V r x := by
 unfold env ix
 have h1 := List.idxOf_lt_length_of_mem hx
 rw [List.idxOf_append, if_pos hx, List.getD_eq_getElem?_getD, List.getD_eq_getElem?_getD, List.getElem?_append_left (by omega)]
theorem env_right {V W : List Lab} {r s : Tp} {x : Lab} (hl : r.length = V.length) (hx : x ∉ V) : env (V ++ W) (r ++ s) x = env W s x := by
 unfold env ix
 rw [List.idxOf_append, if_neg hx, List.getD_eq_getElem?_getD, List.getD_eq_getElem?_getD, List.getElem?_append_right (by omega)]
 congr 2; omega
theorem env_turn {V : List Lab} {s : Tp} {x : Lab} (hx : x ∈ V) (hn : ∀ y ∈ V, nameB y = true) : env (V.map turnL) s (turnL x) = env V s x := by
 unfold env ix
 rw [idx_map hx fun y hy e => turnL_inj (hn y hy) (hn x hx) e]
theorem Prod2.rows (h : Prod2 v w) : (rowsV w l).Perm ((rowsV v l).flatMap fun r => (rowsV v l).map fun s => r ++ s) := by
 obtain ⟨n1, s1⟩ := rowsV_spec v l
 obtain ⟨n2, s2⟩ := rowsV_spec w l
 have hv := h.vars
 have hnm : ∀ y ∈ varsL (ats v), nameB y = true := fun y hy => var_name h.ok hy
 refine perm_mem n2 (nodup_flat (fun r hr => map_nodup n1 fun a ha b hb e => by simpa using e) ?_) fun t => ?_
 · refine n1.imp_of_mem ?_
   intro a b ha hb hne x hx hx2
   obtain ⟨s, hs, rfl⟩ := List.mem_map.1 hx
   obtain ⟨s', hs', e⟩ := List.mem_map.1 hx2
   have l1 := ((s1 a).1 ha).1
   have l2 := ((s1 b).1 hb).1
   exact hne (List.append_inj_left e (by omega)).symm
 · rw [s2, List.mem_flatMap]
   constructor
   · rintro ⟨h1, h2⟩
     rw [hv, List.length_append, List.length_map] at h1
     have hl1 : (t.take (varsL (ats v)).length).length = (varsL (ats v)).length := by rw [List.length_take]; omega
     have hl2 : (t.drop (varsL (ats v)).length).length = (varsL (ats v)).length := by rw [List.length_drop]; omega
     have ht := List.take_append_drop (varsL (ats v)).length t
     refine ⟨t.take (varsL (ats v)).length, (s1 _).2 ⟨hl1, fun a ha => ?_⟩, List.mem_map.2 ⟨t.drop (varsL (ats v)).length, (s1 _).2 ⟨hl2, fun a ha => ?_⟩, ht⟩⟩
     · have h3 := h2 a (by rw [h.at_]; exact List.mem_append_left _ ha)
       rw [hv, ← ht, env_left hl1 (varsL_mem.2 ⟨a, ha, .inl rfl⟩), env_left hl1 (varsL_mem.2 ⟨a, ha, .inr rfl⟩)] at h3
       exact h3
     · have h3 := h2 (tA a) (by rw [h.at_]; exact List.mem_append_right _ (List.mem_map_of_mem ha))
       have m1 : a.1 ∈ varsL (ats v) := varsL_mem.2 ⟨a, ha, .inl rfl⟩
       have m2 : a.2.2 ∈ varsL (ats v) := varsL_mem.2 ⟨a, ha, .inr rfl⟩
       unfold tA at h3
       rw [hv, ← ht, env_right hl1 (h.apart m1), env_right hl1 (h.apart m2), env_turn m1 hnm, env_turn m2 hnm] at h3
       exact h3
   · rintro ⟨r, hr, ht⟩
     obtain ⟨s, hs, rfl⟩ := List.mem_map.1 ht
     obtain ⟨l1, q1⟩ := (s1 r).1 hr
     obtain ⟨l2, q2⟩ := (s1 s).1 hs
     rw [hv]
     refine ⟨by simp [l1, l2], fun a ha => ?_⟩
     rw [h.at_] at ha
     rcases List.mem_append.1 ha with ha | ha
     · rw [env_left l1 (varsL_mem.2 ⟨a, ha, .inl rfl⟩), env_left l1 (varsL_mem.2 ⟨a, ha, .inr rfl⟩)]
       exact q1 a ha
     · obtain ⟨b, hb, rfl⟩ := List.mem_map.1 ha
       have m1 : b.1 ∈ varsL (ats v) := varsL_mem.2 ⟨b, hb, .inl rfl⟩
       have m2 : b.2.2 ∈ varsL (ats v) := varsL_mem.2 ⟨b, hb, .inr rfl⟩
       unfold tA
       rw [env_right l1 (h.apart m1), env_right l1 (h.apart m2), env_turn m1 hnm, env_turn m2 hnm]
       exact q2 b hb
theorem flat_len {α β : Type} (f : α → List β) (n : Nat) : ∀ (l : List α), (∀ x ∈ l, (f x).length = n) → (l.flatMap f).length = l.length * n
 | [], _ => by simp
 | a :: l, h => by
  rw [List.flatMap_cons, List.length_append, h a List.mem_cons_self, flat_len f n l fun x hx => h x (List.mem_cons_of_mem _ hx), List.length_cons, Nat.succ_mul, Nat.add_comm]
end
end Go.Jn
/- A great pattern: n edges and m edges of one node; the document's example. Plain Lean. -/
namespace Go.Jn
open Go Go.Gw Go.Tu
set_option linter.unusedVariables false
set_option linter.unusedSimpArgs false
end Go.Jn
namespace Go.Jn
open Go Go.Gw Go.Tu
end Go.Jn
/- Rows' arguments opened: bytes, structs of three and of five fields. -/
namespace Go.Gw
open Go
set_option linter.unusedVariables false
set_option linter.unusedSimpArgs false
theorem opn_bs {P : Program} {t : TypeId} (ht : P.underlying t = some .string) : Opn P t kS (fun _ => True) := fun Hh enc w fuel cs x h => by
 obtain ⟨n, rfl, _, _⟩ := DataW.trod_string ht h
 refine ⟨n.data.toList, ?_, trivial⟩
 show _ = [Value.string (bs n.data.toList)]
 rw [bs_of]
end Go.Gw
namespace Go.Proofs.YtklhdalppmjnaaaGreatDoor
open Go Go.Gw Go.Tu Go.Jn
end Go.Proofs.YtklhdalppmjnaaaGreatDoor
/- The package-level variables that the rows list: one world that meets the list. The walks read none of them. -/
namespace Go.Proofs.YtklhdalppmjnaaaGreatDoor
open Go Go.Gw Go.RowKit
set_option linter.unusedVariables false
theorem opn_struct3g {P : Program} {α β γ : Type} {a : Kd α} {b : Kd β} {c : Kd γ} {g0 : α → Prop} {g1 : β → Prop} {g2 : γ → Prop} {t : TypeId} {f0 f1 f2 : Field} (ht : P.underlying t = some (.struct #[f0, f1, f2])) (h0 : Opn P f0.type a g0) (h1 : Opn P f1.type b g1) (h2 : Opn P f2.type c g2)
 (o0 : f0.offset = 0) (o1 : f1.offset = a.sz) (o2 : f2.offset = a.sz + b.sz) (s0 : P.cellsOf f0.type = a.sz) (s1 : P.cellsOf f1.type = b.sz) (s2 : P.cellsOf f2.type = c.sz) (s : P.cellsOf t = a.sz + b.sz + c.sz) : Opn P t (kpair a (kpair b c)) (fun x => g0 x.1 ∧ g1 x.2.1 ∧ g2 x.2.2) := fun Hh enc w fuel cs x h => by
 obtain ⟨xs, n, _, rfl, hl, hlen, hf⟩ := DataW.trod_struct ht h
 match xs, hlen with
 | [y0, y1, y2], _ =>
  have e0 := hf 0 f0 rfl
  have e1 := hf 1 f1 rfl
  have e2 := hf 2 f2 rfl
  simp only [List.getElem?_cons_zero, List.getElem?_cons_succ] at e0 e1 e2
  rw [o0, s0, List.drop_zero] at e0
  rw [o1, s1] at e1
  rw [o2, s2] at e2
  obtain ⟨u, hu, gu⟩ := h0 Hh enc w n _ _ e0
  obtain ⟨v, hv, gv⟩ := h1 Hh enc w n _ _ e1
  obtain ⟨z, hz, gz⟩ := h2 Hh enc w n _ _ e2
  refine ⟨(u, v, z), ⟨_, _, hu, ⟨_, _, hv, hz, rfl⟩, ?_⟩, gu, gv, gz⟩
  rw [List.take_of_length_le (l := cs.drop (a.sz + b.sz)) (by rw [List.length_drop]; omega)]
  rw [← List.drop_drop, List.take_append_drop, List.take_append_drop]
abbrev laidL : List (String × DataW Unit) := Rows.viewPartsRow.laid
theorem vars_of {W : World} (hS : W.ShapedOpen Tryz.prog) (hL : laidMet Tryz.prog laidL W) : True := trivial
theorem plain_all (w : World) : laidMetH Tryz.prog laidL w = laidMet Tryz.prog laidL w := MakeChecks.laidMetH_plain _ _ _ (by kernel_rfl)
theorem shp (os : Os) : (World.laidAll Tryz.prog os laidL).Shaped Tryz.prog := World.shaped_of_ZipB (by kernel_rfl) (by kernel_rfl)
theorem met (os : Os) (args : Array Value) : laidMet Tryz.prog laidL ((World.laidAll Tryz.prog os laidL).forCall (fun _ _ => 0) ⟨#[], args, []⟩).memory := laidMet_laidAll _ (by kernel_rfl) (by kernel_rfl)
end Go.Proofs.YtklhdalppmjnaaaGreatDoor
