/- The texts Nt9, NtG, Nt10, NtH, Nt11, Nt12, NtI, Nt13, NtJ, Nt14, Nt15, Nt16, Nt17, Nt18, TuF, Nt19 of this claim, put together in their order. No condition of their own. -/
import Derived.Test.YtaahhghlpoiihaaGreatDoorQ8
import Derived.Test.YtaahhghlpoiihaaGreatDoorQ2
import Derived.Test.YtaahhghlpoiihaaGreatDoorQ7
import Derived.Test.YtaahhghlpoiihaaGreatDoorQ4
/- Walks through the Go functions net.Net).insert, as typed contracts. -/
namespace Go.Proofs.YtaahhghlpoiihaaGreatDoor
open Go Go.Gw Go.So Go.Tu Go.Jn Go.Nt
set_option linter.unusedVariables false
set_option linter.unusedSimpArgs false
set_option maxHeartbeats 1000000 in
set_option maxRecDepth 20000 in
/-- (*rhizome/net.Net).insert -/
theorem insert_fn (n : NO) (al : AlM) (lv : List Rw) (ct : List (Lab × Int)) (E : List Ed) (e : Ed) (hv : okV n.v = true) (hok : NetOk n al lv ct E) (hne : e ∉ E) (hi : inI e.1 ∧ inI e.2.2) (hE9 : E.length ≤ 90) : Ct Tryz.prog 29 [AtT kNet (netV n), kE.T e] (NetI n al lv ct) (AlM × List Rw × List (Lab × Int)) (fun r => AnyT) (fun r => NetI n r.1 r.2.1 r.2.2) (fun r => NetOk n r.1 r.2.1 r.2.2 (E ++ [e])) := by
 refine fn_intro Tryz.func29 rfl rfl ?_
 intro H w
 obtain ⟨ho6, ha1, hal8, hov⟩ := okV_lens hv
 obtain ⟨E', hE'⟩ : ∃ E', E ++ [e] = E' := ⟨_, rfl⟩
 have hE2 : ∀ x, x ∈ E' ↔ x ∈ E ∨ x = e := fun x => by rw [← hE']; simp
 have hE2s : ∀ x ∈ E, x ∈ E' := fun x hx => (hE2 x).2 (.inl hx)
 have hEl : E'.length ≤ 100 := by rw [← hE', List.length_append, List.length_singleton]; omega
 rw [hE']
 refine sq (te (ec 0 rfl (ec 1 rfl en)) (rg (oA (acts_box (d := kpt kNet) (v := some (netV n)) (oT rfl)) pR rfl rfl (fun g0_0 _ => ?_))))
 refine oA (acts_box (d := kE) (oT rfl)) pR rfl rfl (fun g0_1 _ => ?_)
 refine tn (nn (sq (te (ec 2 rfl (ec 3 rfl en)) (rg (oP (plv (oT rfl) (by exact mA 1 rfl) y128) rfl ?_)))))
 refine oP (pf (oT rfl) y57) rfl (oP (plb (oT rfl) (by exact mA 0 rfl) le1 y36) rfl ?_)
 refine op_tail2 [_, _, _] (lvI n.gl lv) rfl (aC (alpha_fn n al e.2.1) y131 (oc (oT rfl) (oc (oT rfl) oN)) (perm_tail2 (X := [_, _, _]) (Y := lvI n.gl lv))) rfl rfl fun q hq => (av rfl rfl (tn ?_))
 have hals := hok.als.alpha hq
 obtain ⟨x, hx⟩ : ∃ x, alG q e.2.1 = x := ⟨_, rfl⟩
 have hlk : lkp e.2.1 q = some x := by rw [← hx]; exact alG_some hq.1
 rw [hx]
 have hxb := (hals.some_ _ _ hlk).b hals.nd (by omega)
 have hfl := hxb.f e.1
 have htl := hxb.t e.2.2
 refine tr_openA (X := [_, _, _]) (Y := lvI n.gl lv) e.1 e.2.2 hlk (nn (sq (te (ec 2 rfl (ec 3 rfl (ec 4 rfl en))) ?_)))
 apply tr_any (m := 9) (ns := [[(4, none)], [(27, some 0)], [(28, some 1)], [(29, some 2)], [(3, none)], [(31, some 4)], [(3, none)], [(33, some 6)], [(32, some 5), (34, some 7)]]) (by kernel_rfl) (by kernel_rfl) (Ts := [_, _, _, _, _, _, _, _, _]) rfl
 case hops =>
  refine ⟨?_, ?_, ?_, ?_, ?_, ?_, ?_, ?_, ?_, trivial⟩
  · exact rmv rfl
  · exact rP (pu_nilCheck_at (oT rfl))
  · exact rP (pu_faddr_at (oT rfl) lx2 y108)
  · exact rP (pu_load_atraw (oT rfl) y109)
  · exact rP (pf (oT rfl) y58)
  · exact rP (plb (oT rfl) (by exact mA 6 rfl) le0 y2)
  · exact rP (pf (oT rfl) y59)
  · exact rP (plb (oT rfl) (by exact mA 6 rfl) le2 y2)
  · exact rP (pu_build_arr (d := kPP) (v0 := (0, 0)) (agg := false) Tryz.underlying105 y2 zP rfl (fills_cons rfl Lens.p0 (oT rfl) (fills_cons rfl Lens.p1 (oT rfl) fills_nil)))
 case h =>
  refine oA (acts_update (V := kbool.T) (v := true) mkP Tryz.underlying80 (oT rfl) (by exact pA 0 rfl) (oT rfl) ot) (by exact pA 0 rfl) rfl rfl (fun _ _ => ?_)
  refine tn (nn (sq (te (ec 2 rfl (ec 3 rfl (ec 4 rfl en))) ?_)))
  apply tr_anyG (ρ := Value) (φ := fun rr => True) (p := 16) (Lf := fun c rr => cond c (OwnI 3 kI rr (((lkp e.1 x.frm).getD (nilS, [])).2 ++ [e.2.2]) :: MapI x.gh encP kbool.T (ptk (e.1, e.2.2) true x.has) :: MapI x.gf encI IsV (hdV x.frm) :: MapI x.gt encI IsV (hdV x.to) :: OwnI 3 kI ((lkp e.2.2 (hdV x.to)).getD nilS) ((lkp e.2.2 x.to).getD (nilS, [])).2 :: MapI n.ga encS (kpt kAl).T (ptrsA q) :: BlkI g0_1 54 kE e :: BlkI g0_0 32 (kpt kNet) (some (netV n)) :: MapI n.gc encS kI.T ct :: (lvI n.gl lv ++ tailA q e.2.1 x e.1 e.2.2)) (MapI x.gh encP kbool.T (ptk (e.1, e.2.2) true x.has) :: MapI x.gf encI IsV (hdV x.frm) :: MapI x.gt encI IsV (hdV x.to) :: OwnI 3 kI ((lkp e.1 (hdV x.frm)).getD nilS) ((lkp e.1 x.frm).getD (nilS, [])).2 :: OwnI 3 kI ((lkp e.2.2 (hdV x.to)).getD nilS) ((lkp e.2.2 x.to).getD (nilS, [])).2 :: MapI n.ga encS (kpt kAl).T (ptrsA q) :: BlkI g0_1 54 kE e :: BlkI g0_0 32 (kpt kNet) (some (netV n)) :: MapI n.gc encS kI.T ct :: (lvI n.gl lv ++ tailA q e.2.1 x e.1 e.2.2))) nilS (by kernel_rfl) (m := 17) (ns := [[(4, none)], [(36, some 0)], [(37, some 1)], [(38, some 2)], [(3, none)], [(40, some 4)], [(4, none)], [(42, some 6)], [(43, some 7)], [(44, some 8)], [(3, none)], [(46, some 10)], [(45, some 9), (47, some 11)], [(3, none)], [(49, some 13)], [(50, some 14)], [(48, some 12), (51, some 15)]]) (by kernel_rfl) (by kernel_rfl) (Ts := fun rr => [_, _, _, _, _, _, _, _, _, _, _, _, _, _, _, _, IsV rr]) (fun _ => rfl)
  case hops =>
   refine ⟨?_, ?_, ?_, ?_, ?_, ?_, ?_, ?_, ?_, ?_, ?_, ?_, ?_, ?_, ?_, ?_, ?_, trivial⟩
   · exact ⟨by intro c r hc; cases c <;> exact rgo r rfl ⟨rfl, trivial⟩ (rmv rfl), fun _ _ _ _ => rfl⟩
   · exact ⟨by intro c r hc; cases c <;> exact rgo r rfl ⟨rfl, trivial⟩ (rP (pu_nilCheck_at (oT rfl))), fun _ _ _ _ => rfl⟩
   · exact ⟨by intro c r hc; cases c <;> exact rgo r rfl ⟨rfl, trivial⟩ (rP (pu_faddr_at (oT rfl) lx0 y121)), fun _ _ _ _ => rfl⟩
   · exact ⟨by intro c r hc; cases c <;> exact rgo r rfl ⟨rfl, trivial⟩ (rP (pu_load_atraw (oT rfl) y67)), fun _ _ _ _ => rfl⟩
   · exact ⟨by intro c r hc; cases c <;> exact rgo r rfl ⟨rfl, trivial⟩ (rP (pf (oT rfl) y58)), fun _ _ _ _ => rfl⟩
   · exact ⟨by intro c r hc; cases c <;> exact rgo r rfl ⟨rfl, trivial⟩ (rP (plb (oT rfl) (by exact mA 6 rfl) le0 y2)), fun _ _ _ _ => rfl⟩
   · exact ⟨cBf (by kernel_rfl) fun r _ => rgo r rfl ⟨rfl, trivial⟩ (rmv rfl), fun _ _ _ _ => rfl⟩
   · exact ⟨cBf (by kernel_rfl) fun r _ => rgo r rfl ⟨rfl, trivial⟩ (rP (pu_nilCheck_at (oT rfl))), fun _ _ _ _ => rfl⟩
   · exact ⟨cBf (by kernel_rfl) fun r _ => rgo r rfl ⟨rfl, trivial⟩ (rP (pu_faddr_at (oT rfl) lx0 y121)), fun _ _ _ _ => rfl⟩
   · exact ⟨cBf (by kernel_rfl) fun r _ => rgo r rfl ⟨rfl, trivial⟩ (rP (pu_load_atraw (oT rfl) y67)), fun _ _ _ _ => rfl⟩
   · exact ⟨cBf (by kernel_rfl) fun r _ => rgo r rfl ⟨rfl, trivial⟩ (rP (pf (oT rfl) y58)), fun _ _ _ _ => rfl⟩
   · exact ⟨cBf (by kernel_rfl) fun r _ => rgo r rfl ⟨rfl, trivial⟩ (rP (plb (oT rfl) (by exact mA 6 rfl) le0 y2)), fun _ _ _ _ => rfl⟩
   · exact ⟨cBf (by kernel_rfl) fun r _ => rgo r rfl ⟨rfl, trivial⟩ (rP (pu_lookup_raw mkI Tryz.underlying79 (z0 := nilS) (by kernel_rfl) (oT rfl) (by exact mA 1 rfl) (oT rfl))), fun _ _ _ _ => rfl⟩
   · exact ⟨cBf (by kernel_rfl) fun r _ => rgo r rfl ⟨rfl, trivial⟩ (rP (pf (oT rfl) y59)), fun _ _ _ _ => rfl⟩
   · exact ⟨cBf (by kernel_rfl) fun r _ => rgo r rfl ⟨rfl, trivial⟩ (rP (plb (oT rfl) (by exact mA 6 rfl) le2 y2)), fun _ _ _ _ => rfl⟩
   · exact ⟨cBf (by kernel_rfl) fun r _ => rgo r rfl ⟨rfl, trivial⟩ (rop_acts rfl (acts_lit (d := kI) (v0 := 0) y68 y2 zI (show 1 * 1 ≤ 16777216 from by decide) (by decide) (fills_arr rfl rfl (by decide) (oT rfl) fills_nil)) (fun _ _ _ _ h => h)), fun _ _ _ _ => rfl⟩
   · refine ⟨?_, ?_⟩
     · exact cBf (by kernel_rfl) fun r _ => ropg_acts rfl (acts_append (oT rfl) (by exact pA 3 rfl) (oT rfl) y68 (by (simp; omega)) (by (simp [maxLen]; omega))) (by exact pA 3 rfl) (fun r => pR) (fun _ _ _ => trivial) (fun _ _ _ _ h => h)
     · exact fun _ h => absurd h (by decide)
  case h =>
   intro v3_16 _
   refine oA (acts_update mkI Tryz.underlying79 (oT rfl) (by exact pA 2 rfl) (oT rfl) (oT rfl)) (by exact pA 2 rfl) rfl rfl (fun _ _ => ?_)
   refine tn (nn (sq (te (ec 2 rfl (ec 3 rfl (ec 4 rfl en))) ?_)))
   apply tr_anyG (ρ := Value) (φ := fun rr => True) (p := 16) (Lf := fun c rr => cond c (OwnI 3 kI rr (((lkp e.2.2 x.to).getD (nilS, [])).2 ++ [e.1]) :: MapI x.gf encI IsV (ptk e.1 v3_16 (hdV x.frm)) :: OwnI 3 kI v3_16 (((lkp e.1 x.frm).getD (nilS, [])).2 ++ [e.2.2]) :: MapI x.gh encP kbool.T (ptk (e.1, e.2.2) true x.has) :: MapI x.gt encI IsV (hdV x.to) :: MapI n.ga encS (kpt kAl).T (ptrsA q) :: BlkI g0_1 54 kE e :: BlkI g0_0 32 (kpt kNet) (some (netV n)) :: MapI n.gc encS kI.T ct :: (lvI n.gl lv ++ tailA q e.2.1 x e.1 e.2.2)) (MapI x.gf encI IsV (ptk e.1 v3_16 (hdV x.frm)) :: OwnI 3 kI v3_16 (((lkp e.1 x.frm).getD (nilS, [])).2 ++ [e.2.2]) :: MapI x.gh encP kbool.T (ptk (e.1, e.2.2) true x.has) :: MapI x.gt encI IsV (hdV x.to) :: OwnI 3 kI ((lkp e.2.2 (hdV x.to)).getD nilS) ((lkp e.2.2 x.to).getD (nilS, [])).2 :: MapI n.ga encS (kpt kAl).T (ptrsA q) :: BlkI g0_1 54 kE e :: BlkI g0_0 32 (kpt kNet) (some (netV n)) :: MapI n.gc encS kI.T ct :: (lvI n.gl lv ++ tailA q e.2.1 x e.1 e.2.2))) nilS (by kernel_rfl) (m := 17) (ns := [[(4, none)], [(53, some 0)], [(54, some 1)], [(55, some 2)], [(3, none)], [(57, some 4)], [(4, none)], [(59, some 6)], [(60, some 7)], [(61, some 8)], [(3, none)], [(63, some 10)], [(62, some 9), (64, some 11)], [(3, none)], [(66, some 13)], [(67, some 14)], [(65, some 12), (68, some 15)]]) (by kernel_rfl) (by kernel_rfl) (Ts := fun rr => [_, _, _, _, _, _, _, _, _, _, _, _, _, _, _, _, IsV rr]) (fun _ => rfl)
   case hops =>
    refine ⟨?_, ?_, ?_, ?_, ?_, ?_, ?_, ?_, ?_, ?_, ?_, ?_, ?_, ?_, ?_, ?_, ?_, trivial⟩
    · exact ⟨by intro c r hc; cases c <;> exact rgo r rfl ⟨rfl, trivial⟩ (rmv rfl), fun _ _ _ _ => rfl⟩
    · exact ⟨by intro c r hc; cases c <;> exact rgo r rfl ⟨rfl, trivial⟩ (rP (pu_nilCheck_at (oT rfl))), fun _ _ _ _ => rfl⟩
    · exact ⟨by intro c r hc; cases c <;> exact rgo r rfl ⟨rfl, trivial⟩ (rP (pu_faddr_at (oT rfl) lx1 y122)), fun _ _ _ _ => rfl⟩
    · exact ⟨by intro c r hc; cases c <;> exact rgo r rfl ⟨rfl, trivial⟩ (rP (pu_load_atraw (oT rfl) y67)), fun _ _ _ _ => rfl⟩
    · exact ⟨by intro c r hc; cases c <;> exact rgo r rfl ⟨rfl, trivial⟩ (rP (pf (oT rfl) y59)), fun _ _ _ _ => rfl⟩
    · exact ⟨by intro c r hc; cases c <;> exact rgo r rfl ⟨rfl, trivial⟩ (rP (plb (oT rfl) (by exact mA 6 rfl) le2 y2)), fun _ _ _ _ => rfl⟩
    · exact ⟨cBf (by kernel_rfl) fun r _ => rgo r rfl ⟨rfl, trivial⟩ (rmv rfl), fun _ _ _ _ => rfl⟩
    · exact ⟨cBf (by kernel_rfl) fun r _ => rgo r rfl ⟨rfl, trivial⟩ (rP (pu_nilCheck_at (oT rfl))), fun _ _ _ _ => rfl⟩
    · exact ⟨cBf (by kernel_rfl) fun r _ => rgo r rfl ⟨rfl, trivial⟩ (rP (pu_faddr_at (oT rfl) lx1 y122)), fun _ _ _ _ => rfl⟩
    · exact ⟨cBf (by kernel_rfl) fun r _ => rgo r rfl ⟨rfl, trivial⟩ (rP (pu_load_atraw (oT rfl) y67)), fun _ _ _ _ => rfl⟩
    · exact ⟨cBf (by kernel_rfl) fun r _ => rgo r rfl ⟨rfl, trivial⟩ (rP (pf (oT rfl) y59)), fun _ _ _ _ => rfl⟩
    · exact ⟨cBf (by kernel_rfl) fun r _ => rgo r rfl ⟨rfl, trivial⟩ (rP (plb (oT rfl) (by exact mA 6 rfl) le2 y2)), fun _ _ _ _ => rfl⟩
    · exact ⟨cBf (by kernel_rfl) fun r _ => rgo r rfl ⟨rfl, trivial⟩ (rP (pu_lookup_raw mkI Tryz.underlying79 (z0 := nilS) (by kernel_rfl) (oT rfl) (by exact mA 3 rfl) (oT rfl))), fun _ _ _ _ => rfl⟩
    · exact ⟨cBf (by kernel_rfl) fun r _ => rgo r rfl ⟨rfl, trivial⟩ (rP (pf (oT rfl) y58)), fun _ _ _ _ => rfl⟩
    · exact ⟨cBf (by kernel_rfl) fun r _ => rgo r rfl ⟨rfl, trivial⟩ (rP (plb (oT rfl) (by exact mA 6 rfl) le0 y2)), fun _ _ _ _ => rfl⟩
    · exact ⟨cBf (by kernel_rfl) fun r _ => rgo r rfl ⟨rfl, trivial⟩ (rop_acts rfl (acts_lit (d := kI) (v0 := 0) y68 y2 zI (show 1 * 1 ≤ 16777216 from by decide) (by decide) (fills_arr rfl rfl (by decide) (oT rfl) fills_nil)) (fun _ _ _ _ h => h)), fun _ _ _ _ => rfl⟩
    · refine ⟨?_, ?_⟩
      · exact cBf (by kernel_rfl) fun r _ => ropg_acts rfl (acts_append (oT rfl) (by exact pA 4 rfl) (oT rfl) y68 (by (simp; omega)) (by (simp [maxLen]; omega))) (by exact pA 4 rfl) (fun r => pR) (fun _ _ _ => trivial) (fun _ _ _ _ h => h)
      · exact fun _ h => absurd h (by decide)
   case h =>
    intro v4_16 _
    refine oA (acts_update mkI Tryz.underlying79 (oT rfl) (by exact pA 4 rfl) (oT rfl) (oT rfl)) (by exact pA 4 rfl) rfl rfl (fun _ _ => ?_)
    refine tn (tr_perm (List.Perm.trans ((perm_at 4 rfl).trans (List.Perm.cons _ ((perm_at 2 rfl).trans (List.Perm.cons _ ((perm_at 0 rfl).trans (List.Perm.cons _ ((perm_at 1 rfl).trans (List.Perm.cons _ ((perm_at 0 rfl).trans (List.Perm.cons _ pR)))))))))) (close_A (X := [_, _, _]) (Y := lvI n.gl lv) hlk)) ?_)
    obtain ⟨al', hal'⟩ : ∃ m, (ptk e.2.1 (Al.mk x.gf x.gt x.gh (ptk e.1 (v3_16, ((lkp e.1 x.frm).getD (nilS, [])).2 ++ [e.2.2]) x.frm) (ptk e.2.2 (v4_16, ((lkp e.2.2 x.to).getD (nilS, [])).2 ++ [e.1]) x.to) (ptk (e.1, e.2.2) true x.has)) q) = m := ⟨_, rfl⟩
    rw [hal']
    have hals' : AlsOk E' n.v.2.2.2.1 al' := by rw [← hal', ← hE']; exact hals.come hlk hne hi
    have hinE := hals'.inE
    refine nn (sq (te (ec 2 rfl (ec 3 rfl en)) (rg (oA (acts_makeMap encS kT.T) pR rfl rfl (fun g5_0 _ => ?_)))))
    refine av rfl rfl (tn (nn (sq (sq (te (ec 2 rfl (ec 3 rfl (ec 5 rfl en))) (rg (oP (plv (oT rfl) (by exact mA 2 rfl) y128) rfl ?_)))))))
    refine oP (pu_nilCheck_at (oT rfl)) rfl (oP (pu_faddr_at (oT rfl) ln0 y113) rfl (oP (pu_faddr_at (oT rfl) lv3 y39) rfl (oP (pL (oT rfl) y40) rfl (tr_as 75 (T := SlT kA n.v.2.2.2.1) (oT rfl) (oP (pls (oT rfl) Tryz.underlying23) rfl (oP (pu_move ot) rfl (tn (nn (tb (tr_loopK (σ := Nat × Nat × Rw × List Rw) (ec 2 rfl (ec 3 rfl (ec 75 rfl (ec 76 rfl en)))) (fun s => [(77, I64 (s.1 : Int)), (5, IsV (mp s.2.1))]) (fun s => (MapI s.2.1 encS kT.T s.2.2.1 :: BlkI g0_1 54 kE e :: BlkI g0_0 32 (kpt kNet) (some (netV n)) :: MapI n.gc encS kI.T ct :: (lvI n.gl s.2.2.2 ++ AlI n al'))) (fun s => InsK n.v.2.2.2.1 E E' s.1 s.2.2.1 s.2.2.2) (fun s => n.v.2.2.2.1.length - s.1) (0, g5_0, [], lv) (ins_start hok.lvl hok.rows) ?_ (op pl) ?_))))))))))
    · exact (ec 77 rfl (ec 5 rfl en))
    · rintro ⟨k, gfr, fr, lvk⟩ hin
      dsimp only at hin ⊢
      refine sq (te (ec 2 rfl (ec 3 rfl (ec 5 rfl (ec 75 rfl (ec 76 rfl (ec 77 rfl en)))))) (rg (oP (pu_lss (oT rfl) (oT rfl)) rfl (tn (nn (sq (tc (oT rfl) (fun c78 => ?_) (fun c78 => ?_))))))))
      · refine sk (nn (sq (tb (sq (te (ec 2 rfl (ec 3 rfl (ec 5 rfl (ec 75 rfl (ec 76 rfl (ec 77 rfl en)))))) ?_)))))
        have hk : k < n.v.2.2.2.1.length := by simpa using c78
        obtain ⟨a, ha⟩ : ∃ a, at' n.v.2.2.2.1 (k : Int) = a := ⟨_, rfl⟩
        have hak : n.v.2.2.2.1[k] = a := by rw [← ha, at'_nat hk]
        have hsome : (lkp a.2.1 al').isSome = true := hals'.lab a (by rw [← hak]; exact List.getElem_mem hk)
        have hx2 := hals'.some_ _ _ (alG_some hsome)
        have hxb2 := hx2.b hals'.nd (by omega)
        have hgl := hok.gl
        have hll := hin.len
        have hgk : k < n.gl.length := by omega
        have hlvk : k < lvk.length := by omega
        have hmk := hin.here hlvk
        refine rg (mv rfl rfl (oP (pu_index (oT rfl) (oT rfl) Tryz.underlying23 y41 (by omega) (by omega)) rfl (oP (pL (oT rfl) y41) rfl (oA (acts_alloc (zI)) pR rfl rfl (fun g8_3 _ => ?_)))))
        refine oA (acts_alloc (zA)) pR rfl rfl (fun g8_4 _ => ?_)
        refine oA (asv (oT rfl) (oT rfl) (by exact pA 1 rfl) y2) (by exact pA 1 rfl) rfl rfl (fun _ _ => ?_)
        refine oA (asv (oT rfl) (oT rfl) (by exact pA 1 rfl) y41) (by exact pA 1 rfl) rfl rfl (fun _ _ => ?_)
        refine tn ?_
        rw [ha]
        refine nn (sq (te (ec 2 rfl (ec 3 rfl (ec 5 rfl (ec 6 rfl (ec 7 rfl (ec 75 rfl (ec 76 rfl (ec 77 rfl en)))))))) (rg (oA (acts_makeMap encS kT.T) pR rfl rfl (fun g9_0 _ => ?_)))))
        refine oA (acts_alloc (zRw)) pR rfl rfl (fun g9_1 _ => ?_)
        refine oA (acts_store_rawv (oT rfl) (oT rfl) (by rfl) (by exact pA 0 rfl) y118) (by exact pA 0 rfl) rfl rfl (fun _ _ => ?_)
        refine tn (nn (sq (te (ec 2 rfl (ec 3 rfl (ec 5 rfl (ec 6 rfl (ec 7 rfl (ec 8 rfl (ec 75 rfl (ec 76 rfl (ec 77 rfl en))))))))) (rg (oP (pu_makeFunc (caps_cons (oT rfl) (caps_cons (oT rfl) (caps_cons (oT rfl) caps_nil)))) rfl (av rfl rfl (tn (nn (sq (sq (te (ec 2 rfl (ec 3 rfl (ec 5 rfl (ec 6 rfl (ec 7 rfl (ec 8 rfl (ec 9 rfl (ec 75 rfl (ec 76 rfl (ec 77 rfl en)))))))))) (tr_mapx (perm_at 4 rfl) fun s0 => (rg (mv rfl rfl (oA (acts_range_map Tryz.underlying76 (oT rfl) (by exact mA 0 rfl)) pR rfl rfl (fun r11_1 hr11_1 => ?_))))))))))))))))
        refine tn (nn (tb (tr_loopK (σ := IS × List Lab × Option Lab × Rw) (ec 2 rfl (ec 3 rfl (ec 5 rfl (ec 6 rfl (ec 7 rfl (ec 8 rfl (ec 9 rfl (ec 75 rfl (ec 76 rfl (ec 77 rfl (ec 85 rfl en))))))))))) (fun s => []) (fun s => (RanR r11_1.1 gfr s.1 :: RanM gfr encS kT.T fr s0 :: MapI g9_0 encS kT.T s.2.2.2 :: BlkI g9_1 76 kraw (mp g9_0) :: BlkI g8_4 52 kA a :: BlkI g8_3 3 kI (k : Int) :: BlkI g0_1 54 kE e :: BlkI g0_0 32 (kpt kNet) (some (netV n)) :: MapI n.gc encS kI.T ct :: (lvI n.gl lvk ++ AlI n al'))) (fun s => RanOk fr s0 s.1 s.2.1 s.2.2.1 ∧ MapOf s.2.2.2 (GrS n.v.2.2.2.1 a E' (fun u => NewK n.v.2.2.2.1 E E' k u ∧ idB u ∉ s.2.1))) (fun s => s.2.1.length) (r11_1.2, keys fr, none, []) ⟨hr11_1, MapOf.nil.congr fun s => ⟨fun h => h.elim, fun ⟨t, p, h1, _⟩ => absurd (hin.fr.key.2 ⟨t, rfl, h1.1⟩) h1.2⟩⟩ ?_ (op (by (repeat (first | refine pc 0 rfl ?_ | refine pc 1 rfl ?_)); exact pl)) ?_)))
        · exact en
        · rintro ⟨i, todo, cur, nx⟩ ⟨hrk, hnx⟩
          dsimp only at hrk hnx ⊢
          refine sq (te (ec 2 rfl (ec 3 rfl (ec 5 rfl (ec 6 rfl (ec 7 rfl (ec 8 rfl (ec 9 rfl (ec 75 rfl (ec 76 rfl (ec 77 rfl (ec 85 rfl en))))))))))) (rg (oA (acts_next_map (oT rfl) (by exact mA 1 rfl) (by exact pA 0 rfl) (by assumption)) (by exact pA 0 rfl) rfl rfl (fun q12_0 hq12_0 => ?_))))
          refine oP (pu_nextm (oT rfl)) rfl (tn (nn (sq (tc (oT rfl) (fun c87 => ?_) (fun c87 => ?_)))))
          · obtain ⟨i2, o2⟩ := q12_0
            obtain ⟨key, rfl⟩ : ∃ k, o2 = some k := by
             cases o2 with
             | none => exact Bool.noConfusion c87
             | some k => exact ⟨k, rfl⟩
            dsimp only at hq12_0 c87 ⊢
            obtain ⟨hkt, hok2⟩ := hq12_0
            obtain ⟨t, htv⟩ := lkp_key (hrk.sub _ hkt)
            obtain ⟨rfl, htn⟩ := hin.fr.lkp htv
            have hlt : Lies t.length (nv n.v.2.2.2.1 (k + 1)) (ix (varsL n.v.2.2.2.1) a.1) (ix (varsL n.v.2.2.2.1) a.2.2) := by rw [htn.1.1]; exact lies_k hk hak
            have htl : t.length ≤ 16 := by rw [htn.1.1]; exact nv_len _ _ hal8
            refine sk (nn (tb (sq (te (ec 2 rfl (ec 3 rfl (ec 5 rfl (ec 6 rfl (ec 7 rfl (ec 8 rfl (ec 9 rfl (ec 75 rfl (ec 76 rfl (ec 77 rfl (ec 85 rfl en))))))))))) (rg (oP (pu_entry_map (D := IsV _) (oT rfl) (by exact mA 0 rfl) (by exact mA 1 rfl) (by assumption) (by assumption) (fun H => rfl)) rfl ?_))))))
            refine oP (pu_extract (oT rfl) rfl) rfl (av rfl rfl (tn (nn (sq (te (ec 2 rfl (ec 3 rfl (ec 5 rfl (ec 6 rfl (ec 7 rfl (ec 8 rfl (ec 9 rfl (ec 11 rfl (ec 75 rfl (ec 76 rfl (ec 77 rfl (ec 85 rfl en)))))))))))) (rg (oP (plv (oT rfl) (by exact mA 7 rfl) y128) rfl ?_)))))))
            refine oP (plv (oT rfl) (by exact mA 5 rfl) y2) rfl ?_
            refine mv rfl rfl (op_tail2 [_, _, _, _, _, _, _, _, _] (lvI n.gl lvk) rfl (aC (matches_fn n al' k t a hk ha hlt (by omega) hsome hxb2) y132 (oc (oT rfl) (oc (oT rfl) (oc (oT rfl) oN))) (perm_tail2 (X := [_, _, _, _, _, _, _, _, _]) (Y := lvI n.gl lvk))) rfl rfl fun M hM => (oP (pls (oT rfl) Tryz.underlying110) rfl (oP (pu_move ot) rfl (tn (nn (tb (tr_loopK (σ := Nat × Rw) (ec 2 rfl (ec 3 rfl (ec 5 rfl (ec 6 rfl (ec 7 rfl (ec 8 rfl (ec 9 rfl (ec 11 rfl (ec 75 rfl (ec 76 rfl (ec 77 rfl (ec 85 rfl (ec 93 rfl (ec 94 rfl en)))))))))))))) (fun s => [(95, I64 (s.1 : Int))]) (fun s => (RanR r11_1.1 gfr i2 :: RanM gfr encS kT.T fr s0 :: MapI g9_0 encS kT.T s.2 :: BlkI g9_1 76 kraw (mp g9_0) :: BlkI g8_4 52 kA a :: BlkI g8_3 3 kI (k : Int) :: BlkI g0_1 54 kE e :: BlkI g0_0 32 (kpt kNet) (some (netV n)) :: MapI n.gc encS kI.T ct :: (lvI n.gl lvk ++ AlI n al'))) (fun s => s.1 ≤ M.length ∧ MapOf s.2 (R2 n.v.2.2.2.1 a E' (NewK n.v.2.2.2.1 E E' k) todo t (M.take s.1))) (fun s => M.length - s.1) (0, nx) ⟨Nat.zero_le _, r2_start hnx⟩ ?_ (op pl) ?_)))))))
            · exact (ec 95 rfl en)
            · rintro ⟨j, ny⟩ ⟨hjm, hny⟩
              dsimp only at hjm hny ⊢
              refine sq (te (ec 2 rfl (ec 3 rfl (ec 5 rfl (ec 6 rfl (ec 7 rfl (ec 8 rfl (ec 9 rfl (ec 11 rfl (ec 75 rfl (ec 76 rfl (ec 77 rfl (ec 85 rfl (ec 93 rfl (ec 94 rfl (ec 95 rfl en))))))))))))))) (rg (oP (pu_lss (oT rfl) (oT rfl)) rfl (tn (nn (sq (tc (oT rfl) (fun c96 => ?_) (fun c96 => ?_))))))))
              · refine sk (nn (sq (tb (sq (te (ec 2 rfl (ec 3 rfl (ec 5 rfl (ec 6 rfl (ec 7 rfl (ec 8 rfl (ec 9 rfl (ec 11 rfl (ec 75 rfl (ec 76 rfl (ec 77 rfl (ec 85 rfl (ec 93 rfl (ec 94 rfl (ec 95 rfl en))))))))))))))) ?_)))))
                have hj : j < M.length := by simpa using c96
                obtain ⟨p, hp⟩ : ∃ p, at' M (j : Int) = p := ⟨_, rfl⟩
                refine rg (oP (pu_index (oT rfl) (oT rfl) Tryz.underlying110 y60 (by omega) (by omega)) rfl (oP (pL (oT rfl) y60) rfl (oA (acts_alloc (zP)) pR rfl rfl (fun g16_2 _ => ?_))))
                refine oA (asv (oT rfl) (oT rfl) (by exact pA 0 rfl) y60) (by exact pA 0 rfl) rfl rfl (fun _ _ => ?_)
                refine tn ?_
                rw [hp]
                refine nn (te (ec 2 rfl (ec 3 rfl (ec 5 rfl (ec 6 rfl (ec 7 rfl (ec 8 rfl (ec 9 rfl (ec 11 rfl (ec 13 rfl (ec 75 rfl (ec 76 rfl (ec 77 rfl (ec 85 rfl (ec 93 rfl (ec 94 rfl (ec 95 rfl en)))))))))))))))) (rg (mv rfl rfl (mv rfl rfl (oP (pu_pair_var0 (oT rfl) (by exact mA 0 rfl) Tryz.underlying105 y2) rfl ?_)))))
                refine oP (pu_load_p0 (d := kI) (v := p) (oT rfl) (by exact mA 0 rfl) y2) rfl ?_
                refine oP (pu_pair_var1 (oT rfl) (by exact mA 0 rfl) Tryz.underlying105 y2) rfl ?_
                refine oP (pu_load_p1 (d := kI) (v := p) (oT rfl) (by exact mA 0 rfl) y2) rfl ?_
                refine oA (acts_callv (oT rfl) (CtV.of [pt g0_0 0, pt g8_3 0, pt g9_1 0] (take1_fn n k t p.1 p.2 a g0_0 g8_3 g9_1 g9_0 ny hk ha hlt (by omega)) (by kernel_rfl)) (oc (oT rfl) (oc (oT rfl) (oc (oT rfl) oN))) (perm4_at 8 6 4 3 rfl rfl rfl rfl)) (perm4_at 8 6 4 3 rfl rfl rfl rfl) rfl rfl (fun _ _ => ?_)
                refine tn (bn (nn (te (ec 2 rfl (ec 3 rfl (ec 5 rfl (ec 6 rfl (ec 7 rfl (ec 8 rfl (ec 9 rfl (ec 11 rfl (ec 75 rfl (ec 76 rfl (ec 77 rfl (ec 85 rfl (ec 93 rfl (ec 94 rfl (ec 95 rfl en))))))))))))))) (rg (oP (pad (oT rfl) ot (by omega)) rfl (mv rfl rfl (tn (nn ?_))))))))
                have hml := hM.2
                exact tg (j + 1, putG ny (G1 n.v.2.2.2.1 a t p)) ⟨(by show j + 1 ≤ M.length; omega), r2_step hinE hk hak (fun u h => h.1) htn (fun p hp => matchA_edge hx2 ((hM.1 p).1 hp)) hj hp hny⟩ (by show M.length - (j + 1) < M.length - j; omega) (ea (ec 95 rfl en) (ec 2 rfl (ec 3 rfl (ec 5 rfl (ec 6 rfl (ec 7 rfl (ec 8 rfl (ec 9 rfl (ec 11 rfl (ec 75 rfl (ec 76 rfl (ec 77 rfl (ec 85 rfl (ec 93 rfl (ec 94 rfl en))))))))))))))) (op (by (repeat (first | refine pc 0 rfl ?_ | refine pc 1 rfl ?_ | refine pc 2 rfl ?_ | refine pc 3 rfl ?_ | refine pc 5 rfl ?_)); exact pd (pl)))
              · refine tr_exit (tx (tx (bh (bn (nn ?_)))))
                obtain rfl : j = M.length := by simp only [decide_eq_false_iff_not] at c96; omega
                rw [List.take_length] at hny
                have hle : (ers todo (idB t)).length = todo.length - 1 := ers_len hkt
                have hpos := List.length_pos_of_mem hkt
                exact tg (i2, ers todo (idB t), some (idB t), ny) ⟨hok2, r2_done hinE hk hak hx2 (fun u h => h.1) htn hrk.nd hkt hM.1 hny⟩ (by show (ers todo (idB t)).length < todo.length; omega) (ea en (ec 2 rfl (ec 3 rfl (ec 5 rfl (ec 6 rfl (ec 7 rfl (ec 8 rfl (ec 9 rfl (ec 75 rfl (ec 76 rfl (ec 77 rfl (ec 85 rfl en)))))))))))) (op (by (repeat (refine pc 0 rfl ?_)); exact pl))
          · obtain ⟨i2, o2⟩ := q12_0
            obtain rfl : o2 = none := by
             cases o2 with
             | none => rfl
             | some k => exact Bool.noConfusion c87
            dsimp only at hq12_0 ⊢
            obtain ⟨rfl, hok2⟩ := hq12_0
            refine tr_mapc (perm_at 1 rfl) (tr_exit (tx (tx (bh (nn (tr_joinK (σ := Rw) (ec 2 rfl (ec 3 rfl (ec 5 rfl (ec 6 rfl (ec 8 rfl (ec 75 rfl (ec 76 rfl (ec 77 rfl en)))))))) (fun ny => []) (fun ny => (MapI gfr encS kT.T fr :: MapI g9_0 encS kT.T ny :: BlkI g9_1 76 kraw (mp g9_0) :: BlkI g8_4 52 kA a :: BlkI g8_3 3 kI (k : Int) :: BlkI g0_1 54 kE e :: BlkI g0_0 32 (kpt kNet) (some (netV n)) :: MapI n.gc encS kI.T ct :: (lvI n.gl lvk ++ AlI n al'))) (fun ny => MapOf ny (NewK n.v.2.2.2.1 E E' (k + 1))) ?_ ?_))))))
            · refine sq (te (ec 2 rfl (ec 3 rfl (ec 5 rfl (ec 6 rfl (ec 7 rfl (ec 8 rfl (ec 9 rfl (ec 75 rfl (ec 76 rfl (ec 77 rfl en)))))))))) (rg (oP (pf (oT rfl) y52) rfl (oP (plb (oT rfl) (by exact mA 4 rfl) la1 y36) rfl ?_))))
              refine oP (pf (oT rfl) y57) rfl (oP (plb (oT rfl) (by exact mA 6 rfl) le1 y36) rfl ?_)
              refine oP (pu_bs_eql (oT rfl) (oT rfl)) rfl (tn (nn (tc (oT rfl) (fun c111 => ?_) (fun c111 => ?_))))
              · have hll2 : a.2.1 = e.2.1 := of_decide_eq_true c111
                refine tr_perm (lv_open (X := [_, _, _, _, _, _, _, _, _]) hgk hlvk) (tr_mapx pR fun s1 => (sq (te (ec 2 rfl (ec 3 rfl (ec 5 rfl (ec 6 rfl (ec 8 rfl (ec 9 rfl (ec 75 rfl (ec 76 rfl (ec 77 rfl en))))))))) ?_)))
                apply tr_any (m := 5) (ns := [[(2, none)], [(112, some 0)], [(113, some 1)], [(114, some 2)], [(6, none)]]) (by kernel_rfl) (by kernel_rfl) (Ts := [_, _, _, _, _]) rfl
                case hops =>
                 refine ⟨?_, ?_, ?_, ?_, ?_, trivial⟩
                 · exact rP (plv (oT rfl) (by exact mA 8 rfl) y128)
                 · exact rP (pu_nilCheck_at (oT rfl))
                 · exact rP (pu_faddr_at (oT rfl) ln6 y116)
                 · exact rP (pL (oT rfl) y117)
                 · exact rP (plv (oT rfl) (by exact mA 6 rfl) y2)
                case h =>
                 refine oP (pu_index (oT rfl) (oT rfl) Tryz.underlying71 y118 (by omega) (by show ((k : Nat) : Int) < ((n.gl.map mp).length : Int); rw [List.length_map]; omega)) rfl ?_
                 rw [show at' (netV n).2.2.2.2.2.2.1 ((k : Nat) : Int) = mp n.gl[k] from lv_at (by omega)]
                 refine oP (pu_load_atraw (oT rfl) y118) rfl (oA (acts_range_map Tryz.underlying76 (oT rfl) (by exact mA 0 rfl)) pR rfl rfl (fun r20_7 hr20_7 => ?_))
                 refine tn (nn (tb (tr_loopK (σ := IS × List Lab × Option Lab × Rw) (ec 2 rfl (ec 3 rfl (ec 5 rfl (ec 6 rfl (ec 8 rfl (ec 9 rfl (ec 75 rfl (ec 76 rfl (ec 77 rfl (ec 119 rfl en)))))))))) (fun s => []) (fun s => (RanR r20_7.1 n.gl[k] s.1 :: RanM n.gl[k] encS kT.T lvk[k] s1 :: MapI g9_0 encS kT.T s.2.2.2 :: BlkI g9_1 76 kraw (mp g9_0) :: BlkI g8_4 52 kA a :: BlkI g8_3 3 kI (k : Int) :: BlkI g0_1 54 kE e :: BlkI g0_0 32 (kpt kNet) (some (netV n)) :: MapI n.gc encS kI.T ct :: MapI gfr encS kT.T fr :: (lvI (n.gl.eraseIdx k) (lvk.eraseIdx k) ++ AlI n al'))) (fun s => RanOk lvk[k] s1 s.1 s.2.1 s.2.2.1 ∧ MapOf s.2.2.2 (R3 n.v.2.2.2.1 a E E' k e s.2.1)) (fun s => s.2.1.length) (r20_7.2, keys lvk[k], none, nx) ⟨hr20_7, r3_start hnx hmk⟩ ?_ (op (by (repeat (first | refine pc 0 rfl ?_ | refine pc 2 rfl ?_)); exact pd (pl))) ?_)))
                 · exact en
                 · rintro ⟨i, todo, cur, nx⟩ ⟨hrk, hnx⟩
                   dsimp only at hrk hnx ⊢
                   refine sq (te (ec 2 rfl (ec 3 rfl (ec 5 rfl (ec 6 rfl (ec 8 rfl (ec 9 rfl (ec 75 rfl (ec 76 rfl (ec 77 rfl (ec 119 rfl en)))))))))) (rg (oA (acts_next_map (oT rfl) (by exact mA 1 rfl) (by exact pA 0 rfl) (by assumption)) (by exact pA 0 rfl) rfl rfl (fun q21_0 hq21_0 => ?_))))
                   refine oP (pu_nextm (oT rfl)) rfl (tn (nn (sq (tc (oT rfl) (fun c121 => ?_) (fun c121 => ?_)))))
                   · obtain ⟨i2, o2⟩ := q21_0
                     obtain ⟨key, rfl⟩ : ∃ k, o2 = some k := by
                      cases o2 with
                      | none => exact Bool.noConfusion c121
                      | some k => exact ⟨k, rfl⟩
                     dsimp only at hq21_0 c121 ⊢
                     obtain ⟨hkt, hok2⟩ := hq21_0
                     obtain ⟨t, htv⟩ := lkp_key (hrk.sub _ hkt)
                     obtain ⟨rfl, htn⟩ := hmk.lkp htv
                     have hlt : Lies t.length (nv n.v.2.2.2.1 (k + 1)) (ix (varsL n.v.2.2.2.1) a.1) (ix (varsL n.v.2.2.2.1) a.2.2) := by rw [htn.1]; exact lies_k hk hak
                     have htl : t.length ≤ 16 := by rw [htn.1]; exact nv_len _ _ hal8
                     refine sk (nn (tb (sq (te (ec 2 rfl (ec 3 rfl (ec 5 rfl (ec 6 rfl (ec 8 rfl (ec 9 rfl (ec 75 rfl (ec 76 rfl (ec 77 rfl (ec 119 rfl en)))))))))) (rg (oP (pu_entry_map (D := IsV _) (oT rfl) (by exact mA 0 rfl) (by exact mA 1 rfl) (by assumption) (by assumption) (fun H => rfl)) rfl ?_))))))
                     refine oP (pu_extract (oT rfl) rfl) rfl (av rfl rfl (tn (nn (te (ec 2 rfl (ec 3 rfl (ec 5 rfl (ec 6 rfl (ec 8 rfl (ec 9 rfl (ec 15 rfl (ec 75 rfl (ec 76 rfl (ec 77 rfl (ec 119 rfl en))))))))))) (rg (mv rfl rfl (mv rfl rfl (oP (pf (oT rfl) y58) rfl (oP (plb (oT rfl) (by exact mA 6 rfl) le0 y2) rfl ?_)))))))))
                     refine oP (pf (oT rfl) y59) rfl (oP (plb (oT rfl) (by exact mA 6 rfl) le2 y2) rfl ?_)
                     refine oA (acts_callv (oT rfl) (CtV.of [pt g0_0 0, pt g8_3 0, pt g9_1 0] (take1_fn n k t e.1 e.2.2 a g0_0 g8_3 g9_1 g9_0 nx hk ha hlt (by omega)) (by kernel_rfl)) (oc (oT rfl) (oc (oT rfl) (oc (oT rfl) oN))) (perm4_at 7 5 3 2 rfl rfl rfl rfl)) (perm4_at 7 5 3 2 rfl rfl rfl rfl) rfl rfl (fun _ _ => ?_)
                     refine tn (bn (nn ?_))
                     have hle : (ers todo (idB t)).length = todo.length - 1 := ers_len hkt
                     have hpos := List.length_pos_of_mem hkt
                     exact tg (i2, ers todo (idB t), some (idB t), putG nx (G1 n.v.2.2.2.1 a t (e.1, e.2.2))) ⟨hok2, r3_step hinE hE2 hk hak hll2 htn hrk.nd hkt hnx⟩ (by show (ers todo (idB t)).length < todo.length; omega) (ea en (ec 2 rfl (ec 3 rfl (ec 5 rfl (ec 6 rfl (ec 8 rfl (ec 9 rfl (ec 75 rfl (ec 76 rfl (ec 77 rfl (ec 119 rfl en))))))))))) (op (by (repeat (first | refine pc 0 rfl ?_ | refine pc 1 rfl ?_ | refine pc 2 rfl ?_ | refine pc 3 rfl ?_ | refine pc 4 rfl ?_)); exact pl))
                   · obtain ⟨i2, o2⟩ := q21_0
                     obtain rfl : o2 = none := by
                      cases o2 with
                      | none => rfl
                      | some k => exact Bool.noConfusion c121
                     dsimp only at hq21_0 ⊢
                     obtain ⟨rfl, hok2⟩ := hq21_0
                     refine tr_mapc (perm_at 1 rfl) (tr_perm (lv_same (X := [_, _, _, _, _, _, _, _, _]) hgk hlvk) (tr_exit (tx (tx (bh (nn ?_))))))
                     exact tr_joined nx (r3_done hk hak hE2 hne hll2 hnx) (ea en (ec 2 rfl (ec 3 rfl (ec 5 rfl (ec 6 rfl (ec 8 rfl (ec 75 rfl (ec 76 rfl (ec 77 rfl en))))))))) (op (by (repeat (first | refine pc 1 rfl ?_ | refine pc 8 rfl ?_)); exact pd (pl)))
              · have hll2 : ¬ a.2.1 = e.2.1 := of_decide_eq_false c111
                refine sk (nn ?_)
                exact tr_joined nx (r3_none hk hak hE2 hne hll2 hnx) (ea en (ec 2 rfl (ec 3 rfl (ec 5 rfl (ec 6 rfl (ec 8 rfl (ec 75 rfl (ec 76 rfl (ec 77 rfl en))))))))) (op (by (repeat (first | refine pc 0 rfl ?_ | refine pc 1 rfl ?_)); exact pd (pl)))
            · rintro ny hny
              refine sq (sq (te (ec 2 rfl (ec 3 rfl (ec 5 rfl (ec 6 rfl (ec 8 rfl (ec 75 rfl (ec 76 rfl (ec 77 rfl en)))))))) (tr_mapx (perm_at 0 rfl) fun s2 => (tr_perm (lv_open (X := [_, _, _, _, _, _, _, _]) hgk hlvk) (rg (mv rfl rfl (oA (acts_range_map Tryz.underlying76 (oT rfl) (by exact mA 1 rfl)) pR rfl rfl (fun r24_1 hr24_1 => ?_))))))))
              refine tn (nn (tb (tr_loopK (σ := IS × List Lab × Option Lab × Rw) (ec 2 rfl (ec 3 rfl (ec 6 rfl (ec 8 rfl (ec 75 rfl (ec 76 rfl (ec 77 rfl (ec 132 rfl en)))))))) (fun s => []) (fun s => (RanR r24_1.1 gfr s.1 :: RanM gfr encS kT.T fr s2 :: MapI n.gl[k] encS kT.T s.2.2.2 :: MapI g9_0 encS kT.T ny :: BlkI g9_1 76 kraw (mp g9_0) :: BlkI g8_3 3 kI (k : Int) :: BlkI g0_0 32 (kpt kNet) (some (netV n)) :: BlkI g0_1 54 kE e :: MapI n.gc encS kI.T ct :: (lvI (n.gl.eraseIdx k) (lvk.eraseIdx k) ++ AlI n al'))) (fun s => RanOk fr s2 s.1 s.2.1 s.2.2.1 ∧ MapOf s.2.2.2 (R4 n.v.2.2.2.1 E E' k s.2.1)) (fun s => s.2.1.length) (r24_1.2, keys fr, none, lvk[k]) ⟨hr24_1, r4_start hmk hin.fr⟩ ?_ (op (by (repeat (first | refine pc 0 rfl ?_ | refine pc 1 rfl ?_ | refine pc 2 rfl ?_)); exact pd (pl))) ?_)))
              · exact en
              · rintro ⟨i, todo, cur, m⟩ ⟨hrk, hmm⟩
                dsimp only at hrk hmm ⊢
                refine sq (te (ec 2 rfl (ec 3 rfl (ec 6 rfl (ec 8 rfl (ec 75 rfl (ec 76 rfl (ec 77 rfl (ec 132 rfl en)))))))) (rg (oA (acts_next_map (oT rfl) (by exact mA 1 rfl) (by exact pA 0 rfl) (by assumption)) (by exact pA 0 rfl) rfl rfl (fun q25_0 hq25_0 => ?_))))
                refine oP (pu_nextm (oT rfl)) rfl (tn (nn (sq (tc (oT rfl) (fun c134 => ?_) (fun c134 => ?_)))))
                · obtain ⟨i2, o2⟩ := q25_0
                  obtain ⟨key, rfl⟩ : ∃ k, o2 = some k := by
                   cases o2 with
                   | none => exact Bool.noConfusion c134
                   | some k => exact ⟨k, rfl⟩
                  dsimp only at hq25_0 c134 ⊢
                  obtain ⟨hkt, hok2⟩ := hq25_0
                  obtain ⟨t, htv⟩ := lkp_key (hrk.sub _ hkt)
                  obtain ⟨rfl, htn⟩ := hin.fr.lkp htv

                  refine sk (nn (tb (sq (te (ec 2 rfl (ec 3 rfl (ec 6 rfl (ec 8 rfl (ec 75 rfl (ec 76 rfl (ec 77 rfl (ec 132 rfl en)))))))) (rg (oP (pu_entry_map (D := IsV _) (oT rfl) (by exact mA 0 rfl) (by exact mA 1 rfl) (by assumption) (by assumption) (fun H => rfl)) rfl ?_))))))
                  refine oP (pu_extract (oT rfl) rfl) rfl (oP (pu_extract (oT rfl) rfl) rfl (av rfl rfl (av rfl rfl (tn (nn (te (ec 2 rfl (ec 3 rfl (ec 6 rfl (ec 8 rfl (ec 16 rfl (ec 17 rfl (ec 75 rfl (ec 76 rfl (ec 77 rfl (ec 132 rfl en)))))))))) ?_))))))
                  apply tr_any (m := 9) (ns := [[(2, none)], [(138, some 0)], [(139, some 1)], [(140, some 2)], [(6, none)], [(141, some 3), (142, some 4)], [(143, some 5)], [(16, none)], [(17, none)]]) (by kernel_rfl) (by kernel_rfl) (Ts := [_, _, _, _, _, _, _, _, _]) rfl
                  case hops =>
                   refine ⟨?_, ?_, ?_, ?_, ?_, ?_, ?_, ?_, ?_, trivial⟩
                   · exact rP (plv (oT rfl) (by exact mA 6 rfl) y128)
                   · exact rP (pu_nilCheck_at (oT rfl))
                   · exact rP (pu_faddr_at (oT rfl) ln6 y116)
                   · exact rP (pL (oT rfl) y117)
                   · exact rP (plv (oT rfl) (by exact mA 5 rfl) y2)
                   · exact rP (pu_index (oT rfl) (oT rfl) Tryz.underlying71 y118 (by omega) (by show ((k : Nat) : Int) < ((n.gl.map mp).length : Int); rw [List.length_map]; omega))
                   · exact rP (pu_ceq (T' := IsV (mp n.gl[k])) (pu_load_atraw (oT rfl) y118) (congrArg IsV (lv_at hgk)))
                   · exact rmv rfl
                   · exact rmv rfl
                  case h =>
                   refine oA (acts_update (v := t) (V := kT.T) mkS Tryz.underlying76 (oT rfl) (by exact pA 2 rfl) (oT rfl) (oT rfl)) (by exact pA 2 rfl) rfl rfl (fun _ _ => ?_)
                   refine tn (bn (nn ?_))
                   have hle : (ers todo (idB t)).length = todo.length - 1 := ers_len hkt
                   have hpos := List.length_pos_of_mem hkt
                   exact tg (i2, ers todo (idB t), some (idB t), ptk (idB t) t m) ⟨hok2, r4_step hinE hE2s htn hrk.nd hkt hmm⟩ (by show (ers todo (idB t)).length < todo.length; omega) (ea en (ec 2 rfl (ec 3 rfl (ec 6 rfl (ec 8 rfl (ec 75 rfl (ec 76 rfl (ec 77 rfl (ec 132 rfl en))))))))) (op (by (repeat (first | refine pc 0 rfl ?_ | refine pc 1 rfl ?_)); exact pl))
                · obtain ⟨i2, o2⟩ := q25_0
                  obtain rfl : o2 = none := by
                   cases o2 with
                   | none => rfl
                   | some k => exact Bool.noConfusion c134
                  dsimp only at hq25_0 ⊢
                  obtain ⟨rfl, hok2⟩ := hq25_0
                  refine tr_mapc (perm_at 1 rfl) (tr_perm (perm_at 2 rfl) (tr_perm (lv_close (X := [_, _, _, _, _, _, _, _]) hgk hlvk) (tr_exit (tx (tx (bh (nn (te (ec 2 rfl (ec 3 rfl (ec 8 rfl (ec 75 rfl (ec 76 rfl (ec 77 rfl en)))))) (rg (oP (pu_load_rawv (oT rfl) (by exact mA 3 rfl) y118) rfl ?_))))))))))
                  refine av rfl rfl (tn (bn (nn (te (ec 2 rfl (ec 3 rfl (ec 5 rfl (ec 75 rfl (ec 76 rfl (ec 77 rfl en)))))) (rg (oP (pad (oT rfl) ot (by omega)) rfl (mv rfl rfl (tn (nn ?_)))))))))
                  exact tg (k + 1, g9_0, ny, lvk.set k m) (hin.next hk hny (r4_done hE2s hmm)) (by show n.v.2.2.2.1.length - (k + 1) < n.v.2.2.2.1.length - k; omega) (ea (ec 77 rfl (ec 5 rfl en)) (ec 2 rfl (ec 3 rfl (ec 75 rfl (ec 76 rfl en))))) (op (by (repeat (first | refine pc 2 rfl ?_ | refine pc 4 rfl ?_ | refine pc 5 rfl ?_)); exact pd (pd (pd (pd (pl))))))
      · refine tr_exit (tx (tx (bh (nn (sq (te (ec 2 rfl (ec 5 rfl en)) ?_))))))
        obtain rfl : k = n.v.2.2.2.1.length := by have := hin.kle; simp only [decide_eq_false_iff_not] at c78; omega
        refine rg (oP (plv (oT rfl) (by exact mA 2 rfl) y128) rfl ?_)
        refine oP (pu_nilCheck_at (oT rfl)) rfl (oP (pu_faddr_at (oT rfl) ln0 y113) rfl (oP (pu_faddr_at (oT rfl) lv3 y39) rfl (oP (pL (oT rfl) y40) rfl (tr_as 153 (T := SlT kA n.v.2.2.2.1) (oT rfl) (oP (pls (oT rfl) Tryz.underlying23) rfl (av rfl rfl (tn (nn (sq (te (ec 2 rfl (ec 5 rfl (ec 18 rfl en))) ?_))))))))))
        have hgl := hok.gl
        have hll := hin.len
        have hgk : n.v.2.2.2.1.length < n.gl.length := by omega
        have hlvk : n.v.2.2.2.1.length < lvk.length := by omega
        have hmk := hin.here hlvk
        have hcn0 : CntOf ct (fun r => idB (proj (varsL n.v.2.2.2.1) n.v.2.2.1 r)) (lvk[n.v.2.2.2.1.length].map Prod.snd) := cnt_same (hok.rows _ (Nat.le_refl _)) hmk hok.cnt
        refine tr_mapx (perm_at 0 rfl) fun s3 => (tr_perm (lv_open (X := [_, _, _, _]) hgk hlvk) (rg (mv rfl rfl (oA (acts_range_map Tryz.underlying76 (oT rfl) (by exact mA 1 rfl)) pR rfl rfl (fun r31_1 hr31_1 => ?_)))))
        refine tn (nn (tb (tr_loopK (σ := IS × List Lab × Option Lab × Rw × List (Lab × Int)) (ec 2 rfl (ec 18 rfl (ec 156 rfl en))) (fun s => []) (fun s => (RanR r31_1.1 gfr s.1 :: RanM gfr encS kT.T fr s3 :: MapI n.gl[n.v.2.2.2.1.length] encS kT.T s.2.2.2.1 :: MapI n.gc encS kI.T s.2.2.2.2 :: BlkI g0_1 54 kE e :: BlkI g0_0 32 (kpt kNet) (some (netV n)) :: (lvI (n.gl.eraseIdx n.v.2.2.2.1.length) (lvk.eraseIdx n.v.2.2.2.1.length) ++ AlI n al'))) (fun s => RanOk fr s3 s.1 s.2.1 s.2.2.1 ∧ MapOf s.2.2.2.1 (R4 n.v.2.2.2.1 E E' n.v.2.2.2.1.length s.2.1) ∧ CntOf s.2.2.2.2 (fun r => idB (proj (varsL n.v.2.2.2.1) n.v.2.2.1 r)) (s.2.2.2.1.map Prod.snd)) (fun s => s.2.1.length) (r31_1.2, keys fr, none, lvk[n.v.2.2.2.1.length], ct) ⟨hr31_1, r4_start hmk hin.fr, hcn0⟩ ?_ (op (by (repeat (first | refine pc 0 rfl ?_ | refine pc 1 rfl ?_ | refine pc 2 rfl ?_)); exact pl)) ?_)))
        · exact en
        · rintro ⟨i, todo, cur, m, c⟩ ⟨hrk, hmm, hcn⟩
          dsimp only at hrk hmm hcn ⊢
          refine sq (te (ec 2 rfl (ec 18 rfl (ec 156 rfl en))) (rg (oA (acts_next_map (oT rfl) (by exact mA 1 rfl) (by exact pA 0 rfl) (by assumption)) (by exact pA 0 rfl) rfl rfl (fun q32_0 hq32_0 => ?_))))
          refine oP (pu_nextm (oT rfl)) rfl (tn (nn (sq (tc (oT rfl) (fun c158 => ?_) (fun c158 => ?_)))))
          · obtain ⟨i2, o2⟩ := q32_0
            obtain ⟨key, rfl⟩ : ∃ k, o2 = some k := by
             cases o2 with
             | none => exact Bool.noConfusion c158
             | some k => exact ⟨k, rfl⟩
            dsimp only at hq32_0 c158 ⊢
            obtain ⟨hkt, hok2⟩ := hq32_0
            obtain ⟨t, htv⟩ := lkp_key (hrk.sub _ hkt)
            obtain ⟨rfl, htn⟩ := hin.fr.lkp htv
            have hsm := sub_small hmm (fun u hu => r4_sub hE2s hu) hals'.nd hEl (Nat.le_refl _) hal8
            have hcb := cnt_bd hcn hsm (idB (proj (varsL n.v.2.2.2.1) n.v.2.2.1 t))
            have htl : t.length ≤ 16 := by rw [htn.1.1]; exact nv_len _ _ hal8
            have hvo : ∀ o ∈ n.v.2.2.1, ix (varsL n.v.2.2.2.1) o < t.length := fun o ho => by rw [htn.1.1, nv_all]; exact ix_lt (hov o ho)
            have hnk := r4_new hinE hE2s htn hkt hmm
            refine sk (nn (tb (sq (te (ec 2 rfl (ec 18 rfl (ec 156 rfl en))) (rg (oP (pu_entry_map (D := IsV _) (oT rfl) (by exact mA 0 rfl) (by exact mA 1 rfl) (by assumption) (by assumption) (fun H => rfl)) rfl ?_))))))
            refine oP (pu_extract (oT rfl) rfl) rfl (oP (pu_extract (oT rfl) rfl) rfl (av rfl rfl (av rfl rfl (tn (nn (sq (te (ec 2 rfl (ec 18 rfl (ec 19 rfl (ec 20 rfl (ec 156 rfl en))))) (rg (oP (plv (oT rfl) (by exact mA 5 rfl) y128) rfl ?_)))))))))
            refine oP (pu_nilCheck_at (oT rfl)) rfl (oP (pu_faddr_at (oT rfl) ln6 y116) rfl (oP (pL (oT rfl) y117) rfl (mv rfl rfl (oP (pu_index (oT rfl) (oT rfl) Tryz.underlying71 y118 (by omega) (by show ((n.v.2.2.2.1.length : Nat) : Int) < ((n.gl.map mp).length : Int); rw [List.length_map]; omega)) rfl ?_))))
            rw [show at' (netV n).2.2.2.2.2.2.1 ((n.v.2.2.2.1.length : Nat) : Int) = mp n.gl[n.v.2.2.2.1.length] from lv_at (by omega)]
            refine oP (pu_load_atraw (oT rfl) y118) rfl (mv rfl rfl (oP (pu_lookup_own2 mkS Tryz.underlying76 zT (oT rfl) (by exact mA 2 rfl) (oT rfl)) rfl ?_))
            refine mv rfl rfl (oP (pu_extract (oT rfl) rfl) rfl (oP (pu_extract (oT rfl) rfl) rfl (av rfl rfl (av rfl rfl (tn (nn (sq (te (ec 2 rfl (ec 18 rfl (ec 19 rfl (ec 20 rfl (ec 22 rfl (ec 156 rfl en)))))) (rg (mv rfl rfl (oP (pu_not (oT rfl)) rfl (tn (nn (tc (oT rfl) (fun c175 => ?_) (fun c175 => ?_)))))))))))))))
            · refine sq (te (ec 2 rfl (ec 18 rfl (ec 19 rfl (ec 20 rfl (ec 156 rfl en))))) (rg (oP (plv (oT rfl) (by exact mA 5 rfl) y128) rfl ?_)))
              refine oP (pu_nilCheck_at (oT rfl)) rfl (oP (pu_faddr_at (oT rfl) ln6 y116) rfl (oP (pL (oT rfl) y117) rfl (mv rfl rfl (oP (pu_index (oT rfl) (oT rfl) Tryz.underlying71 y118 (by omega) (by show ((n.v.2.2.2.1.length : Nat) : Int) < ((n.gl.map mp).length : Int); rw [List.length_map]; omega)) rfl ?_))))
              rw [show at' (netV n).2.2.2.2.2.2.1 ((n.v.2.2.2.1.length : Nat) : Int) = mp n.gl[n.v.2.2.2.1.length] from lv_at (by omega)]
              refine oP (pu_load_atraw (oT rfl) y118) rfl (mv rfl rfl (mv rfl rfl (oA (acts_update (v := t) (V := kT.T) mkS Tryz.underlying76 (oT rfl) (by exact pA 2 rfl) (oT rfl) (oT rfl)) (by exact pA 2 rfl) rfl rfl (fun _ _ => ?_))))
              refine tn (nn (te (ec 2 rfl (ec 18 rfl (ec 20 rfl (ec 156 rfl en)))) ?_))
              apply tr_any (m := 7) (ns := [[(2, none)], [(185, some 0)], [(186, some 1)], [(187, some 2)], [(2, none)], [(20, none)], [(189, some 4), (190, some 5)]]) (by kernel_rfl) (by kernel_rfl) (Ts := [_, _, _, _, _, _, _]) rfl
              case hops =>
               refine ⟨?_, ?_, ?_, ?_, ?_, ?_, ?_, trivial⟩
               · exact rP (plv (oT rfl) (by exact mA 5 rfl) y128)
               · exact rP (pu_nilCheck_at (oT rfl))
               · exact rP (pu_faddr_at (oT rfl) ln7 y119)
               · exact rP (pu_load_atraw (oT rfl) y120)
               · exact rP (plv (oT rfl) (by exact mA 5 rfl) y128)
               · exact rmv rfl
               · exact rop_acts rfl (aC (output_fn n t hvo (by omega)) y133 (oc (oT rfl) (oc (oT rfl) oN)) pR) (fun _ _ _ _ h => h)
              case h =>
               refine oP (pu_lookup_own mkS Tryz.underlying70 zI (oT rfl) (by exact mA 3 rfl) (oT rfl)) rfl ?_
               refine oP (pad (oT rfl) ot (by omega)) rfl (oA (acts_update (V := kI.T) mkS Tryz.underlying70 (oT rfl) (by exact pA 3 rfl) (oT rfl) (oT rfl)) (by exact pA 3 rfl) rfl rfl (fun _ _ => ?_))
               refine tn (bn (nn ?_))
               have hle : (ers todo (idB t)).length = todo.length - 1 := ers_len hkt
               have hpos := List.length_pos_of_mem hkt
               exact tg (i2, ers todo (idB t), some (idB t), ptk (idB t) t m, ptk (idB (proj (varsL n.v.2.2.2.1) n.v.2.2.1 t)) ((lkp (idB (proj (varsL n.v.2.2.2.1) n.v.2.2.1 t)) c).getD 0 + 1) c) ⟨hok2, r4_step hinE hE2s htn hrk.nd hkt hmm, (hcn.put t).perm (put_snd hnk).symm⟩ (by show (ers todo (idB t)).length < todo.length; omega) (ea en (ec 2 rfl (ec 18 rfl (ec 156 rfl en)))) (op (by (repeat (first | refine pc 0 rfl ?_ | refine pc 1 rfl ?_ | refine pc 2 rfl ?_)); exact pl))
            · exfalso
              rw [lkp_none.2 hnk] at c175
              cases c175 --done
          · obtain ⟨i2, o2⟩ := q32_0
            obtain rfl : o2 = none := by
             cases o2 with
             | none => rfl
             | some k => exact Bool.noConfusion c158
            dsimp only at hq32_0 ⊢
            obtain ⟨rfl, hok2⟩ := hq32_0
            refine tr_perm (perm_at 2 rfl) (tr_perm (lv_close (X := [_, _, _, _, _]) hgk hlvk) (tr_exit (tx (tx (bh ?_)))))
            exact ret_none .normal (.inr rfl) rfl (al', lvk.set n.v.2.2.2.1.length m, c) (fun _ => trivial) ⟨hals', hok.gl, (by show (lvk.set _ m).length = _; rw [List.length_set]; exact hin.len), ins_end hin (r4_done hE2s hmm), (by show CntOf c _ (((lvk.set _ m).getD _ []).map Prod.snd); rw [getD_set hlvk]; exact hcn)⟩ (by (repeat (refine pc 2 rfl ?_)); exact pd (pd (pd (pd (pl)))))
end Go.Proofs.YtaahhghlpoiihaaGreatDoor
/- What remove's loops have done so far. -/
namespace Go.Proofs.YtaahhghlpoiihaaGreatDoor
open Go Go.Gw Go.So Go.Tu Go.Jn Go.Nt
set_option linter.unusedVariables false
set_option linter.unusedSimpArgs false
section
variable {al : List Atm} {E E' : List Ed} {k : Nat} {e : Ed} {t : Tp} {todo : List Lab} {m : Rw}
def R5 (al : List Atm) (E : List Ed) (k : Nat) (e : Ed) (todo : List Lab) (s : Tp) : Prop := RowK al E k s ∧ (idB s ∈ todo ∨ usesB al k s e = false)
theorem r5_start (h : MapOf m (RowK al E k)) : MapOf m (R5 al E k e (keys m)) := h.congr fun s => ⟨fun h1 => ⟨h1, .inl (h.key.2 ⟨s, rfl, h1⟩)⟩, fun h1 => h1.1⟩
theorem r5_keep (hE : ∀ e ∈ E, inI e.1 ∧ inI e.2.2) (ht : RowK al E k t) (hn : todo.Nodup) (hu : usesB al k t e = false) (h : MapOf m (R5 al E k e todo)) : MapOf m (R5 al E k e (ers todo (idB t))) := h.congr fun s => by
 unfold R5
 rw [ers_mem hn]
 constructor
 · rintro ⟨h1, h2 | h2⟩
   · by_cases c : idB s = idB t
     · have := idB_inj (rowK_in hE h1) (rowK_in hE ht) c
       subst this; exact ⟨h1, .inr hu⟩
     · exact ⟨h1, .inl ⟨c, h2⟩⟩
   · exact ⟨h1, .inr h2⟩
 · rintro ⟨h1, h2 | h2⟩
   · exact ⟨h1, .inl h2.2⟩
   · exact ⟨h1, .inr h2⟩
theorem r5_del (hE : ∀ e ∈ E, inI e.1 ∧ inI e.2.2) (ht : RowK al E k t) (hn : todo.Nodup) (hu : usesB al k t e = true) (h : MapOf m (R5 al E k e todo)) : MapOf (dlk (idB t) m) (R5 al E k e (ers todo (idB t))) := (h.del (rowK_in hE ht) fun u hu => rowK_in hE hu.1).congr fun s => by
 unfold R5
 rw [ers_mem hn]
 constructor
 · rintro ⟨⟨h1, h2 | h2⟩, h3⟩
   · exact ⟨h1, .inl ⟨fun c => h3 (idB_inj (rowK_in hE h1) (rowK_in hE ht) c), h2⟩⟩
   · exact ⟨h1, .inr h2⟩
 · rintro ⟨h1, h2 | h2⟩
   · exact ⟨⟨h1, .inl h2.2⟩, fun c => h2.1 (by rw [c])⟩
   · exact ⟨⟨h1, .inr h2⟩, fun c => by subst c; rw [hu] at h2; cases h2⟩
theorem r5_done (hE : ∀ x, x ∈ E' ↔ x ∈ E ∧ x ≠ e) (h : MapOf m (R5 al E k e [])) : MapOf m (RowK al E' k) := h.congr fun s => by
 rw [rowK_less hE]
 unfold R5
 simp
theorem dlk_snd (h : lkp (idB t) m = some t) : (m.map Prod.snd).Perm (t :: (dlk (idB t) m).map Prod.snd) := (lkp_perm h).map Prod.snd
structure RemK (al : List Atm) (E E' : List Ed) (f : Tp → Lab) (k : Nat) (lv : List Rw) (c : List (Lab × Int)) : Prop where
 k1 : 1 ≤ k
 kle : k ≤ al.length + 1
 len : lv.length = al.length + 1
 rows : ∀ j, j ≤ al.length → MapOf (lv.getD j []) (fun t => (j < k ∧ RowK al E' j t) ∨ (¬ j < k ∧ RowK al E j t))
 cnt : CntOf c f ((lv.getD al.length []).map Prod.snd)
theorem RemK.here {f : Tp → Lab} {lv : List Rw} {c : List (Lab × Int)} (h : RemK al E E' f k lv c) (hk : k < lv.length) : MapOf lv[k] (RowK al E k) := by
 have h1 := h.rows k (by have := h.len; omega)
 rw [List.getD_eq_getElem?_getD, List.getElem?_eq_getElem hk] at h1
 exact h1.congr fun t => by simp
theorem RemK.next {f : Tp → Lab} {lv : List Rw} {c c' : List (Lab × Int)} (h : RemK al E E' f k lv c) (hk : k < al.length + 1) (hm : MapOf m (RowK al E' k)) (hc : CntOf c' f (((lv.set k m).getD al.length []).map Prod.snd)) : RemK al E E' f (k + 1) (lv.set k m) c' where
 k1 := by omega
 kle := by omega
 len := by rw [List.length_set]; exact h.len
 cnt := hc
 rows := fun j hj => by
  have hl := h.len
  by_cases c : j = k
  · subst c
    rw [List.getD_eq_getElem?_getD, List.getElem?_set_self (by omega)]
    exact hm.congr fun t => by simp
  · rw [List.getD_eq_getElem?_getD, List.getElem?_set_ne (Ne.symm c), ← List.getD_eq_getElem?_getD]
    refine (h.rows j hj).congr fun t => ?_
    have e : j < k ↔ j < k + 1 := by omega
    rw [e]
theorem rem_start {f : Tp → Lab} {lv : List Rw} {c : List (Lab × Int)} (hl : lv.length = al.length + 1) (h : ∀ k, k ≤ al.length → MapOf (lv.getD k []) (RowK al E k)) (hc : CntOf c f ((lv.getD al.length []).map Prod.snd)) : RemK al E E' f 1 lv c := ⟨Nat.le_refl _, by omega, hl, fun j hj => (h j hj).congr fun t => by
 by_cases e : j = 0
 · subst e; rw [rowK_zero, rowK_zero]; simp
 · have : ¬ j < 1 := by omega
   simp [this], hc⟩
theorem rem_end {f : Tp → Lab} {lv : List Rw} {c : List (Lab × Int)} (h : RemK al E E' f (al.length + 1) lv c) : ∀ k, k ≤ al.length → MapOf (lv.getD k []) (RowK al E' k) := fun j hj => (h.rows j hj).congr fun t => by
 have : j < al.length + 1 := by omega
 simp [this]
theorem set_ne {lv : List Rw} {k j : Nat} {m m' : Rw} (h : ¬ k = j) : (lv.set k m).getD j [] = (lv.set k m').getD j [] := by
 rw [List.getD_eq_getElem?_getD, List.getD_eq_getElem?_getD, List.getElem?_set_ne h, List.getElem?_set_ne h]
theorem get_put {s : Lab} {n : Int} {c : List (Lab × Int)} : (lkp s (ptk s n c)).getD 0 = n := by rw [lkp_put, if_pos rfl]; rfl
end
end Go.Proofs.YtaahhghlpoiihaaGreatDoor
/- Walks through the Go functions net.Net).remove, as typed contracts. -/
namespace Go.Proofs.YtaahhghlpoiihaaGreatDoor
open Go Go.Gw Go.So Go.Tu Go.Jn Go.Nt
set_option linter.unusedVariables false
set_option linter.unusedSimpArgs false

set_option maxHeartbeats 1000000 in
set_option maxRecDepth 20000 in
/-- (*rhizome/net.Net).remove -/
theorem remove_fn (n : NO) (al : AlM) (lv : List Rw) (ct : List (Lab × Int)) (E : List Ed) (e : Ed) (hv : okV n.v = true) (hok : NetOk n al lv ct E) (hin : e ∈ E) (hE9 : E.length ≤ 100) : Ct Tryz.prog 33 [AtT kNet (netV n), kE.T e] (NetI n al lv ct) (AlM × List Rw × List (Lab × Int)) (fun r => AnyT) (fun r => NetI n r.1 r.2.1 r.2.2) (fun r => NetOk n r.1 r.2.1 r.2.2 (lessE E e)) := by
 refine fn_intro Tryz.func33 rfl rfl ?_
 intro H w
 obtain ⟨ho6, ha1, hal8, hov⟩ := okV_lens hv
 have hals := hok.als
 obtain ⟨x, hlk⟩ : ∃ x, lkp e.2.1 al = some x := by
  cases hx : lkp e.2.1 al with
  | none => exact absurd rfl (hals.none_ _ hx e hin)
  | some x => exact ⟨x, rfl⟩
 have hxb := (hals.some_ _ _ hlk).b hals.nd (by omega)
 have hfl := hxb.f e.1
 have htl0 := hxb.t e.2.2
 have hE2 : ∀ y, y ∈ lessE E e ↔ y ∈ E ∧ y ≠ e := fun y => mem_less
 have hinE := hals.inE
 have hgl := hok.gl
 refine sq (te (ec 0 rfl (ec 1 rfl en)) (rg (oA (acts_box (d := kE) (oT rfl)) pR rfl rfl (fun g0_0 _ => ?_))))
 refine tn (nn (sq (te (ec 0 rfl (ec 3 rfl en)) ?_)))
 apply tr_any (m := 6) (ns := [[(0, none)], [(10, some 0)], [(11, some 1)], [(12, some 2)], [(3, none)], [(14, some 4)]]) (by kernel_rfl) (by kernel_rfl) (Ts := [_, _, _, _, _, _]) rfl
 case hops =>
  refine ⟨?_, ?_, ?_, ?_, ?_, ?_, trivial⟩
  · exact rmv rfl
  · exact rP (pu_nilCheck_at (oT rfl))
  · exact rP (pu_faddr_at (oT rfl) ln5 y106)
  · exact rP (pu_load_atraw (oT rfl) y107)
  · exact rP (pf (oT rfl) y57)
  · exact rP (plb (oT rfl) (by exact mA 0 rfl) le1 y36)
 case h =>
  refine oP (pu_lookup_own mkS Tryz.underlying69 zPA (oT rfl) (List.mem_cons_of_mem _ (List.mem_cons_of_mem _ (List.mem_append_right _ List.mem_cons_self))) (oT rfl)) rfl (av rfl rfl (tn ?_))
  rw [ptrsA_lkp, hlk]
  refine tr_as 4 (T := AtT kAl (ptA x)) (oT rfl) (tr_openA (X := [_, _]) (Y := lvI n.gl lv) e.1 e.2.2 hlk (nn (sq (te (ec 0 rfl (ec 3 rfl (ec 4 rfl en))) ?_))))
  apply tr_any (m := 9) (ns := [[(4, none)], [(17, some 0)], [(18, some 1)], [(19, some 2)], [(3, none)], [(21, some 4)], [(3, none)], [(23, some 6)], [(22, some 5), (24, some 7)]]) (by kernel_rfl) (by kernel_rfl) (Ts := [_, _, _, _, _, _, _, _, _]) rfl
  case hops =>
   refine ⟨?_, ?_, ?_, ?_, ?_, ?_, ?_, ?_, ?_, trivial⟩
   · exact rmv rfl
   · exact rP (pu_nilCheck_at (oT rfl))
   · exact rP (pu_faddr_at (oT rfl) lx2 y108)
   · exact rP (pu_load_atraw (oT rfl) y109)
   · exact rP (pf (oT rfl) y58)
   · exact rP (plb (oT rfl) (by exact mA 6 rfl) le0 y2)
   · exact rP (pf (oT rfl) y59)
   · exact rP (plb (oT rfl) (by exact mA 6 rfl) le2 y2)
   · exact rP (pu_build_arr (d := kPP) (v0 := (0, 0)) (agg := false) Tryz.underlying105 y2 zP rfl (fills_cons rfl Lens.p0 (oT rfl) (fills_cons rfl Lens.p1 (oT rfl) fills_nil)))
  case h =>
   refine oA (acts_delete mkP Tryz.underlying80 rfl (oT rfl) (by exact pA 0 rfl) (oT rfl)) (by exact pA 0 rfl) rfl rfl (fun _ _ => ?_)
   refine tn (nn (sq (te (ec 0 rfl (ec 3 rfl (ec 4 rfl en))) (rg (oP (pu_assign OT.func) rfl (tn (nn (sq (te (ec 0 rfl (ec 3 rfl (ec 4 rfl (ec 5 rfl en)))) ?_)))))))))
   apply tr_anyG (ρ := Value) (φ := fun rr => True) (p := 16) (Lf := fun c rr => cond c (OwnI 3 kI rr (fx e.2.2 ((lkp e.1 x.frm).getD (nilS, [])).2) :: MapI x.gh encP kbool.T (dlk (e.1, e.2.2) x.has) :: MapI x.gf encI IsV (hdV x.frm) :: MapI x.gt encI IsV (hdV x.to) :: OwnI 3 kI ((lkp e.2.2 (hdV x.to)).getD nilS) ((lkp e.2.2 x.to).getD (nilS, [])).2 :: MapI n.ga encS (kpt kAl).T (ptrsA al) :: BlkI g0_0 54 kE e :: MapI n.gc encS kI.T ct :: (lvI n.gl lv ++ tailA al e.2.1 x e.1 e.2.2)) (MapI x.gh encP kbool.T (dlk (e.1, e.2.2) x.has) :: MapI x.gf encI IsV (hdV x.frm) :: MapI x.gt encI IsV (hdV x.to) :: OwnI 3 kI ((lkp e.1 (hdV x.frm)).getD nilS) ((lkp e.1 x.frm).getD (nilS, [])).2 :: OwnI 3 kI ((lkp e.2.2 (hdV x.to)).getD nilS) ((lkp e.2.2 x.to).getD (nilS, [])).2 :: MapI n.ga encS (kpt kAl).T (ptrsA al) :: BlkI g0_0 54 kE e :: MapI n.gc encS kI.T ct :: (lvI n.gl lv ++ tailA al e.2.1 x e.1 e.2.2))) nilS (by kernel_rfl) (m := 17) (ns := [[(4, none)], [(26, some 0)], [(27, some 1)], [(28, some 2)], [(3, none)], [(30, some 4)], [(5, none)], [(4, none)], [(33, some 7)], [(34, some 8)], [(35, some 9)], [(3, none)], [(37, some 11)], [(36, some 10), (38, some 12)], [(3, none)], [(40, some 14)], [(32, some 6), (39, some 13), (41, some 15)]]) (by kernel_rfl) (by kernel_rfl) (Ts := fun rr => [_, _, _, _, _, _, _, _, _, _, _, _, _, _, _, _, IsV rr]) (fun _ => rfl)
   case hops =>
    refine ⟨?_, ?_, ?_, ?_, ?_, ?_, ?_, ?_, ?_, ?_, ?_, ?_, ?_, ?_, ?_, ?_, ?_, trivial⟩
    · exact ⟨by intro c r hc; cases c <;> exact rgo r rfl ⟨rfl, trivial⟩ (rmv rfl), fun _ _ _ _ => rfl⟩
    · exact ⟨by intro c r hc; cases c <;> exact rgo r rfl ⟨rfl, trivial⟩ (rP (pu_nilCheck_at (oT rfl))), fun _ _ _ _ => rfl⟩
    · exact ⟨by intro c r hc; cases c <;> exact rgo r rfl ⟨rfl, trivial⟩ (rP (pu_faddr_at (oT rfl) lx0 y121)), fun _ _ _ _ => rfl⟩
    · exact ⟨by intro c r hc; cases c <;> exact rgo r rfl ⟨rfl, trivial⟩ (rP (pu_load_atraw (oT rfl) y67)), fun _ _ _ _ => rfl⟩
    · exact ⟨by intro c r hc; cases c <;> exact rgo r rfl ⟨rfl, trivial⟩ (rP (pf (oT rfl) y58)), fun _ _ _ _ => rfl⟩
    · exact ⟨by intro c r hc; cases c <;> exact rgo r rfl ⟨rfl, trivial⟩ (rP (plb (oT rfl) (by exact mA 6 rfl) le0 y2)), fun _ _ _ _ => rfl⟩
    · exact ⟨cBf (by kernel_rfl) fun r _ => rgo r rfl ⟨rfl, trivial⟩ (rmv rfl), fun _ _ _ _ => rfl⟩
    · exact ⟨cBf (by kernel_rfl) fun r _ => rgo r rfl ⟨rfl, trivial⟩ (rmv rfl), fun _ _ _ _ => rfl⟩
    · exact ⟨cBf (by kernel_rfl) fun r _ => rgo r rfl ⟨rfl, trivial⟩ (rP (pu_nilCheck_at (oT rfl))), fun _ _ _ _ => rfl⟩
    · exact ⟨cBf (by kernel_rfl) fun r _ => rgo r rfl ⟨rfl, trivial⟩ (rP (pu_faddr_at (oT rfl) lx0 y121)), fun _ _ _ _ => rfl⟩
    · exact ⟨cBf (by kernel_rfl) fun r _ => rgo r rfl ⟨rfl, trivial⟩ (rP (pu_load_atraw (oT rfl) y67)), fun _ _ _ _ => rfl⟩
    · exact ⟨cBf (by kernel_rfl) fun r _ => rgo r rfl ⟨rfl, trivial⟩ (rP (pf (oT rfl) y58)), fun _ _ _ _ => rfl⟩
    · exact ⟨cBf (by kernel_rfl) fun r _ => rgo r rfl ⟨rfl, trivial⟩ (rP (plb (oT rfl) (by exact mA 6 rfl) le0 y2)), fun _ _ _ _ => rfl⟩
    · exact ⟨cBf (by kernel_rfl) fun r _ => rgo r rfl ⟨rfl, trivial⟩ (rP (pu_lookup_raw mkI Tryz.underlying79 (z0 := nilS) (by kernel_rfl) (oT rfl) (by exact mA 1 rfl) (oT rfl))), fun _ _ _ _ => rfl⟩
    · exact ⟨cBf (by kernel_rfl) fun r _ => rgo r rfl ⟨rfl, trivial⟩ (rP (pf (oT rfl) y59)), fun _ _ _ _ => rfl⟩
    · exact ⟨cBf (by kernel_rfl) fun r _ => rgo r rfl ⟨rfl, trivial⟩ (rP (plb (oT rfl) (by exact mA 6 rfl) le2 y2)), fun _ _ _ _ => rfl⟩
    · refine ⟨?_, ?_⟩
      · exact cBf (by kernel_rfl) fun r _ => ropg_acts rfl (acts_callv (oT rfl) (CtV.of0 (drop_fn ((lkp e.1 (hdV x.frm)).getD nilS) ((lkp e.1 x.frm).getD (nilS, [])).2 e.2.2 (by omega)) (by kernel_rfl)) (oc (oT rfl) (oc (oT rfl) oN)) (by exact pA 3 rfl)) (by exact pA 3 rfl) (fun r => pR) (fun _ _ _ => trivial) (fun _ _ _ _ h => h)
      · exact fun _ h => absurd h (by decide)
   case h =>
    intro v4_16 _
    refine oA (acts_update mkI Tryz.underlying79 (oT rfl) (by exact pA 2 rfl) (oT rfl) (oT rfl)) (by exact pA 2 rfl) rfl rfl (fun _ _ => ?_)
    refine tn (nn (sq (te (ec 0 rfl (ec 3 rfl (ec 4 rfl (ec 5 rfl en)))) ?_)))
    apply tr_anyG (ρ := Value) (φ := fun rr => True) (p := 16) (Lf := fun c rr => cond c (OwnI 3 kI rr (fx e.1 ((lkp e.2.2 x.to).getD (nilS, [])).2) :: MapI x.gf encI IsV (ptk e.1 v4_16 (hdV x.frm)) :: OwnI 3 kI v4_16 (fx e.2.2 ((lkp e.1 x.frm).getD (nilS, [])).2) :: MapI x.gh encP kbool.T (dlk (e.1, e.2.2) x.has) :: MapI x.gt encI IsV (hdV x.to) :: MapI n.ga encS (kpt kAl).T (ptrsA al) :: BlkI g0_0 54 kE e :: MapI n.gc encS kI.T ct :: (lvI n.gl lv ++ tailA al e.2.1 x e.1 e.2.2)) (MapI x.gf encI IsV (ptk e.1 v4_16 (hdV x.frm)) :: OwnI 3 kI v4_16 (fx e.2.2 ((lkp e.1 x.frm).getD (nilS, [])).2) :: MapI x.gh encP kbool.T (dlk (e.1, e.2.2) x.has) :: MapI x.gt encI IsV (hdV x.to) :: OwnI 3 kI ((lkp e.2.2 (hdV x.to)).getD nilS) ((lkp e.2.2 x.to).getD (nilS, [])).2 :: MapI n.ga encS (kpt kAl).T (ptrsA al) :: BlkI g0_0 54 kE e :: MapI n.gc encS kI.T ct :: (lvI n.gl lv ++ tailA al e.2.1 x e.1 e.2.2))) nilS (by kernel_rfl) (m := 17) (ns := [[(4, none)], [(43, some 0)], [(44, some 1)], [(45, some 2)], [(3, none)], [(47, some 4)], [(5, none)], [(4, none)], [(50, some 7)], [(51, some 8)], [(52, some 9)], [(3, none)], [(54, some 11)], [(53, some 10), (55, some 12)], [(3, none)], [(57, some 14)], [(49, some 6), (56, some 13), (58, some 15)]]) (by kernel_rfl) (by kernel_rfl) (Ts := fun rr => [_, _, _, _, _, _, _, _, _, _, _, _, _, _, _, _, IsV rr]) (fun _ => rfl)
    case hops =>
     refine ⟨?_, ?_, ?_, ?_, ?_, ?_, ?_, ?_, ?_, ?_, ?_, ?_, ?_, ?_, ?_, ?_, ?_, trivial⟩
     · exact ⟨by intro c r hc; cases c <;> exact rgo r rfl ⟨rfl, trivial⟩ (rmv rfl), fun _ _ _ _ => rfl⟩
     · exact ⟨by intro c r hc; cases c <;> exact rgo r rfl ⟨rfl, trivial⟩ (rP (pu_nilCheck_at (oT rfl))), fun _ _ _ _ => rfl⟩
     · exact ⟨by intro c r hc; cases c <;> exact rgo r rfl ⟨rfl, trivial⟩ (rP (pu_faddr_at (oT rfl) lx1 y122)), fun _ _ _ _ => rfl⟩
     · exact ⟨by intro c r hc; cases c <;> exact rgo r rfl ⟨rfl, trivial⟩ (rP (pu_load_atraw (oT rfl) y67)), fun _ _ _ _ => rfl⟩
     · exact ⟨by intro c r hc; cases c <;> exact rgo r rfl ⟨rfl, trivial⟩ (rP (pf (oT rfl) y59)), fun _ _ _ _ => rfl⟩
     · exact ⟨by intro c r hc; cases c <;> exact rgo r rfl ⟨rfl, trivial⟩ (rP (plb (oT rfl) (by exact mA 6 rfl) le2 y2)), fun _ _ _ _ => rfl⟩
     · exact ⟨cBf (by kernel_rfl) fun r _ => rgo r rfl ⟨rfl, trivial⟩ (rmv rfl), fun _ _ _ _ => rfl⟩
     · exact ⟨cBf (by kernel_rfl) fun r _ => rgo r rfl ⟨rfl, trivial⟩ (rmv rfl), fun _ _ _ _ => rfl⟩
     · exact ⟨cBf (by kernel_rfl) fun r _ => rgo r rfl ⟨rfl, trivial⟩ (rP (pu_nilCheck_at (oT rfl))), fun _ _ _ _ => rfl⟩
     · exact ⟨cBf (by kernel_rfl) fun r _ => rgo r rfl ⟨rfl, trivial⟩ (rP (pu_faddr_at (oT rfl) lx1 y122)), fun _ _ _ _ => rfl⟩
     · exact ⟨cBf (by kernel_rfl) fun r _ => rgo r rfl ⟨rfl, trivial⟩ (rP (pu_load_atraw (oT rfl) y67)), fun _ _ _ _ => rfl⟩
     · exact ⟨cBf (by kernel_rfl) fun r _ => rgo r rfl ⟨rfl, trivial⟩ (rP (pf (oT rfl) y59)), fun _ _ _ _ => rfl⟩
     · exact ⟨cBf (by kernel_rfl) fun r _ => rgo r rfl ⟨rfl, trivial⟩ (rP (plb (oT rfl) (by exact mA 6 rfl) le2 y2)), fun _ _ _ _ => rfl⟩
     · exact ⟨cBf (by kernel_rfl) fun r _ => rgo r rfl ⟨rfl, trivial⟩ (rP (pu_lookup_raw mkI Tryz.underlying79 (z0 := nilS) (by kernel_rfl) (oT rfl) (by exact mA 3 rfl) (oT rfl))), fun _ _ _ _ => rfl⟩
     · exact ⟨cBf (by kernel_rfl) fun r _ => rgo r rfl ⟨rfl, trivial⟩ (rP (pf (oT rfl) y58)), fun _ _ _ _ => rfl⟩
     · exact ⟨cBf (by kernel_rfl) fun r _ => rgo r rfl ⟨rfl, trivial⟩ (rP (plb (oT rfl) (by exact mA 6 rfl) le0 y2)), fun _ _ _ _ => rfl⟩
     · refine ⟨?_, ?_⟩
       · exact cBf (by kernel_rfl) fun r _ => ropg_acts rfl (acts_callv (oT rfl) (CtV.of0 (drop_fn ((lkp e.2.2 (hdV x.to)).getD nilS) ((lkp e.2.2 x.to).getD (nilS, [])).2 e.1 (by omega)) (by kernel_rfl)) (oc (oT rfl) (oc (oT rfl) oN)) (by exact pA 4 rfl)) (by exact pA 4 rfl) (fun r => pR) (fun _ _ _ => trivial) (fun _ _ _ _ h => h)
       · exact fun _ h => absurd h (by decide)
    case h =>
     intro v5_16 _
     refine oA (acts_update mkI Tryz.underlying79 (oT rfl) (by exact pA 4 rfl) (oT rfl) (oT rfl)) (by exact pA 4 rfl) rfl rfl (fun _ _ => ?_)
     refine tn (tr_perm (List.Perm.trans ((perm_at 4 rfl).trans (List.Perm.cons _ ((perm_at 2 rfl).trans (List.Perm.cons _ ((perm_at 0 rfl).trans (List.Perm.cons _ ((perm_at 1 rfl).trans (List.Perm.cons _ ((perm_at 0 rfl).trans (List.Perm.cons _ pR)))))))))) (close_A (X := [_, _]) (Y := lvI n.gl lv) hlk)) ?_)
     obtain ⟨al', hal'⟩ : ∃ m, (ptk e.2.1 (Al.mk x.gf x.gt x.gh (ptk e.1 (v4_16, (fx e.2.2 ((lkp e.1 x.frm).getD (nilS, [])).2)) x.frm) (ptk e.2.2 (v5_16, (fx e.1 ((lkp e.2.2 x.to).getD (nilS, [])).2)) x.to) (dlk (e.1, e.2.2) x.has)) al) = m := ⟨_, rfl⟩
     rw [hal']
     have hals' : AlsOk (lessE E e) n.v.2.2.2.1 al' := by rw [← hal']; exact hals.go hlk
     refine nn (sq (te (ec 0 rfl (ec 3 rfl en)) (rg (ak rfl (tn (nn (tb (tr_loopK (σ := Nat × List Rw × List (Lab × Int)) (ec 0 rfl (ec 3 rfl en)) (fun s => [(6, I64 (s.1 : Int))]) (fun s => (BlkI g0_0 54 kE e :: MapI n.gc encS kI.T s.2.2 :: (lvI n.gl s.2.1 ++ AlI n al'))) (fun s => RemK n.v.2.2.2.1 E (lessE E e) (fun r => idB (proj (varsL n.v.2.2.2.1) n.v.2.2.1 r)) s.1 s.2.1 s.2.2) (fun s => n.v.2.2.2.1.length + 1 - s.1) (1, lv, ct) (rem_start hok.lvl hok.rows hok.cnt) ?_ (op pl) ?_))))))))
     · exact (ec 6 rfl en)
     · rintro ⟨k, lvk, c⟩ hrm
       dsimp only at hrm ⊢
       refine sq (sq (te (ec 0 rfl (ec 3 rfl (ec 6 rfl en))) (rg (mv rfl rfl (mv rfl rfl (oP (pu_nilCheck_at (oT rfl)) rfl (oP (pu_faddr_at (oT rfl) ln6 y116) rfl (oP (pL (oT rfl) y117) rfl (tr_as 64 (T := SlT kraw (n.gl.map mp)) (oT rfl) (oP (pls (oT rfl) Tryz.underlying71) rfl (oP (pu_lss (oT rfl) (oT rfl)) rfl (tn (nn (tc (oT rfl) (fun c66 => ?_) (fun c66 => ?_)))))))))))))))
       · have hk1 := hrm.k1
         have hll := hrm.len
         have hgk : k < n.gl.length := by rw [List.length_map] at c66; simpa using c66
         have hlvk : k < lvk.length := by omega
         have hmk := hrm.here hlvk
         have hcn0 : CntOf c (fun r => idB (proj (varsL n.v.2.2.2.1) n.v.2.2.1 r)) (((lvk.set k lvk[k]).getD n.v.2.2.2.1.length []).map Prod.snd) := by rw [List.set_getElem_self]; exact hrm.cnt
         refine tr_perm (lv_open (X := [_, _]) hgk hlvk) (tr_mapx pR fun s0 => (sk (nn (sq (tb (sq (te (ec 0 rfl (ec 3 rfl (ec 6 rfl en))) (rg (mv rfl rfl (oP (pu_nilCheck_at (oT rfl)) rfl (oP (pu_faddr_at (oT rfl) ln6 y116) rfl (oP (pL (oT rfl) y117) rfl (mv rfl rfl (oP (pu_index (oT rfl) (oT rfl) Tryz.underlying71 y118 (by omega) (by show ((k : Nat) : Int) < ((n.gl.map mp).length : Int); rw [List.length_map]; omega)) rfl ?_))))))))))))))
         rw [show at' (netV n).2.2.2.2.2.2.1 ((k : Nat) : Int) = mp n.gl[k] from lv_at (by omega)]
         refine oP (pu_load_atraw (oT rfl) y118) rfl (oA (acts_range_map Tryz.underlying76 (oT rfl) (by exact mA 0 rfl)) pR rfl rfl (fun r9_7 hr9_7 => ?_))
         refine tn (nn (tb (tr_loopK (σ := IS × List Lab × Option Lab × Rw × MS × List (Lab × Int)) (ec 0 rfl (ec 3 rfl (ec 6 rfl (ec 76 rfl en)))) (fun s => []) (fun s => (RanR r9_7.1 n.gl[k] s.1 :: RanM n.gl[k] encS kT.T s.2.2.2.1 s.2.2.2.2.1 :: BlkI g0_0 54 kE e :: MapI n.gc encS kI.T s.2.2.2.2.2 :: (lvI (n.gl.eraseIdx k) (lvk.eraseIdx k) ++ AlI n al'))) (fun s => RanOk s.2.2.2.1 s.2.2.2.2.1 s.1 s.2.1 s.2.2.1 ∧ MapOf s.2.2.2.1 (R5 n.v.2.2.2.1 E k e s.2.1) ∧ CntOf s.2.2.2.2.2 (fun r => idB (proj (varsL n.v.2.2.2.1) n.v.2.2.1 r)) (((lvk.set k s.2.2.2.1).getD n.v.2.2.2.1.length []).map Prod.snd)) (fun s => s.2.1.length) (r9_7.2, keys lvk[k], none, lvk[k], s0, c) ⟨hr9_7, r5_start hmk, hcn0⟩ ?_ (op (by (repeat (refine pc 0 rfl ?_)); exact pl)) ?_)))
         · exact en
         · rintro ⟨i, todo, cur, m, s1, c⟩ ⟨hrk, hmm, hcn⟩
           dsimp only at hrk hmm hcn ⊢
           refine sq (te (ec 0 rfl (ec 3 rfl (ec 6 rfl (ec 76 rfl en)))) (rg (oA (acts_next_map (oT rfl) (by exact mA 1 rfl) (by exact pA 0 rfl) (by assumption)) (by exact pA 0 rfl) rfl rfl (fun q10_0 hq10_0 => ?_))))
           refine oP (pu_nextm (oT rfl)) rfl (tn (nn (sq (tc (oT rfl) (fun c78 => ?_) (fun c78 => ?_)))))
           · obtain ⟨i2, o2⟩ := q10_0
             obtain ⟨key, rfl⟩ : ∃ k, o2 = some k := by
              cases o2 with
              | none => exact Bool.noConfusion c78
              | some k => exact ⟨k, rfl⟩
             dsimp only at hq10_0 c78 ⊢
             obtain ⟨hkt, hok2⟩ := hq10_0
             obtain ⟨t, htv⟩ := lkp_key (hrk.sub _ hkt)
             obtain ⟨rfl, htn⟩ := hmm.lkp htv
             have hle : (ers todo (idB t)).length = todo.length - 1 := ers_len hkt
             have hpos := List.length_pos_of_mem hkt
             refine sk (nn (tb (sq (te (ec 0 rfl (ec 3 rfl (ec 6 rfl (ec 76 rfl en)))) (rg (oP (pu_entry_map (D := IsV _) (oT rfl) (by exact mA 0 rfl) (by exact mA 1 rfl) (by assumption) (by assumption) (fun H => rfl)) rfl ?_))))))
             refine oP (pu_extract (oT rfl) rfl) rfl (oP (pu_extract (oT rfl) rfl) rfl (av rfl rfl (av rfl rfl (tn (nn (sq (sq (te (ec 0 rfl (ec 3 rfl (ec 6 rfl (ec 7 rfl (ec 8 rfl (ec 76 rfl en)))))) (rg (mv rfl rfl (mv rfl rfl (mv rfl rfl (oP (plv (oT rfl) (by exact mA 2 rfl) y56) rfl ?_)))))))))))))
             refine oA (aC (uses_fn n k t e (by omega) htn.1.1 (by omega)) y134 (oc (oT rfl) (oc (oT rfl) (oc (oT rfl) (oc (oT rfl) oN)))) pR) pR rfl rfl (fun _ _ => ?_)
             refine oP (pu_not (oT rfl)) rfl (tn (nn (tc (oT rfl) (fun c87 => ?_) (fun c87 => ?_))))
             · have huse : usesB n.v.2.2.2.1 k t e = false := by simpa using c87
               refine tr_exit (tx (bh (nn ?_)))
               exact tg (i2, ers todo (idB t), some (idB t), m, s1, c) ⟨hok2, r5_keep hinE htn.1 hrk.nd huse hmm, hcn⟩ (by show (ers todo (idB t)).length < todo.length; omega) (ea en (ec 0 rfl (ec 3 rfl (ec 6 rfl (ec 76 rfl en))))) (op (by (repeat (refine pc 0 rfl ?_)); exact pl))
             · have huse : usesB n.v.2.2.2.1 k t e = true := by simpa using c87
               have hnin : idB t ∉ ers todo (idB t) := fun h => ((ers_mem hrk.nd).1 h).1 rfl
               refine sk (nn (sq (te (ec 0 rfl (ec 3 rfl (ec 6 rfl (ec 7 rfl (ec 8 rfl (ec 76 rfl en)))))) (rg (mv rfl rfl (oP (pu_nilCheck_at (oT rfl)) rfl (oP (pu_faddr_at (oT rfl) ln6 y116) rfl (oP (pL (oT rfl) y117) rfl (mv rfl rfl (oP (pu_index (oT rfl) (oT rfl) Tryz.underlying71 y118 (by omega) (by show ((k : Nat) : Int) < ((n.gl.map mp).length : Int); rw [List.length_map]; omega)) rfl ?_))))))))))
               rw [show at' (netV n).2.2.2.2.2.2.1 ((k : Nat) : Int) = mp n.gl[k] from lv_at (by omega)]
               refine oP (pu_load_atraw (oT rfl) y118) rfl (mv rfl rfl (oA (acts_delete_ran (k := idB t) mkS Tryz.underlying76 rfl (oT rfl) (by exact pA 1 rfl) (oT rfl)) (by exact pA 1 rfl) rfl rfl (fun s13_8 hs13_8 => ?_)))
               refine tn ?_
               have hok3 := hs13_8 _ _ _ hok2 hnin
               refine nn (sq (te (ec 0 rfl (ec 3 rfl (ec 6 rfl (ec 8 rfl (ec 76 rfl en))))) (rg (mv rfl rfl (mv rfl rfl (oP (pu_nilCheck_at (oT rfl)) rfl (oP (pu_faddr_at (oT rfl) ln0 y113) rfl (oP (pu_faddr_at (oT rfl) lv3 y39) rfl (oP (pL (oT rfl) y40) rfl (tr_as 101 (T := SlT kA n.v.2.2.2.1) (oT rfl) (oP (pls (oT rfl) Tryz.underlying23) rfl (oP (pu_eql (oT rfl) (oT rfl)) rfl (tn (nn (tc (oT rfl) (fun c103 => ?_) (fun c103 => ?_))))))))))))))))
               · obtain rfl : k = n.v.2.2.2.1.length := by have h9 := of_decide_eq_true c103; omega
                 rw [getD_set hlvk] at hcn
                 have htl : t.length = (varsL n.v.2.2.2.1).length := by rw [htn.1.1, nv_all]
                 have hvo : ∀ o ∈ n.v.2.2.1, ix (varsL n.v.2.2.2.1) o < t.length := fun o ho => by rw [htl]; exact ix_lt (hov o ho)
                 have hsm := sub_small hmm (fun u hu => hu.1) hals.nd hE9 (Nat.le_refl _) hal8
                 have hcb := cnt_bd hcn hsm (idB (proj (varsL n.v.2.2.2.1) n.v.2.2.1 t))
                 have hcd := (hcn.perm (dlk_snd htv)).del
                 dsimp only at hcd
                 refine sq (te (ec 0 rfl (ec 3 rfl (ec 6 rfl (ec 8 rfl (ec 76 rfl en))))) (rg (mv rfl rfl (mv rfl rfl (oA (aC (output_fn n t hvo (by omega)) y133 (oc (oT rfl) (oc (oT rfl) oN)) pR) pR rfl rfl (fun _ _ => ?_))))))
                 refine av rfl rfl (tn (nn (sq (te (ec 0 rfl (ec 3 rfl (ec 6 rfl (ec 9 rfl (ec 76 rfl en))))) (rg (mv rfl rfl (oP (pu_nilCheck_at (oT rfl)) rfl (oP (pu_faddr_at (oT rfl) ln7 y119) rfl (oP (pu_load_atraw (oT rfl) y120) rfl (mv rfl rfl (oP (pu_lookup_own mkS Tryz.underlying70 zI (oT rfl) (by exact mA 3 rfl) (oT rfl)) rfl ?_)))))))))))
                 refine oP (pu_sub' (oT rfl) ot (by omega)) rfl (oA (acts_update (V := kI.T) mkS Tryz.underlying70 (oT rfl) (by exact pA 3 rfl) (oT rfl) (oT rfl)) (by exact pA 3 rfl) rfl rfl (fun _ _ => ?_))
                 refine tn (nn (sq (te (ec 0 rfl (ec 3 rfl (ec 6 rfl (ec 9 rfl (ec 76 rfl en))))) (rg (mv rfl rfl (oP (pu_nilCheck_at (oT rfl)) rfl (oP (pu_faddr_at (oT rfl) ln7 y119) rfl (oP (pu_load_atraw (oT rfl) y120) rfl (mv rfl rfl (oP (pu_lookup_own mkS Tryz.underlying70 zI (oT rfl) (by exact mA 0 rfl) (oT rfl)) rfl ?_))))))))))
                 refine oP (pu_eql (oT rfl) ot) rfl (tn (nn (tc (oT rfl) (fun c120 => ?_) (fun c120 => ?_))))
                 · rw [get_put] at c120
                   rw [if_pos (of_decide_eq_true c120)] at hcd
                   refine te (ec 0 rfl (ec 3 rfl (ec 6 rfl (ec 9 rfl (ec 76 rfl en))))) (rg (mv rfl rfl (oP (pu_nilCheck_at (oT rfl)) rfl (oP (pu_faddr_at (oT rfl) ln7 y119) rfl (oP (pu_load_atraw (oT rfl) y120) rfl (mv rfl rfl (oA (acts_delete mkS Tryz.underlying70 rfl (oT rfl) (by exact pA 0 rfl) (oT rfl)) (by exact pA 0 rfl) rfl rfl (fun _ _ => ?_))))))))
                   refine tn (bn (nn ?_))
                   exact tg (i2, ers todo (idB t), none, dlk (idB t) m, s13_8, dlk (idB (proj (varsL n.v.2.2.2.1) n.v.2.2.1 t)) (ptk (idB (proj (varsL n.v.2.2.2.1) n.v.2.2.1 t)) ((lkp (idB (proj (varsL n.v.2.2.2.1) n.v.2.2.1 t)) c).getD 0 - 1) c)) ⟨hok3, r5_del hinE htn.1 hrk.nd huse hmm, (by show CntOf _ _ (((lvk.set _ (dlk (idB t) m)).getD _ []).map Prod.snd); rw [getD_set hlvk]; exact hcd)⟩ (by show (ers todo (idB t)).length < todo.length; omega) (ea en (ec 0 rfl (ec 3 rfl (ec 6 rfl (ec 76 rfl en))))) (op (by (repeat (first | refine pc 0 rfl ?_ | refine pc 1 rfl ?_ | refine pc 2 rfl ?_)); exact pl))
                 · rw [get_put] at c120
                   rw [if_neg (of_decide_eq_false c120)] at hcd
                   refine sk (bn (nn ?_))
                   exact tg (i2, ers todo (idB t), none, dlk (idB t) m, s13_8, ptk (idB (proj (varsL n.v.2.2.2.1) n.v.2.2.1 t)) ((lkp (idB (proj (varsL n.v.2.2.2.1) n.v.2.2.1 t)) c).getD 0 - 1) c) ⟨hok3, r5_del hinE htn.1 hrk.nd huse hmm, (by show CntOf _ _ (((lvk.set _ (dlk (idB t) m)).getD _ []).map Prod.snd); rw [getD_set hlvk]; exact hcd)⟩ (by show (ers todo (idB t)).length < todo.length; omega) (ea en (ec 0 rfl (ec 3 rfl (ec 6 rfl (ec 76 rfl en))))) (op (by (repeat (first | refine pc 0 rfl ?_ | refine pc 1 rfl ?_ | refine pc 2 rfl ?_)); exact pl))
               · have hkK : ¬ k = n.v.2.2.2.1.length := by have h9 := of_decide_eq_false c103; omega
                 refine sk (bn (nn ?_))
                 exact tg (i2, ers todo (idB t), none, dlk (idB t) m, s13_8, c) ⟨hok3, r5_del hinE htn.1 hrk.nd huse hmm, (by show CntOf _ _ (((lvk.set _ (dlk (idB t) m)).getD _ []).map Prod.snd); rw [set_ne (m' := m) hkK]; exact hcn)⟩ (by show (ers todo (idB t)).length < todo.length; omega) (ea en (ec 0 rfl (ec 3 rfl (ec 6 rfl (ec 76 rfl en))))) (op (by (repeat (first | refine pc 0 rfl ?_ | refine pc 1 rfl ?_)); exact pl))
           · obtain ⟨i2, o2⟩ := q10_0
             obtain rfl : o2 = none := by
              cases o2 with
              | none => rfl
              | some k => exact Bool.noConfusion c78
             dsimp only at hq10_0 ⊢
             obtain ⟨rfl, hok2⟩ := hq10_0
             refine tr_mapc (perm_at 1 rfl) (tr_perm (lv_close (X := [_, _, _]) hgk hlvk) (tr_exit (tx (tx (bh (bn (nn (te (ec 0 rfl (ec 3 rfl (ec 6 rfl en))) (rg (mv rfl rfl (oP (pad (oT rfl) ot (by omega)) rfl (av rfl rfl (tn (nn ?_))))))))))))))
             exact tg (k + 1, lvk.set k m, c) (hrm.next (by omega) (r5_done hE2 hmm) hcn) (by show n.v.2.2.2.1.length + 1 - (k + 1) < n.v.2.2.2.1.length + 1 - k; omega) (ea (ec 6 rfl en) (ec 0 rfl (ec 3 rfl en))) (op (by (repeat (refine pc 1 rfl ?_)); exact pd (pl)))
       · obtain rfl : k = n.v.2.2.2.1.length + 1 := by have := hrm.kle; rw [List.length_map] at c66; simp only [decide_eq_false_iff_not] at c66; omega
         refine tr_exit (tx (tx (bh ?_)))
         exact ret_none .normal (.inr rfl) rfl (al', lvk, c) (fun _ => trivial) ⟨hals', hok.gl, hrm.len, rem_end hrm, hrm.cnt⟩ (by (repeat (refine pc 1 rfl ?_)); exact pd (pl))
end Go.Proofs.YtaahhghlpoiihaaGreatDoor
/- What Do does to a net's edges; what is read of a net. -/
namespace Go.Gw
open Go
theorem op_mid {C : Cx} {Γ : Env} {L : List It} {o : Oper} {ops : Array Oper} {Q : Exit → Act → World → Prop} {rest : List Oper} {J : List It} {ρ : Type} {T : ρ → Ty} {I : ρ → List It} {φ : ρ → Prop} (X Z : List It) (hL : L = X ++ (J ++ Z)) (hp : Acts C Γ L o J ρ T I φ) (hg : o.guard = none) (hd : dstOk C.N o.dst = true)
 (h : ∀ r, φ r → Tr C (upd o.dst (T r) Γ) (X ++ (I r ++ Z)) (wpList C.P ops Q rest)) : Tr C Γ L (wpList C.P ops Q (o :: rest)) := by
 subst hL
 have e : ∀ Y : List It, (X ++ (Y ++ Z)).Perm (Y ++ (X ++ Z)) := fun Y => by
  have h1 : (X ++ Y).Perm (Y ++ X) := List.perm_append_comm
  have := h1.append_right Z
  simpa only [List.append_assoc] using this
 exact op_acts hp (e J) hg hd fun r hr => tr_perm (e _).symm (h r hr)
theorem perm_mid {X Y Z : List It} : (X ++ (Y ++ Z)).Perm (Y ++ (X ++ Z)) := by
 have h1 : (X ++ Y).Perm (Y ++ X) := List.perm_append_comm
 have := h1.append_right Z
 simpa only [List.append_assoc] using this
end Go.Gw
namespace Go.Proofs.YtaahhghlpoiihaaGreatDoor
open Go Go.Gw Go.So Go.Tu Go.Jn Go.Nt
set_option linter.unusedVariables false
set_option linter.unusedSimpArgs false
theorem len_sub {α : Type} [DecidableEq α] : ∀ {l m : List α}, l.Nodup → (∀ x ∈ l, x ∈ m) → l.length ≤ m.length
 | [], _, _, _ => by simp
 | x :: l, m, hn, h => by
  obtain ⟨h1, h2⟩ := List.nodup_cons.1 hn
  have hx := h x List.mem_cons_self
  have h3 := len_sub (m := m.erase x) h2 fun y hy => by
   have hne : y ≠ x := fun e => h1 (e ▸ hy)
   exact (List.mem_erase_of_ne hne).2 (h y (List.mem_cons_of_mem _ hy))
  rw [List.length_erase_of_mem hx] at h3
  have := List.length_pos_of_mem hx
  rw [List.length_cons]; omega
section
variable {n : NO} {al : AlM} {lv : List Rw} {ct : List (Lab × Int)} {E E' : List Ed}
theorem AlOk.congr {lab : Lab} {x : Al} (h : AlOk E lab x) (hE : ∀ x, x ∈ E ↔ x ∈ E') : AlOk E' lab x := ⟨fun u v => by rw [h.f, hE], h.fn, fun u v => by rw [h.t, hE], h.tn, fun p => by rw [h.h, hE], h.h1, h.hn⟩
theorem NetOk.congr (h : NetOk n al lv ct E) (hE : ∀ x, x ∈ E ↔ x ∈ E') (hn : E'.Nodup) : NetOk n al lv ct E' where
 als := ⟨hn, fun e he => h.als.inE e ((hE e).2 he), fun l x hx => (h.als.some_ l x hx).congr hE, fun l hl e he => h.als.none_ l hl e ((hE e).2 he), h.als.lab⟩
 gl := h.gl
 lvl := h.lvl
 rows := fun k hk => (h.rows k hk).congr fun t => rowK_congr hE
 cnt := h.cnt
def resL (v : Vw) (E : List Ed) : List Tp := setR (allOf v E)
theorem mem_all {v : Vw} {t : Tp} : t ∈ allOf v E ↔ ∃ r, RowK v.2.2.2.1 E v.2.2.2.1.length r ∧ proj (varsL v.2.2.2.1) v.2.2.1 r = t := by
 unfold allOf
 rw [List.mem_map]
 have h : ∀ r, r ∈ setR (rowsK (byLab E) (varsL v.2.2.2.1) v.2.2.2.1) ↔ RowK v.2.2.2.1 E v.2.2.2.1.length r := fun r => by
  rw [(setR_spec _).2, ← rowK_rows, List.take_length]
 exact ⟨fun ⟨r, h1, h2⟩ => ⟨r, (h r).1 h1, h2⟩, fun ⟨r, h1, h2⟩ => ⟨r, (h r).2 h1, h2⟩⟩
theorem NetOk.last (h : NetOk n al lv ct E) : MapOf (lv.getD n.v.2.2.2.1.length []) (RowK n.v.2.2.2.1 E n.v.2.2.2.1.length) := h.rows _ (Nat.le_refl _)
theorem NetOk.keys_ (h : NetOk n al lv ct E) (s : Lab) : s ∈ keys ct ↔ ∃ t ∈ allOf n.v E, idB t = s := by
 rw [h.cnt.key]
 constructor
 · rintro ⟨r, hr, rfl⟩; exact ⟨_, mem_all.2 ⟨r, (h.last.rows.2 r).1 hr, rfl⟩, rfl⟩
 · rintro ⟨t, ht, rfl⟩
   obtain ⟨r, hr, rfl⟩ := mem_all.1 ht
   exact ⟨r, (h.last.rows.2 r).2 hr, rfl⟩
theorem out_in {v : Vw} (hv : okV v = true) (hE : ∀ e ∈ E, inI e.1 ∧ inI e.2.2) {t : Tp} (ht : t ∈ allOf v E) : InT t ∧ t.length ≤ 22 := by
 obtain ⟨h6, _, _, hov⟩ := okV_lens hv
 obtain ⟨r, hr, rfl⟩ := mem_all.1 ht
 constructor
 · intro x hx
   obtain ⟨o, ho, rfl⟩ := List.mem_map.1 hx
   refine rowK_in hE hr _ ?_
   have h1 : ix (varsL v.2.2.2.1) o < r.length := by rw [hr.1, nv_all]; exact ix_lt (hov o ho)
   unfold env
   rw [List.getD_eq_getElem?_getD, List.getElem?_eq_getElem h1]; exact List.getElem_mem h1
 · unfold proj; rw [List.length_map]; omega
def manyB (v : Vw) (E : List Ed) : Bool := (List.range (v.2.2.2.1.length + 1)).any fun k => decide (3000 < (rowsK (byLab E) (varsL v.2.2.2.1) (v.2.2.2.1.take k)).length)
theorem many_iff {v : Vw} : manyB v E = true ↔ tooMany E v.2.2.2.1 := by
 unfold manyB tooMany
 rw [List.any_eq_true]
 simp only [List.mem_range, decide_eq_true_eq]
 exact ⟨fun ⟨k, h1, h2⟩ => ⟨k, by omega, h2⟩, fun ⟨k, h1, h2⟩ => ⟨k, by omega, h2⟩⟩
theorem many_no {v : Vw} {k : Nat} (h : manyB v E = false) (hk : k ≤ v.2.2.2.1.length) : (rowsK (byLab E) (varsL v.2.2.2.1) (v.2.2.2.1.take k)).length ≤ 3000 := by
 refine Nat.not_lt.1 fun h1 => ?_
 have := many_iff.2 ⟨k, hk, h1⟩
 rw [h] at this; cases this
theorem many_mono {v : Vw} (hE : ∀ x ∈ E, x ∈ E') (h : manyB v E = true) : manyB v E' = true := by
 obtain ⟨k, hk, h1⟩ := many_iff.1 h
 refine many_iff.2 ⟨k, hk, Nat.lt_of_lt_of_le h1 ?_⟩
 exact sub_len rowK_nodup (fun t ht => rowK_rows.2 (rowK_sub hE (rowK_rows.1 ht))) rowK_nodup
theorem many_congr {v : Vw} (hE : ∀ x, x ∈ E ↔ x ∈ E') : manyB v E = manyB v E' := by
 rw [Bool.eq_iff_iff]
 exact ⟨many_mono fun x => (hE x).1, many_mono fun x => (hE x).2⟩
theorem NetOk.lvlen (h : NetOk n al lv ct E) {k : Nat} (hk : k ≤ n.v.2.2.2.1.length) : (lv.getD k []).length = (rowsK (byLab E) (varsL n.v.2.2.2.1) (n.v.2.2.2.1.take k)).length := (h.rows k hk).len rowK_nodup fun t => rowK_rows
theorem NetOk.ctlen (h : NetOk n al lv ct E) (hm : manyB n.v E = false) : ct.length ≤ 100000 := by
 have h1 := len_sub (m := ((lv.getD n.v.2.2.2.1.length []).map Prod.snd).map fun r => idB (proj (varsL n.v.2.2.2.1) n.v.2.2.1 r)) h.cnt.1 fun s hs => by
  obtain ⟨r, hr, e⟩ := h.cnt.key.1 hs
  exact List.mem_map.2 ⟨r, hr, e⟩
 rw [List.length_map, List.length_map, h.lvlen (Nat.le_refl _)] at h1
 have h2 := many_no hm (Nat.le_refl _)
 unfold keys at h1; rw [List.length_map] at h1; omega
def lensL (v : Vw) (E : List Ed) : List Int := (List.range v.2.2.2.1.length).map fun k => ((rowsK (byLab E) (varsL v.2.2.2.1) (v.2.2.2.1.take (k + 1))).length : Int)
theorem NetOk.lens_ (h : NetOk n al lv ct E) : lens lv = lensL n.v E := by
 apply List.ext_getElem
 · rw [lens_len, lensL, List.length_map, List.length_range, h.lvl]; omega
 · intro i h1 h2
   have hi : i < n.v.2.2.2.1.length := by simpa [lensL] using h2
   have hl := h.lvl
   simp only [lens, lensL, List.getElem_map, List.getElem_tail, List.getElem_range]
   rw [← h.lvlen (by omega), getD_at (by omega)]
theorem max_many (v : Vw) (h1 : 1 ≤ v.2.2.2.1.length) : decide (3000 < maxL (lensL v E)) = manyB v E := by
 rw [Bool.eq_iff_iff, decide_eq_true_eq]
 constructor
 · intro h
   refine Classical.byContradiction fun hc => ?_
   have hb : manyB v E = false := by simpa using hc
   have := maxL_le (l := lensL v E) (b := 3000) (fun x hx => by
    obtain ⟨k, hk, rfl⟩ := List.mem_map.1 hx
    have hk2 := List.mem_range.1 hk
    have := many_no hb (k := k + 1) (by omega)
    omega) (by omega)
   omega
 · intro h
   obtain ⟨k, hk, h2⟩ := many_iff.1 h
   cases k with
   | zero => simp [rowsK] at h2
   | succ k =>
    have := le_maxL (l := lensL v E) (x := ((rowsK (byLab E) (varsL v.2.2.2.1) (v.2.2.2.1.take (k + 1))).length : Int)) (List.mem_map.2 ⟨k, List.mem_range.2 (by omega), rfl⟩)
    omega
def withoutE (E es : List Ed) : List Ed := E.filter fun x => decide (x ∉ es)
theorem mem_without {es : List Ed} {x : Ed} : x ∈ withoutE E es ↔ x ∈ E ∧ x ∉ es := by unfold withoutE; rw [List.mem_filter]; simp
def goE (E es : List Ed) (add : Bool) : List Ed := if add then E ++ es else withoutE E es
def lookC (E es : List Ed) (add : Bool) : Int := lookG (fun e => decide (e ∈ E)) add [] es
def doE (v : Vw) (E es : List Ed) (add : Bool) : List Ed × Dl × Int :=
 if lookC E es add = 0 then (if (add && manyB v (E ++ es)) = true then (E, ([], []), 5) else (goE E es add, diffR (resL v E) (resL v (goE E es add)))) else (E, ([], []), lookC E es add)
theorem look_zero {h : Ed → Bool} {add : Bool} : ∀ {es pre : List Ed}, lookG h add pre es = 0 → ∀ i (hi : i < es.length), h es[i] = !add ∧ es[i] ∉ pre ∧ es[i] ∉ es.take i
 | [], _, _, i, hi => by simp at hi
 | e :: es, pre, h0, i, hi => by
  unfold lookG at h0
  split at h0
  · cases h0
  · rename_i c1
    split at h0
    · cases h0
    · rename_i c2
      have ha : h e = !add := by cases add <;> cases he : h e <;> simp_all
      have hp : e ∉ pre := fun hm => c2 (by simp [hm])
      cases i with
      | zero => exact ⟨ha, hp, by simp⟩
      | succ i =>
       have hi' : i < es.length := by simpa using hi
       obtain ⟨h1, h2, h3⟩ := look_zero h0 i hi'
       rw [List.getElem_cons_succ, List.take_succ_cons]
       refine ⟨h1, fun hm => h2 (List.mem_append_left _ hm), fun hm => ?_⟩
       rcases List.mem_cons.1 hm with hm | hm
       · exact h2 (by rw [hm]; simp)
       · exact h3 hm
def atE (E es : List Ed) (add : Bool) (i : Nat) : List Ed := goE E (es.take i) add
theorem atE_zero {es : List Ed} {add : Bool} : atE E es add 0 = E := by
 unfold atE goE
 cases add
 · simp [withoutE]
 · simp
theorem atE_all {es : List Ed} {add : Bool} : atE E es add es.length = goE E es add := by unfold atE; rw [List.take_length]
theorem take_mem {es : List Ed} {i : Nat} (hi : i < es.length) {x : Ed} : x ∈ es.take (i + 1) ↔ x ∈ es.take i ∨ x = at' es (i : Int) := by
 rw [List.take_succ_eq_append_getElem hi, List.mem_append, List.mem_singleton, at'_nat hi]
theorem atE_less {es : List Ed} {i : Nat} (hi : i < es.length) (x : Ed) : x ∈ lessE (atE E es false i) (at' es (i : Int)) ↔ x ∈ atE E es false (i + 1) := by
 show x ∈ lessE (withoutE E (es.take i)) _ ↔ x ∈ withoutE E (es.take (i + 1))
 rw [mem_less, mem_without, mem_without, take_mem hi]
 constructor
 · rintro ⟨⟨h1, h2⟩, h3⟩; exact ⟨h1, fun h => h.elim h2 h3⟩
 · rintro ⟨h1, h2⟩; exact ⟨⟨h1, fun h => h2 (.inl h)⟩, fun h => h2 (.inr h)⟩
theorem atE_more {es : List Ed} {i : Nat} (hi : i < es.length) : atE E es true i ++ [at' es (i : Int)] = atE E es true (i + 1) := by
 show E ++ es.take i ++ _ = E ++ es.take (i + 1)
 rw [List.take_succ_eq_append_getElem hi, at'_nat hi, List.append_assoc]
theorem goE_nodup {es : List Ed} {add : Bool} (hE : E.Nodup) (h0 : lookC E es add = 0) (i : Nat) : (atE E es add i).Nodup := by
 unfold atE goE
 cases add with
 | false => exact hE.sublist List.filter_sublist
 | true =>
  simp only [if_true]
  have hz := look_zero h0
  refine List.nodup_append.2 ⟨hE, (List.pairwise_iff_getElem.2 fun a b ha hb hab e => ?_), fun x hx y hy e => ?_⟩
  · rw [List.getElem_take, List.getElem_take] at e
    rw [List.length_take] at hb
    refine (hz b (by omega)).2.2 ?_
    rw [← e]
    exact List.mem_take_iff_getElem.2 ⟨a, by omega, rfl⟩
  · subst e
    obtain ⟨j, hj, rfl⟩ := List.mem_take_iff_getElem.1 hy
    have h1 := (hz j (by omega)).1
    rw [decide_eq_true hx] at h1; cases h1
theorem back_less {es : List Ed} {j : Nat} (h0 : lookC E es true = 0) (hj : j < es.length) (x : Ed) : x ∈ lessE (atE E es true (j + 1)) (at' es (j : Int)) ↔ x ∈ atE E es true j := by
 show x ∈ lessE (E ++ es.take (j + 1)) _ ↔ x ∈ E ++ es.take j
 rw [mem_less, List.mem_append, List.mem_append, take_mem hj]
 obtain ⟨h1, _, h3⟩ := look_zero h0 j hj
 rw [at'_nat hj]
 have h2 : es[j] ∉ E := fun h => by rw [decide_eq_true h] at h1; cases h1
 constructor
 · rintro ⟨h | h | h, h5⟩
   · exact .inl h
   · exact .inr h
   · exact absurd h h5
 · rintro (h | h)
   · exact ⟨.inl h, fun e => h2 (e ▸ h)⟩
   · exact ⟨.inr (.inl h), fun e => h3 (e ▸ h)⟩
theorem atE_len {es : List Ed} {add : Bool} {i : Nat} : (atE E es add i).length ≤ E.length + es.length := by
 unfold atE goE
 split
 · rw [List.length_append, List.length_take]; omega
 · exact Nat.le_trans (List.length_filter_le _ _) (by omega)
end
end Go.Proofs.YtaahhghlpoiihaaGreatDoor
/- Walks through the Go functions tuple.Back, as typed contracts. -/
namespace Go.Proofs.YtaahhghlpoiihaaGreatDoor
open Go Go.Gw Go.So Go.Tu
set_option linter.unusedVariables false
set_option linter.unusedSimpArgs false
variable {K0 : FH} {n0 : Nat}
theorem kDF_T {N : Nat} {Γ : Env} {x : Operand} {v : Dl} (h : OT N Γ x ((kDF K0 n0).T v)) : OT N Γ x (kD.T v) := fun a H f => by
 obtain ⟨cs, ⟨c1, c2, e1, e2, e3⟩, hv⟩ := h a H f
 refine ⟨cs, ⟨c1, c2, ?_, ?_, e3⟩, hv⟩
 · obtain ⟨u, e4, e5⟩ := e1; exact ⟨u, e4, slt_weak (d := kF K0 n0) (e := kT) rfl cl_weak e5.1⟩
 · obtain ⟨u, e4, e5⟩ := e2; exact ⟨u, e4, slt_weak (d := kF K0 n0) (e := kT) rfl cl_weak e5.1⟩

end Go.Proofs.YtaahhghlpoiihaaGreatDoor
/- Walks through the Go functions net.Net).Do, as typed contracts. -/
namespace Go.Proofs.YtaahhghlpoiihaaGreatDoor
open Go Go.Gw Go.So Go.Tu Go.Jn Go.Nt
set_option linter.unusedVariables false
set_option linter.unusedSimpArgs false
theorem all_len {v : Vw} {E : List Ed} (hm : manyB v E = false) : (allOf v E).length ≤ 3000 := by
 unfold allOf
 rw [List.length_map]
 have h1 := setR_len (rowsK (byLab E) (varsL v.2.2.2.1) v.2.2.2.1)
 have h2 := many_no hm (Nat.le_refl _)
 rw [List.take_length] at h2; omega
theorem res_small {v : Vw} {E : List Ed} (hv : okV v = true) (hE : ∀ e ∈ E, inI e.1 ∧ inI e.2.2) (hm : manyB v E = false) : Small (resL v E) := by
 refine ⟨?_, fun t ht => ?_⟩
 · have h1 := setR_len (allOf v E)
   have h2 := all_len hm
   unfold resL; omega
 · have := (out_in hv hE (((setR_spec _).2 t).1 ht)).2; omega
theorem look_fun {E : List Ed} {atoms : List Atm} {al : AlM} (h : AlsOk E atoms al) (es : List Ed) (add : Bool) : lookG (hasA al) add [] es = lookC E es add := by
 unfold lookC
 rw [show hasA al = fun e => decide (e ∈ E) from funext fun e => h.has e]

set_option maxHeartbeats 1000000 in
set_option maxRecDepth 20000 in
/-- (*rhizome/net.Net).Do -/
theorem Do_fn (n : NO) (al : AlM) (lv : List Rw) (ct : List (Lab × Int)) (E es : List Ed) (add : Bool) (hv : okV n.v = true) (hok : NetOk n al lv ct E) (hmb : manyB n.v E = false) (hei : ∀ e ∈ es, inI e.1 ∧ inI e.2.2) (hEl : E.length + es.length ≤ 90) : Ct Tryz.prog 13 [AtT kNet (netV n), SlT kE es, BoolT add] (NetI n al lv ct) (AlM × List Rw × List (Lab × Int)) (fun r => TupT [kD.T (doE n.v E es add).2.1, I64 (doE n.v E es add).2.2]) (fun r => NetI n r.1 r.2.1 r.2.2) (fun r => NetOk n r.1 r.2.1 r.2.2 (doE n.v E es add).1) := by
 refine fn_intro Tryz.func13 rfl rfl ?_
 intro H w
 obtain ⟨ho6, ha1, hal8, hov⟩ := okV_lens hv
 have hlc := look_fun hok.als es add
 refine sq (te (ec 0 rfl (ec 1 rfl (ec 2 rfl en))) (rg (oA (acts_alloc (z44)) pR rfl rfl (fun g0_0 _ => ?_))))
 refine ak rfl (tn (nn (sq (sq (te (ec 0 rfl (ec 1 rfl (ec 2 rfl (ec 6 rfl en)))) (rg (mv rfl rfl (mv rfl rfl (mv rfl rfl (op_tail2 [_, _] (lvI n.gl lv) rfl (aC (look_fn n al es add (by omega)) y135 (oc (oT rfl) (oc (oT rfl) (oc (oT rfl) oN))) (perm_tail2 (X := [_, _]) (Y := lvI n.gl lv))) rfl rfl fun _ _ => (av rfl rfl (tn (nn (sq (te (ec 0 rfl (ec 1 rfl (ec 2 rfl (ec 6 rfl (ec 8 rfl en))))) ?_)))))))))))))))
 rw [hlc]
 refine rg (mv rfl rfl (oP (pu_neq (oT rfl) ot) rfl (tn (nn (tc (oT rfl) (fun c18 => ?_) (fun c18 => ?_))))))
 · have hc : ¬ lookC E es add = 0 := by simpa using c18
   have hd : doE n.v E es add = (E, ([], []), lookC E es add) := by unfold doE; rw [if_neg hc]
   rw [hd]
   refine sq (te (ec 6 rfl (ec 8 rfl en)) (rg (oP (pu_build (d := kD) (v0 := ([], [])) (ps := [(0, 1), (1, 1)]) z44 (by kernel_rfl) rfl fills_nil) rfl (mv rfl rfl (oA (asv (oT rfl) (oT rfl) (by exact pA 0 rfl) y80) (by exact pA 0 rfl) rfl rfl (fun _ _ => ?_))))))
   refine av rfl rfl (tn (nn (tR (tt ?_))))
   exact ret_cell_tmp .ret (.inl rfl) rfl (al, lv, ct) (oT rfl) (by exact mA 0 rfl) y80 (oT rfl) (fun _ _ h => h) hok (by (repeat (refine pc 1 rfl ?_)); exact pd (pl))
 · have hc : lookC E es add = 0 := by simpa using c18
   have hd0 : doE n.v E es add = (if (add && manyB n.v (E ++ es)) = true then (E, ([], []), 5) else (goE E es add, diffR (resL n.v E) (resL n.v (goE E es add)))) := by unfold doE; rw [if_pos hc]
   refine sk (nn (sq (te (ec 0 rfl (ec 1 rfl (ec 2 rfl (ec 6 rfl en)))) (rg (mv rfl rfl (oA (aC (NRead_fn n ct (allOf n.v E) hok.keys_ (fun t ht => out_in hv hok.als.inE ht) (hok.ctlen hmb)) y136 (oc (oT rfl) oN) (by exact pA 1 rfl)) (by exact pA 1 rfl) rfl rfl (fun _ _ => ?_)))))))
   refine av rfl rfl (tn (nn (sq (sq (te (ec 0 rfl (ec 1 rfl (ec 2 rfl (ec 6 rfl (ec 9 rfl en))))) (rg (mv rfl rfl (oP (pls (oT rfl) Tryz.underlying26) rfl (oP (pu_move ot) rfl (tn (nn (tb (tr_loopK (σ := Nat × AlM × List Rw × List (Lab × Int)) (ec 0 rfl (ec 1 rfl (ec 2 rfl (ec 6 rfl (ec 9 rfl (ec 23 rfl (ec 24 rfl en))))))) (fun s => [(25, I64 (s.1 : Int))]) (fun s => (BlkI g0_0 42 kD ([], []) :: NetI n s.2.1 s.2.2.1 s.2.2.2)) (fun s => s.1 ≤ es.length ∧ NetOk n s.2.1 s.2.2.1 s.2.2.2 (atE E es add s.1) ∧ manyB n.v (atE E es add s.1) = false) (fun s => es.length - s.1) (0, al, lv, ct) ⟨Nat.zero_le _, (by rw [atE_zero]; exact hok), (by rw [atE_zero]; exact hmb)⟩ ?_ (op (by (repeat (first | refine pc 0 rfl ?_ | refine pc 1 rfl ?_)); exact pl)) ?_)))))))))))))
   · exact (ec 25 rfl en)
   · rintro ⟨i, q⟩ ⟨hi, hin, hmi⟩
     dsimp only at hi hin hmi ⊢
     refine sq (te (ec 0 rfl (ec 1 rfl (ec 2 rfl (ec 6 rfl (ec 9 rfl (ec 23 rfl (ec 24 rfl (ec 25 rfl en)))))))) (rg (oP (pu_lss (oT rfl) (oT rfl)) rfl (tn (nn (sq (tc (oT rfl) (fun c26 => ?_) (fun c26 => ?_))))))))
     · refine sk (nn (sq (tb (sq (te (ec 0 rfl (ec 1 rfl (ec 2 rfl (ec 6 rfl (ec 9 rfl (ec 23 rfl (ec 24 rfl (ec 25 rfl en)))))))) ?_)))))
       have hil : i < es.length := by simpa using c26
       obtain ⟨e, hee⟩ : ∃ e, at' es (i : Int) = e := ⟨_, rfl⟩
       have hem : es[i] = e := by rw [← hee, at'_nat hil]
       obtain ⟨hz1, _, hz3⟩ := look_zero hc i hil
       have hel := atE_len (E := E) (es := es) (add := add) (i := i)
       refine rg (mv rfl rfl (oP (pu_index (oT rfl) (oT rfl) Tryz.underlying26 y56 (by omega) (by omega)) rfl (oP (pL (oT rfl) y56) rfl (oA (acts_alloc (zE)) pR rfl rfl (fun g7_3 _ => ?_)))))
       refine av rfl rfl (oA (asv (oT rfl) (oT rfl) (by exact pA 0 rfl) y56) (by exact pA 0 rfl) rfl rfl (fun _ _ => ?_))
       refine tn ?_
       rw [hee]
       refine nn (sq (sq (te (ec 0 rfl (ec 1 rfl (ec 2 rfl (ec 6 rfl (ec 9 rfl (ec 10 rfl (ec 11 rfl (ec 23 rfl (ec 24 rfl (ec 25 rfl en)))))))))) (rg (mv rfl rfl (oP (pu_not (oT rfl)) rfl (tn (nn (tc (oT rfl) (fun c31 => ?_) (fun c31 => ?_))))))))))
       · obtain rfl : add = false := by simpa using c31
         have hine : e ∈ atE E es false i := by
          rw [hem] at hz1 hz3
          exact mem_without.2 ⟨of_decide_eq_true hz1, hz3⟩
         refine sq (te (ec 0 rfl (ec 1 rfl (ec 2 rfl (ec 6 rfl (ec 9 rfl (ec 11 rfl (ec 23 rfl (ec 24 rfl (ec 25 rfl en))))))))) (rg (mv rfl rfl (oP (plv (oT rfl) (by exact mA 0 rfl) y56) rfl ?_))))
         refine op_tail [_, _] rfl (aC (remove_fn n q.1 q.2.1 q.2.2 (atE E es false i) e hv hin hine (by omega)) y137 (oc (oT rfl) (oc (oT rfl) oN)) (perm_tail (X := [_, _]))) rfl rfl fun m hm => (tn (nn (tr_exit (tx (bh (nn (te (ec 0 rfl (ec 1 rfl (ec 2 rfl (ec 6 rfl (ec 9 rfl (ec 23 rfl (ec 24 rfl (ec 25 rfl en)))))))) (rg (oP (pad (oT rfl) ot (by omega)) rfl (mv rfl rfl (tn (nn ?_))))))))))))
         exact tg (i + 1, m) ⟨(by show i + 1 ≤ es.length; omega), hm.congr (fun x => by rw [← hee]; exact atE_less hil x) (goE_nodup hok.als.nd hc _), (by
          have hx : ∀ x ∈ atE E es false (i + 1), x ∈ E := fun x hx => (mem_without.1 hx).1
          cases hb : manyB n.v (atE E es false (i + 1)) with
          | false => rfl
          | true => rw [many_mono hx hb] at hmb; cases hmb)⟩ (by show es.length - (i + 1) < es.length - i; omega) (ea (ec 25 rfl en) (ec 0 rfl (ec 1 rfl (ec 2 rfl (ec 6 rfl (ec 9 rfl (ec 23 rfl (ec 24 rfl en)))))))) (op (by (repeat (refine pc 1 rfl ?_)); exact pd (pl)))
       · obtain rfl : add = true := by simpa using c31
         have hne : e ∉ atE E es true i := by
          rw [hem] at hz1 hz3
          intro h
          rcases List.mem_append.1 h with h | h
          · rw [decide_eq_true h] at hz1; cases hz1
          · exact hz3 h
         have hie : inI e.1 ∧ inI e.2.2 := hei e (by rw [← hem]; exact List.getElem_mem hil)
         refine sk (nn (sq (te (ec 0 rfl (ec 1 rfl (ec 2 rfl (ec 6 rfl (ec 9 rfl (ec 10 rfl (ec 11 rfl (ec 23 rfl (ec 24 rfl (ec 25 rfl en)))))))))) (rg (mv rfl rfl (oP (plv (oT rfl) (by exact mA 0 rfl) y56) rfl ?_))))))
         refine op_tail [_, _] rfl (aC (insert_fn n q.1 q.2.1 q.2.2 (atE E es true i) e hv hin hne hie (by omega)) y138 (oc (oT rfl) (oc (oT rfl) oN)) (perm_tail (X := [_, _]))) rfl rfl fun m hm => (tn ?_)
         have hm2 : NetOk n m.1 m.2.1 m.2.2 (atE E es true (i + 1)) := by have h9 := hm; rw [← hee, atE_more hil] at h9; exact h9
         have hll := lens_len m.2.1
         have hlv := hm2.lvl
         have hgl := hm2.gl
         refine nn (sq (te (ec 0 rfl (ec 1 rfl (ec 2 rfl (ec 6 rfl (ec 9 rfl (ec 10 rfl (ec 23 rfl (ec 24 rfl (ec 25 rfl en))))))))) (rg (mv rfl rfl (op_mid [_, _, _] (AlI n m.1) rfl (aC (NLevels_fn n m.2.1 n.v.2.2.2.1.length hgl hlv (by omega)) y139 (oc (oT rfl) oN) (perm_mid (X := [_, _, _]) (Z := AlI n m.1))) rfl rfl fun _ _ => (oA (aC (Max_fn (lens m.2.1) (by omega) (by omega)) y140 (oc (oT rfl) oN) pR) pR rfl rfl (fun _ _ => ?_)))))))
         refine oP (pu_gtr (oT rfl) ot) rfl (tn (nn (tc (oT rfl) (fun c41 => ?_) (fun c41 => ?_))))
         · have hmany : manyB n.v (atE E es true (i + 1)) = true := by rw [← max_many n.v ha1, ← hm2.lens_]; exact c41
           have hmall : manyB n.v (E ++ es) = true := many_mono (fun x hx => (List.mem_append.1 hx).elim (List.mem_append_left _) fun h => List.mem_append_right _ ((List.take_subset _ _) h)) hmany
           have hd : doE n.v E es true = (E, ([], []), 5) := by rw [hd0, hmall]; rfl
           rw [hd]
           refine sq (sq (te (ec 0 rfl (ec 1 rfl (ec 6 rfl (ec 10 rfl en)))) (rg (mv rfl rfl (av rfl rfl (tn (nn (tb (tr_loopK (σ := Nat × AlM × List Rw × List (Lab × Int)) (ec 0 rfl (ec 1 rfl (ec 6 rfl en))) (fun s => [(12, I64 ((s.1 : Int) - 1))]) (fun s => (BlkI g7_3 54 kE e :: BlkI g0_0 42 kD ([], []) :: NetI n s.2.1 s.2.2.1 s.2.2.2)) (fun s => s.1 ≤ i + 1 ∧ NetOk n s.2.1 s.2.2.1 s.2.2.2 (atE E es true s.1)) (fun s => s.1) (i + 1, m) ⟨Nat.le_refl _, hm2⟩ ?_ (op (by (repeat (refine pc 0 rfl ?_)); exact pl)) ?_)))))))))
           · exact (es_cons (t := 12) (OT.val (oT rfl) (congrArg (Value.int _) (by show _ = ((i + 1 : Nat) : Int) - 1; omega))) en)
           · rintro ⟨j, p⟩ ⟨hj, hpk⟩
             dsimp only at hj hpk ⊢
             refine sq (sq (te (ec 0 rfl (ec 1 rfl (ec 6 rfl (ec 12 rfl en)))) (rg (mv rfl rfl (oP (pu_geq (oT rfl) ot) rfl (tn (nn (tc (oT rfl) (fun c44 => ?_) (fun c44 => ?_)))))))))
             · refine sk (nn (sq (tb (te (ec 0 rfl (ec 1 rfl (ec 6 rfl (ec 12 rfl en)))) ?_))))
               have hj1 : 1 ≤ j := by simp only [decide_eq_true_eq] at c44; omega
               obtain ⟨j', rfl⟩ : ∃ j', j = j' + 1 := ⟨j - 1, by omega⟩
               have hjl : j' < es.length := by omega
               have hjj : ((j' + 1 : Nat) : Int) - 1 = (j' : Int) := by omega
               rw [hjj]
               obtain ⟨e2, he2⟩ : ∃ e, at' es (j' : Int) = e := ⟨_, rfl⟩
               have hine2 : e2 ∈ atE E es true (j' + 1) := List.mem_append_right _ (by rw [← he2]; exact (take_mem hjl).2 (.inr rfl))
               have hel2 := atE_len (E := E) (es := es) (add := true) (i := j' + 1)
               refine rg (mv rfl rfl (mv rfl rfl (mv rfl rfl (oP (pu_index (oT rfl) (oT rfl) Tryz.underlying26 y56 (by omega) (by omega)) rfl (oP (pL (oT rfl) y56) rfl ?_)))))
               rw [he2]
               refine op_tail [_, _] rfl (aC (remove_fn n p.1 p.2.1 p.2.2 (atE E es true (j' + 1)) e2 hv hpk hine2 (by omega)) y137 (oc (oT rfl) (oc (oT rfl) oN)) (perm_tail (X := [_, _]))) rfl rfl fun u hu => (tn (bn (nn (te (ec 0 rfl (ec 1 rfl (ec 6 rfl (ec 12 rfl en)))) (rg (mv rfl rfl (oP (pu_sub' (oT rfl) ot (by omega)) rfl (av rfl rfl (tn (nn ?_))))))))))
               exact tg (j', u) ⟨(by show j' ≤ i + 1; omega), hu.congr (fun x => by rw [← he2]; exact back_less hc hjl x) (goE_nodup hok.als.nd hc _)⟩ (by show j' < j' + 1; omega) (ea (ec 12 rfl en) (ec 0 rfl (ec 1 rfl (ec 6 rfl en)))) (op (by (repeat (refine pc 0 rfl ?_)); exact pl))
             · refine tr_exit (tx (tx (bh (nn (sq (te (ec 6 rfl en) ?_))))))
               obtain rfl : j = 0 := by simp only [decide_eq_false_iff_not] at c44; omega
               refine rg (oP (pu_build (d := kD) (v0 := ([], [])) (ps := [(0, 1), (1, 1)]) z44 (by kernel_rfl) rfl fills_nil) rfl (oA (asv (oT rfl) (oT rfl) (by exact pA 1 rfl) y80) (by exact pA 1 rfl) rfl rfl (fun _ _ => ?_)))
               refine ak rfl (tn (nn (tR (block_ret (tt (tt (block_ret (tt ?_))))))))
               exact ret_cell_tmp .ret (.inl rfl) rfl p (oT rfl) (by exact mA 0 rfl) y80 (oT rfl) (fun _ _ h => h) (by have h9 := hpk; rw [atE_zero] at h9; exact h9) (by (repeat (refine pc 2 rfl ?_)); exact pd (pd (pl)))
         · have hno : manyB n.v (atE E es true (i + 1)) = false := by rw [← max_many n.v ha1, ← hm2.lens_]; exact c41
           refine sk (bn (nn (te (ec 0 rfl (ec 1 rfl (ec 2 rfl (ec 6 rfl (ec 9 rfl (ec 23 rfl (ec 24 rfl (ec 25 rfl en)))))))) (rg (oP (pad (oT rfl) ot (by omega)) rfl (mv rfl rfl (tn (nn ?_))))))))
           exact tg (i + 1, m) ⟨(by show i + 1 ≤ es.length; omega), hm2, hno⟩ (by show es.length - (i + 1) < es.length - i; omega) (ea (ec 25 rfl en) (ec 0 rfl (ec 1 rfl (ec 2 rfl (ec 6 rfl (ec 9 rfl (ec 23 rfl (ec 24 rfl en)))))))) (op (by (repeat (refine pc 1 rfl ?_)); exact pd (pl)))
     · refine tr_exit (tx (tx (bh (nn (sq (te (ec 0 rfl (ec 6 rfl (ec 9 rfl en))) ?_))))))
       obtain rfl : i = es.length := by simp only [decide_eq_false_iff_not] at c26; omega
       rw [atE_all] at hin hmi
       have hs1 := res_small hv hok.als.inE hmb
       have hs2 := res_small hv hin.als.inE hmi
       have hd : doE n.v E es add = (goE E es add, diffR (resL n.v E) (resL n.v (goE E es add))) := by
        rw [hd0, if_neg]
        cases add with
        | false => simp
        | true => rw [show manyB n.v (E ++ es) = false from hmi]; simp
       rw [hd]
       refine rg (mv rfl rfl (mv rfl rfl (oA (aC (NRead_fn n q.2.2 (allOf n.v (goE E es add)) hin.keys_ (fun t ht => out_in hv hin.als.inE ht) (hin.ctlen hmi)) y136 (oc (oT rfl) oN) (by exact pA 1 rfl)) (by exact pA 1 rfl) rfl rfl (fun _ _ => ?_))))
       refine oA (acts_callM (Diff_fn (K0 := noK) (n0 := 0) (resL n.v E) (resL n.v (goE E es add)) hs1 hs2) mk_none y141 (oc (oT rfl) (oc (oT rfl) oN)) pR) pR rfl rfl (fun _ _ => ?_)
       refine oP (pu_extract (oT rfl) rfl) rfl (oP (pu_extract (oT rfl) rfl) rfl (tr_as 59 (kDF_T (oT rfl)) (oA (asv (oT rfl) (oT rfl) (by exact pA 1 rfl) y80) (by exact pA 1 rfl) rfl rfl (fun _ _ => ?_))))
       refine av rfl rfl (tn ?_)
       skip
       refine nn (tR ?_)
       exact ret_cell_tmp .ret (.inl rfl) rfl q (oT rfl) (by exact mA 0 rfl) y80 (oT rfl) (fun _ _ h => h) hin (by (repeat (refine pc 1 rfl ?_)); exact pd (pl))
end Go.Proofs.YtaahhghlpoiihaaGreatDoor
/- A net that is being made: its variable with raw headers, frozen when all is set; a net without edges. -/
namespace Go.Gw
open Go Go.MapKept
theorem acts_insert {C : Cx} {Γ : Env} {L R : List It} {dst : Option Tmp} {ty : TypeId} {pos : String} {after : Array Edge} {guard : Option (Nat × Bool)} {x y z : Operand} {κ α : Type} [DecidableEq κ] {t kt et : TypeId} {K : Kd κ} {enc : κ → Value} {V : α → Ty} {m : List (κ × α)} {g : Nat} {k : κ} {v : α}
 (mk : MKey C.P kt K enc) (ht : C.P.underlying t = some (.map kt et)) (hx : OT C.N Γ x (IsV (mp g))) (hp : List.Perm L (MapI g enc V m :: R)) (hy : OT C.N Γ y (K.T k)) (hz : OT C.N Γ z (V v)) :
 Acts C Γ L ⟨dst, .insert t x y z, ty, pos, after, guard⟩ [MapI g enc V m] Unit (fun _ => AnyT) (fun _ => [MapI g enc V (ptk k v m)]) (fun _ => True) := by
 intro a w H f s ow Q K' hK
 have o' := ow.perm hp
 obtain ⟨es, clock, hb, hR⟩ := o'.all _ List.mem_cons_self
 have hown := o'.own g (blk_mem (i := MapI g enc V m) List.mem_cons_self rfl)
 have hxv : a.eval x = .map (some g) := hx a H f
 have hyv : a.eval y = enc k := mk.val (hy a H f)
 obtain ⟨es', clock', hr, hR'⟩ := run_update (k := k) mk ht hb hR (hz a H f)
 have hrun : (execOp a.eval ⟨dst, .insert t x y z, ty, pos, after, guard⟩).run C.P w = .ok .skip (setMap w g es' clock') := by simp [execOp, hxv, hyv, hr, Result.andThen]
 simp only [Oper.wp, hrun, Oper.upon_skip]
 refine hK () _ _ H trivial (st_map s.on hown.2.1 (blk_mem (i := MapI g enc V m) List.mem_cons_self rfl) _ _) trivial ?_
 exact owns_one (I := MapI g enc V m) rfl rfl ⟨_, _, map_heap hb, hR'⟩ o' (by simp)
end Go.Gw
namespace Go.Proofs.YtaahhghlpoiihaaGreatDoor
open Go Go.Gw Go.So Go.Tu Go.Jn Go.Nt
set_option linter.unusedVariables false
set_option linter.unusedSimpArgs false
abbrev RawV := Vw × List Lab × Value × Value × Value × Value × Value × Value
abbrev kR6 : Kd (Value × Value) := kpair kraw kraw
abbrev kR5 : Kd (Value × Value × Value) := kpair kraw kR6
abbrev kR4 : Kd (Value × Value × Value × Value) := kpair kraw kR5
abbrev kR3 : Kd (Value × Value × Value × Value × Value) := kpair kraw kR4
abbrev kR2 : Kd (Value × Value × Value × Value × Value × Value) := kpair kraw kR3
abbrev kR1 : Kd (List Lab × Value × Value × Value × Value × Value × Value) := kpair (ksl kS) kR2
abbrev kR : Kd RawV := kpair kV kR1
theorem lr0 {t : RawV} : Lens kR kV 0 t t.1 (fun y => (y, t.2)) := Lens.fst
theorem lr1 {t : RawV} : Lens kR (ksl kS) 5 t t.2.1 (fun y => (t.1, y, t.2.2)) := Lens.comp (Lens.snd (a := kV) (b := kR1)) (Lens.fst (a := ksl kS) (b := kR2))
theorem lr2 {t : RawV} : Lens kR kraw 6 t t.2.2.1 (fun y => (t.1, t.2.1, y, t.2.2.2)) := Lens.comp (Lens.snd (a := kV) (b := kR1)) (Lens.comp (Lens.snd (a := ksl kS) (b := kR2)) (Lens.fst (a := kraw) (b := kR3)))
theorem lr3 {t : RawV} : Lens kR kraw 7 t t.2.2.2.1 (fun y => (t.1, t.2.1, t.2.2.1, y, t.2.2.2.2)) := Lens.comp (Lens.snd (a := kV) (b := kR1)) (Lens.comp (Lens.snd (a := ksl kS) (b := kR2)) (Lens.comp (Lens.snd (a := kraw) (b := kR3)) (Lens.fst (a := kraw) (b := kR4))))
theorem lr4 {t : RawV} : Lens kR kraw 8 t t.2.2.2.2.1 (fun y => (t.1, t.2.1, t.2.2.1, t.2.2.2.1, y, t.2.2.2.2.2)) := Lens.comp (Lens.snd (a := kV) (b := kR1)) (Lens.comp (Lens.snd (a := ksl kS) (b := kR2)) (Lens.comp (Lens.snd (a := kraw) (b := kR3)) (Lens.comp (Lens.snd (a := kraw) (b := kR4)) (Lens.fst (a := kraw) (b := kR5)))))
theorem lr5 {t : RawV} : Lens kR kraw 9 t t.2.2.2.2.2.1 (fun y => (t.1, t.2.1, t.2.2.1, t.2.2.2.1, t.2.2.2.2.1, y, t.2.2.2.2.2.2)) := Lens.comp (Lens.snd (a := kV) (b := kR1)) (Lens.comp (Lens.snd (a := ksl kS) (b := kR2)) (Lens.comp (Lens.snd (a := kraw) (b := kR3)) (Lens.comp (Lens.snd (a := kraw) (b := kR4)) (Lens.comp (Lens.snd (a := kraw) (b := kR5)) (Lens.fst (a := kraw) (b := kR6))))))
theorem lr6 {t : RawV} : Lens kR kraw 10 t t.2.2.2.2.2.2.1 (fun y => (t.1, t.2.1, t.2.2.1, t.2.2.2.1, t.2.2.2.2.1, t.2.2.2.2.2.1, y, t.2.2.2.2.2.2.2)) := Lens.comp (Lens.snd (a := kV) (b := kR1)) (Lens.comp (Lens.snd (a := ksl kS) (b := kR2)) (Lens.comp (Lens.snd (a := kraw) (b := kR3)) (Lens.comp (Lens.snd (a := kraw) (b := kR4)) (Lens.comp (Lens.snd (a := kraw) (b := kR5)) (Lens.comp (Lens.snd (a := kraw) (b := kR6)) (Lens.fst (a := kraw) (b := kraw)))))))
theorem lr7 {t : RawV} : Lens kR kraw 11 t t.2.2.2.2.2.2.2 (fun y => (t.1, t.2.1, t.2.2.1, t.2.2.2.1, t.2.2.2.2.1, t.2.2.2.2.2.1, t.2.2.2.2.2.2.1, y)) := Lens.comp (Lens.snd (a := kV) (b := kR1)) (Lens.comp (Lens.snd (a := ksl kS) (b := kR2)) (Lens.comp (Lens.snd (a := kraw) (b := kR3)) (Lens.comp (Lens.snd (a := kraw) (b := kR4)) (Lens.comp (Lens.snd (a := kraw) (b := kR5)) (Lens.comp (Lens.snd (a := kraw) (b := kR6)) (Lens.snd (a := kraw) (b := kraw)))))))
theorem lr03 {t : RawV} : Lens kR (ksl kA) 3 t t.1.2.2.2.1 (fun y => ((t.1.1, t.1.2.1, t.1.2.2.1, y, t.1.2.2.2.2), t.2)) := Lens.comp lr0 lv3
abbrev zRV : RawV := (([], 0, [], [], []), [], nilS, nilS, nilS, .map none, nilS, .map none)
theorem zNetR : ZeroOf Tryz.prog 73 kR zRV := ⟨.agg #[.string (bs []), .int .i64 0, nilS, nilS, .string (bs []), nilS, nilS, nilS, nilS, .map none, nilS, .map none], by kernel_rfl, fun H =>
 ⟨[.string (bs []), .int .i64 0, nilS, nilS, .string (bs []), nilS, nilS, nilS, nilS, .map none, nilS, .map none],
  ⟨[.string (bs []), .int .i64 0, nilS, nilS, .string (bs [])], [nilS, nilS, nilS, nilS, .map none, nilS, .map none], ⟨[_], [_, _, _, _], rfl, ⟨[_], [_, _, _], rfl, ⟨[_], [_, _], ⟨nilS, rfl, nil_sl⟩, ⟨[_], [_], ⟨nilS, rfl, nil_sl⟩, rfl, rfl⟩, rfl⟩, rfl⟩, rfl⟩,
   ⟨[_], [_, _, _, _, _, _], ⟨nilS, rfl, nil_sl⟩, ⟨[_], [_, _, _, _, _], ⟨rfl, rfl⟩, ⟨[_], [_, _, _, _], ⟨rfl, rfl⟩, ⟨[_], [_, _, _], ⟨rfl, rfl⟩, ⟨[_], [_, _], ⟨rfl, rfl⟩, ⟨[_], [_], ⟨rfl, rfl⟩, ⟨rfl, rfl⟩, rfl⟩, rfl⟩, rfl⟩, rfl⟩, rfl⟩, rfl⟩, rfl⟩, rfl⟩⟩
theorem net_frz (g : Nat) (n : NO) (fv tv ov lv : Value) : Frz (BlkI g 73 kR (n.v, varsL n.v.2.2.2.1, fv, tv, ov, mp n.ga, lv, mp n.gc) :: OwnI 3 kI fv (fromL n.v.2.2.2.1) :: OwnI 3 kI tv (toL n.v.2.2.2.1) :: OwnI 3 kI ov (outL n.v) :: OwnI 76 kraw lv (n.gl.map mp) :: []) fun H => (AtT kNet (netV n)).p H (pt g 0) := by
 have h := (Frz.blk (g := g) (t := 73) (d := kR) (x := (n.v, varsL n.v.2.2.2.1, fv, tv, ov, mp n.ga, lv, mp n.gc))).cons Mono.ty
  ((Frz.own (t := 3) (d := kI) (v := fv) (xs := fromL n.v.2.2.2.1)).cons Mono.ty
   ((Frz.own (t := 3) (d := kI) (v := tv) (xs := toL n.v.2.2.2.1)).cons Mono.ty
    ((Frz.own (t := 3) (d := kI) (v := ov) (xs := outL n.v)).cons Mono.ty
     (Frz.own (t := 76) (d := kraw) (v := lv) (xs := n.gl.map mp)))))
 refine Frz.imp h ?_
 rintro H ⟨q1, q2, q3, q4, q5⟩
 refine AtT.conv q1 ?_
 rintro cs ⟨c1, d1, k1, ⟨c2, d2, k2, ⟨c3, d3, k3, ⟨c4, d4, k4, ⟨c5, d5, k5, ⟨c6, d6, k6, ⟨c7, d7, k7, k8, rfl⟩, rfl⟩, rfl⟩, rfl⟩, rfl⟩, rfl⟩, rfl⟩
 exact ⟨c1, _, k1, ⟨c2, _, k2, ⟨c3, _, ⟨fv, k3.1, q2⟩, ⟨c4, _, ⟨tv, k4.1, q3⟩, ⟨c5, _, ⟨ov, k5.1, q4⟩, ⟨c6, _, k6, ⟨c7, d7, ⟨lv, k7.1, q5⟩, k8, rfl⟩, rfl⟩, rfl⟩, rfl⟩, rfl⟩, rfl⟩, rfl⟩
def lvN (k : Nat) : List Rw := [([], [])] :: List.replicate k []
theorem lvI_snoc : ∀ {gl : List Nat} {lv : List Rw} {g : Nat} {m : Rw}, gl.length = lv.length → (MapI g encS kT.T m :: lvI gl lv).Perm (lvI (gl ++ [g]) (lv ++ [m]))
 | [], [], _, _, _ => List.Perm.refl _
 | [], _ :: _, _, _, h => by cases h
 | _ :: _, [], _, _, h => by cases h
 | a :: gl, b :: lv, g, m, h => (List.Perm.swap _ _ _).trans ((lvI_snoc (gl := gl) (lv := lv) (by simpa using h)).cons _)
theorem lvN_snoc (k : Nat) : lvN k ++ [[]] = lvN (k + 1) := by
 unfold lvN
 rw [List.cons_append, ← List.replicate_succ']
theorem lvN_len (k : Nat) : (lvN k).length = k + 1 := by unfold lvN; rw [List.length_cons, List.length_replicate]
theorem als_nil : AlsOk [] [] [] := ⟨List.nodup_nil, fun e he => (by cases he), fun l x hx => (by cases hx), fun l hl e he => (by cases he), fun a ha => (by cases ha)⟩
theorem als_more {al : List Atm} {k : Nat} {a : Atm} {m : AlM} (h : AlsOk [] (al.take k) m) (hk : k < al.length) (ha : at' al (k : Int) = a) (hs : (lkp a.2.1 m).isSome = true) : AlsOk [] (al.take (k + 1)) m := ⟨h.nd, h.inE, h.some_, h.none_, fun b hb => by
 rw [List.take_succ_eq_append_getElem hk] at hb
 rcases List.mem_append.1 hb with hb | hb
 · exact h.lab b hb
 · rw [(by simpa using hb : b = al[k]), ← at'_nat hk, ha]; exact hs⟩
theorem als_new {al : List Atm} {k : Nat} {a : Atm} {m : AlM} {gf gt gh : Nat} (h : AlsOk [] (al.take k) m) (hk : k < al.length) (ha : at' al (k : Int) = a) (hn : lkp a.2.1 m = none) : AlsOk [] (al.take (k + 1)) (ptk a.2.1 ⟨gf, gt, gh, [], [], []⟩ m) :=
 als_more (h.alpha ⟨ptk_some, .inr ⟨hn, gf, gt, gh, rfl⟩⟩) hk ha ptk_some
theorem rowK_none {al : List Atm} {k : Nat} {t : Tp} (h0 : 0 < k) (hk : k ≤ al.length) : ¬ RowK al [] k t := fun h => by
 have hl : 0 < al.length := by omega
 have := h.2 al[0] (List.mem_take_iff_getElem.2 ⟨0, by omega, rfl⟩)
 cases this
theorem net_start {n : NO} {m : AlM} (hgl : n.gl.length = n.v.2.2.2.1.length + 1) (h1 : 1 ≤ n.v.2.2.2.1.length) (h : AlsOk [] n.v.2.2.2.1 m) : NetOk n m (lvN n.v.2.2.2.1.length) [] [] where
 als := h
 gl := hgl
 lvl := lvN_len _
 rows := fun k hk => by
  cases k with
  | zero => exact MapOf.one.congr fun t => rowK_zero.symm
  | succ k =>
   have e : (lvN n.v.2.2.2.1.length).getD (k + 1) [] = [] := by
    unfold lvN
    rw [List.getD_cons_succ, List.getD_eq_getElem?_getD, List.getElem?_replicate]
    split <;> rfl
   rw [e]
   exact MapOf.nil.congr fun t => ⟨fun h => h.elim, fun h => absurd h (rowK_none (by omega) hk)⟩
 cnt := by
  obtain ⟨k, hk⟩ : ∃ k, n.v.2.2.2.1.length = k + 1 := ⟨n.v.2.2.2.1.length - 1, by omega⟩
  have e : (lvN n.v.2.2.2.1.length).getD n.v.2.2.2.1.length [] = [] := by
   rw [hk]; unfold lvN
   rw [List.getD_cons_succ, List.getD_eq_getElem?_getD, List.getElem?_replicate]
   split <;> rfl
  rw [e]; exact CntOf.nil
def onceE (l : List Ed) : List Ed := l.foldl (fun out e => if e ∈ out then out else out ++ [e]) []
theorem once_at {l : List Ed} {j : Nat} (h : j < l.length) : onceE (l.take (j + 1)) = if at' l (j : Int) ∈ onceE (l.take j) then onceE (l.take j) else onceE (l.take j) ++ [at' l (j : Int)] := by
 unfold onceE
 rw [List.take_succ_eq_append_getElem h, List.foldl_append, at'_nat h]; rfl
theorem once_mem {l : List Ed} {x : Ed} : x ∈ onceE l ↔ x ∈ l := by
 have : ∀ (l out : List Ed), x ∈ l.foldl (fun out e => if e ∈ out then out else out ++ [e]) out ↔ x ∈ out ∨ x ∈ l := by
  intro l
  induction l with
  | nil => intro out; simp
  | cons e l ih =>
   intro out
   rw [List.foldl_cons, ih, List.mem_cons]
   split
   · rename_i h
     constructor
     · rintro (h1 | h1)
       · exact .inl h1
       · exact .inr (.inr h1)
     · rintro (h1 | rfl | h1)
       · exact .inl h1
       · exact .inl h
       · exact .inr h1
   · rw [List.mem_append, List.mem_singleton]
     constructor
     · rintro ((h1 | h1) | h1)
       · exact .inl h1
       · exact .inr (.inl h1)
       · exact .inr (.inr h1)
     · rintro (h1 | h1 | h1)
       · exact .inl (.inl h1)
       · exact .inl (.inr h1)
       · exact .inr h1
 unfold onceE
 rw [this]; simp
theorem once_len (l : List Ed) : (onceE l).length ≤ l.length := by
 have : ∀ (l out : List Ed), (l.foldl (fun out e => if e ∈ out then out else out ++ [e]) out).length ≤ out.length + l.length := by
  intro l
  induction l with
  | nil => intro out; simp
  | cons e l ih =>
   intro out
   rw [List.foldl_cons, List.length_cons]
   refine Nat.le_trans (ih _) ?_
   split
   · omega
   · rw [List.length_append, List.length_singleton]; omega
 have h := this l []
 unfold onceE; simpa using h
theorem from_step {al : List Atm} {k : Nat} {a : Atm} (hk : k < al.length) (ha : at' al (k : Int) = a) : (fromL al).take (k + 1) = (fromL al).take k ++ [ixI (varsL al) a.1] := by
 have hm : a ∈ al := by rw [← ha, at'_nat hk]; exact List.getElem_mem hk
 rw [List.take_succ_eq_append_getElem (by rw [fromL_len]; exact hk), ← at'_nat (by rw [fromL_len]; exact hk), from_at hk ha, ixI_in (varsL_mem.2 ⟨a, hm, .inl rfl⟩)]
theorem to_step {al : List Atm} {k : Nat} {a : Atm} (hk : k < al.length) (ha : at' al (k : Int) = a) : (toL al).take (k + 1) = (toL al).take k ++ [ixI (varsL al) a.2.2] := by
 have hm : a ∈ al := by rw [← ha, at'_nat hk]; exact List.getElem_mem hk
 rw [List.take_succ_eq_append_getElem (by rw [toL_len]; exact hk), ← at'_nat (by rw [toL_len]; exact hk), to_at hk ha, ixI_in (varsL_mem.2 ⟨a, hm, .inr rfl⟩)]
theorem out_step2 {v : Vw} {k : Nat} {o : Lab} (hk : k < v.2.2.1.length) (ho : at' v.2.2.1 (k : Int) = o) (hin : o ∈ varsL v.2.2.2.1) : (outL v).take (k + 1) = (outL v).take k ++ [ixI (varsL v.2.2.2.1) o] := by
 rw [List.take_succ_eq_append_getElem (by rw [outL_len]; exact hk), ← at'_nat (by rw [outL_len]; exact hk), out_at hk, ho, ixI_in hin]
end Go.Proofs.YtaahhghlpoiihaaGreatDoor
namespace Go.Proofs.YtaahhghlpoiihaaGreatDoor
open Go Go.Gw Go.So Go.Tu Go.Jn Go.Nt
set_option linter.unusedVariables false
theorem new_perm {A B D F X1 X2 X3 : It} {v : Value} {gs : List Nat} {g g' k : Nat} {Z : List It} (h : (g' :: gs).length = (lvN k).length) :
 (A :: OwnI 76 kraw v (List.map mp (g' :: gs) ++ [mp g]) :: MapI g encS kT.T [] :: B :: D :: F :: X1 :: X2 :: X3 :: (lvI (g' :: gs) (lvN k) ++ Z)).Perm
  (A :: D :: B :: OwnI 76 kraw v (List.map mp (g' :: (gs ++ [g]))) :: F :: X1 :: X2 :: X3 :: (lvI (g' :: (gs ++ [g])) (lvN (k + 1)) ++ Z)) := by
 have e : List.map mp (g' :: gs) ++ [mp g] = List.map mp (g' :: (gs ++ [g])) := by simp
 rw [e, ← lvN_snoc]
 have h1 := (lvI_snoc (g := g) (m := []) h).append_right Z
 refine List.Perm.cons _ ?_
 have h2 : ∀ (O M : It) (W V : List It), (M :: W).Perm V → (O :: M :: B :: D :: F :: X1 :: X2 :: X3 :: W).Perm (D :: B :: O :: F :: X1 :: X2 :: X3 :: V) := fun O M W V hV => by
  have a1 : ([O, M] ++ [B, D, F, X1, X2, X3]).Perm ([D, B, O, F, X1, X2, X3] ++ [M]) := by
   refine (List.perm_append_comm (l₁ := [O, M]) (l₂ := [B, D, F, X1, X2, X3])).trans ?_
   refine ((perm_at 1 rfl).trans (List.Perm.cons _ ((perm_at 0 rfl).trans (List.Perm.cons _ ((perm_at 4 rfl).trans (List.Perm.cons _ (List.Perm.refl _)))))))
  have a2 := a1.append_right W
  refine List.Perm.trans (by simpa only [List.append_assoc, List.cons_append, List.nil_append] using a2) ?_
  exact List.Perm.append_left [D, B, O, F, X1, X2, X3] hV
 exact h2 _ _ _ _ h1
theorem new_own {ga gf gt gh : Nat} {lab : Lab} {m : AlM} (X : List It) {Y : List It} (h : lkp lab m = none) : Picks (MapI ga encS (kpt kAl).T (ptk lab (some (mp gf, mp gt, mp gh)) (ptrsA m)) :: MapI gf encI IsV [] :: MapI gt encI IsV [] :: MapI gh encP kbool.T [] :: (X ++ (Y ++ alsI m)))
 (X ++ (MapI ga encS (kpt kAl).T (ptrsA (ptk lab ⟨gf, gt, gh, [], [], []⟩ m)) :: (Y ++ alsI (ptk lab ⟨gf, gt, gh, [], [], []⟩ m)))) := by
 rw [ptrsA_ptk]
 refine picks_perm ?_
 have h1 : (MapI gf encI IsV [] :: MapI gt encI IsV [] :: MapI gh encP kbool.T [] :: alsI m).Perm (alsI (ptk lab ⟨gf, gt, gh, [], [], []⟩ m)) := by
  refine List.Perm.trans ?_ alsI_back
  rw [dlk_none (lkp_none.1 h)]
  exact List.Perm.refl _
 refine List.Perm.trans ?_ ((((h1.append_left Y).cons (MapI ga encS (kpt kAl).T (ptk lab (some (ptA ⟨gf, gt, gh, [], [], []⟩)) (ptrsA m)))).append_left X))
 have h2 : ∀ a b c d : It, ((a :: b :: c :: d :: (X ++ (Y ++ alsI m)))).Perm (X ++ (a :: (Y ++ (b :: c :: d :: alsI m)))) := fun a b c d => by
  have e1 : ([a] ++ ([b, c, d] ++ (X ++ Y))).Perm ([a] ++ ((X ++ Y) ++ [b, c, d])) := List.Perm.append_left _ List.perm_append_comm
  have e2 : (([a] ++ X) ++ (Y ++ [b, c, d])).Perm ((X ++ [a]) ++ (Y ++ [b, c, d])) := List.Perm.append_right _ List.perm_append_comm
  have e3 := e1.append_right (alsI m)
  have e4 := e2.append_right (alsI m)
  simp only [List.append_assoc, List.cons_append, List.nil_append] at e3 e4
  exact e3.trans e4
 exact h2 _ _ _ _
theorem net_perm {A B C D E : It} {Z : List It} : (A :: B :: C :: D :: E :: Z).Perm ((A :: C :: D :: B :: E :: []) ++ Z) := by
 refine List.Perm.cons _ ?_
 exact (List.Perm.swap _ _ _).trans ((List.Perm.swap _ _ _).cons _)
theorem new_perm2 {A B C : It} {Y Z : List It} : (A :: B :: C :: (Y ++ Z)).Perm (B :: A :: (Y ++ (C :: Z))) := by
 refine (List.Perm.swap _ _ _).trans ((List.Perm.cons _ ?_).cons _)
 exact List.perm_middle.symm
end Go.Proofs.YtaahhghlpoiihaaGreatDoor
/- Walks through the Go functions api.Atom], net.New, as typed contracts. -/
namespace Go.Proofs.YtaahhghlpoiihaaGreatDoor
open Go Go.Gw Go.So Go.Tu Go.Jn Go.Nt
set_option linter.unusedVariables false
set_option linter.unusedSimpArgs false
/-- What New tells. -/
abbrev NewR := Option (NO × AlM × List Rw × List (Lab × Int)) × Int
def newI (r : NewR) : List It := match r.1 with
 | none => []
 | some x => NetI x.1 x.2.1 x.2.2.1 x.2.2.2
def NewSay (v : Vw) (es : List Ed) (r : NewR) : Prop := (r.1 = none ∧ r.2 ≠ 0 ∧ ResSay v es ([], [], r.2)) ∨ ∃ n m lv ct, r = (some (n, m, lv, ct), 0) ∧ n.v = v ∧ okV v = true ∧ ¬ tooMany es v.2.2.2.1 ∧ NetOk n m lv ct (onceE es)
theorem res_ok {v : Vw} {l : List Ed} {r : List Tp × List Int × Int} (h : ResSay v l r) (h0 : r.2.2 = 0) : okV v = true ∧ ¬ tooMany l v.2.2.2.1 := by
 rcases h with ⟨h1, rfl⟩ | ⟨h1, h2, rfl⟩ | ⟨h1, h2, rfl⟩
 · cases h0
 · cases h0
 · exact ⟨h1, h2⟩
theorem res_no {v : Vw} {l : List Ed} {r : List Tp × List Int × Int} (h : ResSay v l r) (h0 : ¬ r.2.2 = 0) : ResSay v l ([], [], r.2.2) := by
 rcases h with ⟨h1, rfl⟩ | ⟨h1, h2, rfl⟩ | ⟨h1, h2, rfl⟩
 · exact .inl ⟨h1, rfl⟩
 · exact .inr (.inl ⟨h1, h2, rfl⟩)
 · exact absurd rfl h0

set_option maxRecDepth 20000 in
/-- slices.Clone[[]rhizome/api.Atom,rhizome/api.Atom] -/
theorem CloneA_fn (xs : List Atm) (hm : xs.length ≤ 1000000) : Ct Tryz.prog 26 [SlT kA xs] ([]) Unit (fun _ => SlT kA xs) (fun _ => []) (fun _ => True) := by
 refine fn_intro Tryz.func26 rfl rfl ?_
 intro H w
 refine sq (te (ec 0 rfl en) (rg (ak rfl (tn (nn (sq (sq (te (ec 0 rfl en) (rg (mv rfl rfl (oA (acts_isnil (oT rfl) Tryz.underlying23) pR rfl rfl (fun b1 hb1 => ?_))))))))))))
 refine tn (nn (tc (oT rfl) (fun c4 => ?_) (fun c4 => ?_)))
 · try simp only [cq] at c4
   obtain rfl := hb1 c4
   refine sq (te en (rg (ak rfl (tn (nn (tR (tt ?_)))))))
   exact ret_one .ret (.inl rfl) rfl () (OT.conv (oT rfl) (fun H u h => nil_slt h)) trivial (by exact pn)
 · try simp only [cq] at c4
   refine sk (nn (sq (te (ec 0 rfl en) (rg (oA (acts_lit_own (d := kA) (v0 := ([], [], [])) y142 y41 zA (show 0 * 3 ≤ 16777216 from by decide) (by decide) fills_nil) pR rfl rfl (fun v3_0 _ => ?_))))))
   refine mv rfl rfl (oA (acts_append (oT rfl) (by exact pA 0 rfl) (oT rfl) y142 (by (simp; omega)) (by (simp [maxLen]; omega))) (by exact pA 0 rfl) rfl rfl (fun v3_2 _ => ?_))
   refine av rfl rfl (tn (tr_freeze (perm_at 0 rfl) 2 (oT rfl) (nn (tR ?_))))
   exact ret_one .ret (.inl rfl) rfl () (oT rfl) trivial (by exact pn)
set_option maxHeartbeats 1000000 in
set_option maxRecDepth 20000 in
/-- rhizome/net.New -/
theorem New_fn (v : Vw) (es : List Ed) (ho0 : v.2.2.1.length ≤ maxLen) (ha0 : v.2.2.2.1.length ≤ maxLen) (hm : es.length ≤ 80) (hei : ∀ e ∈ es, inI e.1 ∧ inI e.2.2) : Ct Tryz.prog 10 [kV.T v, SlT kE es] ([]) NewR (fun r => TupT [PtrT kNet (r.1.map fun x => netV x.1), I64 r.2]) (fun r => newI r) (NewSay v es) := by
 refine fn_intro Tryz.func10 rfl rfl ?_
 intro H w
 have ho := ho0; have ha := ha0; unfold maxLen at ho ha
 refine sq (te (ec 0 rfl (ec 1 rfl en)) (rg (oA (acts_box (d := kV) (oT rfl)) pR rfl rfl (fun g0_0 _ => ?_))))
 refine ak rfl (ak rfl (tn (nn (sq (sq (te (ec 1 rfl (ec 2 rfl en)) (rg (oP (plv (oT rfl) (by exact mA 0 rfl) y53) rfl ?_))))))))
 refine mv rfl rfl (oA (aC (Result_fn _ _ ho0 ha0 (by omega)) y143 (oc (oT rfl) (oc (oT rfl) oN)) pR) pR rfl rfl (fun r1_2 hr1_2 => ?_))
 refine mv rfl rfl (oP (pu_extract (oT rfl) rfl) rfl (oP (pu_extract (oT rfl) rfl) rfl (oP (pu_extract (oT rfl) rfl) rfl (av rfl rfl (av rfl rfl (av rfl rfl (tn (nn (sq (te (ec 1 rfl (ec 2 rfl (ec 8 rfl en))) (rg (mv rfl rfl (oP (pu_neq (oT rfl) ot) rfl (tn (nn (tc (oT rfl) (fun c24 => ?_) (fun c24 => ?_)))))))))))))))))
 · have hc : ¬ r1_2.2.2 = 0 := by simpa using c24
   refine sq (te (ec 8 rfl en) (rg (mv rfl rfl (ak rfl (av rfl rfl (tn (nn (tR (tt ?_)))))))))
   exact ret_two .ret (.inl rfl) rfl (none, r1_2.2.2) (oT rfl) (oT rfl) (fun _ _ h => h) (.inl ⟨rfl, hc, res_no hr1_2 hc⟩) pn
 · obtain ⟨hv, hnm⟩ := res_ok hr1_2 (by simpa using c24)
   obtain ⟨ho6, ha1, hal8, hov⟩ := okV_lens hv
   have hvl := varsL_len v.2.2.2.1
   refine sk (nn (sq (te (ec 1 rfl (ec 2 rfl en)) ?_)))
   apply tr_anyS (ρ := Nat × Nat) (ψ := fun _ _ => True) (ups := fun i r r' => cond (Nat.beq i 3) (r'.2 = r.2) (cond (Nat.beq i 4) (r'.1 = r.1) (True))) (ps := [3, 4]) (Lf := fun c rr => cond (c.getD 0 false) (cond (c.getD 1 false) (MapI rr.1 encS (kpt kAl).T [] :: MapI rr.2 encS kI.T [] :: BlkI g0_0 25 kV v :: []) (MapI rr.1 encS (kpt kAl).T [] :: BlkI g0_0 25 kV v :: [])) (cond (c.getD 1 false) (MapI rr.2 encS kI.T [] :: BlkI g0_0 25 kV v :: []) (BlkI g0_0 25 kV v :: []))) (0, 0) trivial (by kernel_rfl) (by kernel_rfl) (m := 5) (ns := [[(2, none)], [(2, none)], [(27, some 1)], [], []]) (by kernel_rfl) (Ts := fun rr => [_, _, _, IsV (mp rr.1), IsV (mp rr.2)]) (fun _ => rfl)
   case hops =>
    refine ⟨?_, ?_, ?_, ?_, ?_, trivial⟩
    · exact ⟨⟨[[false, false], [true, false], [false, true], [true, true]], by kernel_rfl, fun rr hrr => rgo rr rfl ⟨hrr, rfl⟩ (rP (plv (oT rfl) (by exact mA 0 rfl) y53)), fun rr hrr => rgo rr rfl ⟨hrr, rfl⟩ (rP (plv (oT rfl) (by exact mA 1 rfl) y53)), fun rr hrr => rgo rr rfl ⟨hrr, rfl⟩ (rP (plv (oT rfl) (by exact mA 1 rfl) y53)), fun rr hrr => rgo rr rfl ⟨hrr, rfl⟩ (rP (plv (oT rfl) (by exact mA 2 rfl) y53)), trivial⟩, ⟨fun _ _ _ _ => rfl, fun _ _ _ _ => rfl, trivial⟩⟩
    · exact ⟨⟨[[false, false], [true, false], [false, true], [true, true]], by kernel_rfl, fun rr hrr => rgo rr rfl ⟨hrr, rfl⟩ (rP (plv (oT rfl) (by exact mA 0 rfl) y53)), fun rr hrr => rgo rr rfl ⟨hrr, rfl⟩ (rP (plv (oT rfl) (by exact mA 1 rfl) y53)), fun rr hrr => rgo rr rfl ⟨hrr, rfl⟩ (rP (plv (oT rfl) (by exact mA 1 rfl) y53)), fun rr hrr => rgo rr rfl ⟨hrr, rfl⟩ (rP (plv (oT rfl) (by exact mA 2 rfl) y53)), trivial⟩, ⟨fun _ _ _ _ => rfl, fun _ _ _ _ => rfl, trivial⟩⟩
    · exact ⟨⟨[[false, false], [true, false], [false, true], [true, true]], by kernel_rfl, fun rr hrr => rgo rr rfl ⟨hrr, rfl⟩ (rop_acts rfl (aC (Vars_fn _ (by omega)) y54 (oc (oT rfl) oN) pR) (fun _ _ _ _ h => h)), fun rr hrr => rgo rr rfl ⟨hrr, rfl⟩ (rop_acts rfl (aC (Vars_fn _ (by omega)) y54 (oc (oT rfl) oN) pR) (fun _ _ _ _ h => h)), fun rr hrr => rgo rr rfl ⟨hrr, rfl⟩ (rop_acts rfl (aC (Vars_fn _ (by omega)) y54 (oc (oT rfl) oN) pR) (fun _ _ _ _ h => h)), fun rr hrr => rgo rr rfl ⟨hrr, rfl⟩ (rop_acts rfl (aC (Vars_fn _ (by omega)) y54 (oc (oT rfl) oN) pR) (fun _ _ _ _ h => h)), trivial⟩, ⟨fun _ _ _ _ => rfl, fun _ _ _ _ => rfl, trivial⟩⟩
    · refine ⟨⟨[[false, false], [false, true]], by kernel_rfl, ⟨?_, ⟨?_, trivial⟩⟩⟩, ?_⟩
      · intro rr hrr; exact rops_acts (fun x => (x, rr.2)) rfl (acts_makeMap encS (kpt kAl).T) pR (fun _ => (by exact List.Perm.symm (perm_at 0 rfl))) (fun r hr => ⟨trivial, by first | exact rfl | exact ⟨rfl, rfl⟩ | exact ⟨rfl, rfl, rfl⟩⟩) (fun _ _ _ _ h => h)
      · intro rr hrr; exact rops_acts (fun x => (x, rr.2)) rfl (acts_makeMap encS (kpt kAl).T) pR (fun _ => (by exact List.Perm.symm (perm_at 0 rfl))) (fun r hr => ⟨trivial, by first | exact rfl | exact ⟨rfl, rfl⟩ | exact ⟨rfl, rfl, rfl⟩⟩) (fun _ _ _ _ h => h)
      · exact ⟨fun h => Bool.noConfusion (h.symm.trans (by kernel_rfl : _ = true)), ⟨fun _ r r' h => by first | rfl | (have h : r'.1 = r.1 := h; show (fun rr => IsV (mp rr.1)) r = (fun rr => IsV (mp rr.1)) r'; simp only [h]), trivial⟩⟩
    · refine ⟨⟨[[false, false], [true, false]], by kernel_rfl, ⟨?_, ⟨?_, trivial⟩⟩⟩, ?_⟩
      · intro rr hrr; exact rops_acts (fun x => (rr.1, x)) rfl (acts_makeMap encS kI.T) pR (fun _ => (by exact List.Perm.symm (perm_at 0 rfl))) (fun r hr => ⟨trivial, by first | exact rfl | exact ⟨rfl, rfl⟩ | exact ⟨rfl, rfl, rfl⟩⟩) (fun _ _ _ _ h => h)
      · intro rr hrr; exact rops_acts (fun x => (rr.1, x)) rfl (acts_makeMap encS kI.T) pR (fun _ => (by exact List.Perm.symm (perm_at 1 rfl))) (fun r hr => ⟨trivial, by first | exact rfl | exact ⟨rfl, rfl⟩ | exact ⟨rfl, rfl, rfl⟩⟩) (fun _ _ _ _ h => h)
      · exact ⟨fun _ r r' h => by first | rfl | (have h : r'.2 = r.2 := h; show (fun rr => IsV (mp rr.2)) r = (fun rr => IsV (mp rr.2)) r'; simp only [h]), ⟨fun h => Bool.noConfusion (h.symm.trans (by kernel_rfl : _ = true)), trivial⟩⟩
   case h =>
    intro rr4 hrr4
    refine oP (pu_build (d := kR) (v0 := zRV) (ps := [(0, 5), (5, 1), (6, 1), (7, 1), (8, 1), (9, 1), (10, 1), (11, 1)]) zNetR (by kernel_rfl) rfl (fills_cons rfl lr0 (oT rfl) (fills_cons rfl lr1 (oT rfl) (fills_cons rfl lr5 (OT.raw (oT rfl) rfl) (fills_cons rfl lr7 (OT.raw (oT rfl) rfl) fills_nil))))) rfl (oA (acts_box (d := kR) (oT rfl)) pR rfl rfl (fun g4_6 _ => ?_))
    refine av rfl rfl (tn (tr_perm (List.Perm.of_eq (show _ = BlkI g4_6 73 kR (v, (varsL v.2.2.2.1), nilS, nilS, nilS, mp rr4.1, nilS, mp rr4.2) :: MapI rr4.1 encS (kpt kAl).T [] :: MapI rr4.2 encS kI.T [] :: BlkI g0_0 25 kV v :: [] from rfl)) (nn (sq (te (ec 1 rfl (ec 2 rfl (ec 9 rfl en))) (rg (mv rfl rfl (oP (pf (oT rfl) y39) rfl (oP (plb (oT rfl) (by exact mA 3 rfl) lv3 y40) rfl ?_)))))))))
    refine oA (aC (CloneA_fn _ (by omega)) y144 (oc (oT rfl) oN) pR) pR rfl rfl (fun _ _ => ?_)
    refine oP (pu_nilCheck (oT rfl)) rfl (oP (pf (oT rfl) y113) rfl (oP (pf (oT rfl) y39) rfl (oA (acts_store_blk (oT rfl) (oT rfl) (by exact pA 0 rfl) lr03 y40) (by exact pA 0 rfl) rfl rfl (fun _ _ => ?_))))
    refine tn ?_
    skip
    refine nn (sq (te (ec 1 rfl (ec 2 rfl (ec 9 rfl en))) (rg (mv rfl rfl (oA (acts_makeMap encS kT.T) pR rfl rfl (fun g6_1 _ => ?_))))))
    refine oA (acts_insert (v := []) (V := kT.T) mkS Tryz.underlying76 (oT rfl) (by exact pA 0 rfl) (k := []) ot (OT.conv ot (fun H u h => nil_slt h))) (by exact pA 0 rfl) rfl rfl (fun _ _ => ?_)
    refine mv rfl rfl (oA (acts_lit_own (d := kraw) (v0 := .map none) y145 y118 zRw (show 1 * 1 ≤ 16777216 from by decide) (by decide) (fills_arr rfl rfl (by decide) (OT.raw (oT rfl) rfl) fills_nil)) pR rfl rfl (fun v6_4 _ => ?_))
    refine oP (pu_nilCheck (oT rfl)) rfl (oP (pf (oT rfl) y116) rfl (tr_fact (mem_at 0 rfl) own_cell fun hone6 => (oA (acts_store_rawf (oT rfl) (oT rfl) (by assumption) (by exact pA 2 rfl) lr6 y117) (by exact pA 2 rfl) rfl rfl (fun _ _ => ?_))))
    refine tn (tr_nilItem 3 kI (tr_nilItem 3 kI ?_))
    refine nn (sq (sq (te (ec 1 rfl (ec 2 rfl (ec 9 rfl en))) (rg (mv rfl rfl (oP (pu_nilCheck (oT rfl)) rfl (oP (pf (oT rfl) y113) rfl (oP (pf (oT rfl) y39) rfl (oP (plb (oT rfl) (by exact mA 2 rfl) lr03 y40) rfl ?_)))))))))
    refine oP (pls (oT rfl) Tryz.underlying23) rfl (oP (pu_move ot) rfl (tn (nn (tb (tr_loopK (σ := Nat × Value × Value × Value × List Nat × AlM) (ec 1 rfl (ec 2 rfl (ec 9 rfl (ec 50 rfl (ec 51 rfl en))))) (fun s => [(52, I64 (s.1 : Int))]) (fun s => (BlkI g4_6 73 kR (v, (varsL v.2.2.2.1), s.2.1, s.2.2.1, nilS, mp rr4.1, s.2.2.2.1, mp rr4.2) :: OwnI 3 kI s.2.1 ((fromL v.2.2.2.1).take s.1) :: OwnI 3 kI s.2.2.1 ((toL v.2.2.2.1).take s.1) :: OwnI 76 kraw s.2.2.2.1 (List.map mp (g6_1 :: s.2.2.2.2.1)) :: MapI rr4.2 encS kI.T [] :: BlkI g0_0 25 kV v :: MapI rr4.1 encS (kpt kAl).T (ptrsA s.2.2.2.2.2) :: (lvI (g6_1 :: s.2.2.2.2.1) (lvN s.1) ++ alsI s.2.2.2.2.2))) (fun s => s.1 ≤ v.2.2.2.1.length ∧ s.2.2.2.2.1.length = s.1 ∧ AlsOk [] (v.2.2.2.1.take s.1) s.2.2.2.2.2) (fun s => v.2.2.2.1.length - s.1) (0, nilS, nilS, v6_4, [], []) ⟨Nat.zero_le _, rfl, als_nil⟩ ?_ (op (by repeat first | exact pn | refine pc 0 rfl ?_ | refine pc 1 rfl ?_ | refine pc 2 rfl ?_)) ?_)))))
    · exact (ec 52 rfl en)
    · rintro ⟨k, fv, tv, lvv, gs, m⟩ ⟨hkk, hgs, hals⟩
      dsimp only at hkk hgs hals ⊢
      refine sq (te (ec 1 rfl (ec 2 rfl (ec 9 rfl (ec 50 rfl (ec 51 rfl (ec 52 rfl en)))))) (rg (oP (pu_lss (oT rfl) (oT rfl)) rfl (tn (nn (sq (tc (oT rfl) (fun c53 => ?_) (fun c53 => ?_))))))))
      · refine sk (nn (sq (tb (sq (te (ec 1 rfl (ec 2 rfl (ec 9 rfl (ec 50 rfl (ec 51 rfl (ec 52 rfl en)))))) ?_)))))
        have hk : k < v.2.2.2.1.length := by simpa using c53
        obtain ⟨a, ha2⟩ : ∃ a, at' v.2.2.2.1 (k : Int) = a := ⟨_, rfl⟩
        have hfl : ((fromL v.2.2.2.1).take k).length = k := by rw [List.length_take, fromL_len]; omega
        have htl : ((toL v.2.2.2.1).take k).length = k := by rw [List.length_take, toL_len]; omega
        refine rg (oP (pu_index (oT rfl) (oT rfl) Tryz.underlying23 y41 (by omega) (by omega)) rfl (oP (pL (oT rfl) y41) rfl (oA (acts_alloc (zA)) pR rfl rfl (fun g9_2 _ => ?_))))
        refine oA (asv (oT rfl) (oT rfl) (by exact pA 0 rfl) y41) (by exact pA 0 rfl) rfl rfl (fun _ _ => ?_)
        refine tn ?_
        rw [ha2]
        refine nn (sq (te (ec 1 rfl (ec 2 rfl (ec 9 rfl (ec 11 rfl (ec 50 rfl (ec 51 rfl (ec 52 rfl en))))))) ?_))
        apply tr_anyG (ρ := Value) (φ := fun rr => True) (p := 13) (Lf := fun c rr => cond c (OwnI 3 kI rr (((fromL v.2.2.2.1).take k) ++ [ixI (varsL v.2.2.2.1) a.1]) :: BlkI g9_2 52 kA a :: BlkI g4_6 73 kR (v, (varsL v.2.2.2.1), fv, tv, nilS, mp rr4.1, lvv, mp rr4.2) :: OwnI 3 kI tv ((toL v.2.2.2.1).take k) :: OwnI 76 kraw lvv (List.map mp (g6_1 :: gs)) :: MapI rr4.2 encS kI.T [] :: BlkI g0_0 25 kV v :: MapI rr4.1 encS (kpt kAl).T (ptrsA m) :: (lvI (g6_1 :: gs) (lvN k) ++ alsI m)) (BlkI g9_2 52 kA a :: BlkI g4_6 73 kR (v, (varsL v.2.2.2.1), fv, tv, nilS, mp rr4.1, lvv, mp rr4.2) :: OwnI 3 kI fv ((fromL v.2.2.2.1).take k) :: OwnI 3 kI tv ((toL v.2.2.2.1).take k) :: OwnI 76 kraw lvv (List.map mp (g6_1 :: gs)) :: MapI rr4.2 encS kI.T [] :: BlkI g0_0 25 kV v :: MapI rr4.1 encS (kpt kAl).T (ptrsA m) :: (lvI (g6_1 :: gs) (lvN k) ++ alsI m))) nilS (by kernel_rfl) (m := 14) (ns := [[(9, none)], [(9, none)], [(57, some 1)], [(58, some 2)], [(59, some 3)], [(9, none)], [(61, some 5)], [(62, some 6)], [(63, some 7)], [(11, none)], [(65, some 9)], [(64, some 8), (66, some 10)], [(67, some 11)], [(60, some 4), (68, some 12)]]) (by kernel_rfl) (by kernel_rfl) (Ts := fun rr => [_, _, _, _, _, _, _, _, _, _, _, _, _, IsV rr]) (fun _ => rfl)
        case hops =>
         refine ⟨?_, ?_, ?_, ?_, ?_, ?_, ?_, ?_, ?_, ?_, ?_, ?_, ?_, ?_, trivial⟩
         · exact ⟨by intro c r hc; cases c <;> exact rgo r rfl ⟨rfl, trivial⟩ (rmv rfl), fun _ _ _ _ => rfl⟩
         · exact ⟨cBf (by kernel_rfl) fun r _ => rgo r rfl ⟨rfl, trivial⟩ (rmv rfl), fun _ _ _ _ => rfl⟩
         · exact ⟨cBf (by kernel_rfl) fun r _ => rgo r rfl ⟨rfl, trivial⟩ (rP (pu_nilCheck (oT rfl))), fun _ _ _ _ => rfl⟩
         · exact ⟨cBf (by kernel_rfl) fun r _ => rgo r rfl ⟨rfl, trivial⟩ (rP (pf (oT rfl) y110)), fun _ _ _ _ => rfl⟩
         · exact ⟨cBf (by kernel_rfl) fun r _ => rgo r rfl ⟨rfl, trivial⟩ (rP (pu_load_rawf (oT rfl) (by exact mA 1 rfl) lr2 y111)), fun _ _ _ _ => rfl⟩
         · exact ⟨cBf (by kernel_rfl) fun r _ => rgo r rfl ⟨rfl, trivial⟩ (rmv rfl), fun _ _ _ _ => rfl⟩
         · exact ⟨cBf (by kernel_rfl) fun r _ => rgo r rfl ⟨rfl, trivial⟩ (rP (pu_nilCheck (oT rfl))), fun _ _ _ _ => rfl⟩
         · exact ⟨cBf (by kernel_rfl) fun r _ => rgo r rfl ⟨rfl, trivial⟩ (rP (pf (oT rfl) y146)), fun _ _ _ _ => rfl⟩
         · exact ⟨cBf (by kernel_rfl) fun r _ => rgo r rfl ⟨rfl, trivial⟩ (rP (plb (oT rfl) (by exact mA 1 rfl) lr1 y51)), fun _ _ _ _ => rfl⟩
         · exact ⟨cBf (by kernel_rfl) fun r _ => rgo r rfl ⟨rfl, trivial⟩ (rP (pf (oT rfl) y42)), fun _ _ _ _ => rfl⟩
         · exact ⟨cBf (by kernel_rfl) fun r _ => rgo r rfl ⟨rfl, trivial⟩ (rP (plb (oT rfl) (by exact mA 0 rfl) la0 y36)), fun _ _ _ _ => rfl⟩
         · exact ⟨cBf (by kernel_rfl) fun r _ => rgo r rfl ⟨rfl, trivial⟩ (rop_acts rfl (aC (IndexS_fn (varsL v.2.2.2.1) _ (by omega)) y37 (oc (oT rfl) (oc (oT rfl) oN)) pR) (fun _ _ _ _ h => h)), fun _ _ _ _ => rfl⟩
         · exact ⟨cBf (by kernel_rfl) fun r _ => rgo r rfl ⟨rfl, trivial⟩ (rop_acts rfl (acts_lit (d := kI) (v0 := 0) y68 y2 zI (show 1 * 1 ≤ 16777216 from by decide) (by decide) (fills_arr rfl rfl (by decide) (oT rfl) fills_nil)) (fun _ _ _ _ h => h)), fun _ _ _ _ => rfl⟩
         · refine ⟨?_, ?_⟩
           · exact cBf (by kernel_rfl) fun r _ => ropg_acts rfl (acts_append (oT rfl) (by exact pA 2 rfl) (oT rfl) y68 (by (simp; omega)) (by (simp; omega))) (by exact pA 2 rfl) (fun r => pR) (fun _ _ _ => trivial) (fun _ _ _ _ h => h)
           · exact fun _ h => absurd h (by decide)
        case h =>
         intro v10_13 _
         refine oP (pu_nilCheck (oT rfl)) rfl (oP (pf (oT rfl) y110) rfl (tr_fact (mem_at 0 rfl) own_cell fun hone10 => (oA (acts_store_rawf (oT rfl) (oT rfl) (by assumption) (by exact pA 2 rfl) lr2 y111) (by exact pA 2 rfl) rfl rfl (fun _ _ => ?_))))
         refine tn (tr_perm (List.Perm.of_eq (show _ = BlkI g4_6 73 kR (v, (varsL v.2.2.2.1), v10_13, tv, nilS, mp rr4.1, lvv, mp rr4.2) :: OwnI 3 kI v10_13 (((fromL v.2.2.2.1).take k) ++ [ixI (varsL v.2.2.2.1) a.1]) :: BlkI g9_2 52 kA a :: OwnI 3 kI tv ((toL v.2.2.2.1).take k) :: OwnI 76 kraw lvv (List.map mp (g6_1 :: gs)) :: MapI rr4.2 encS kI.T [] :: BlkI g0_0 25 kV v :: MapI rr4.1 encS (kpt kAl).T (ptrsA m) :: (lvI (g6_1 :: gs) (lvN k) ++ alsI m) from rfl)) (nn (sq (te (ec 1 rfl (ec 2 rfl (ec 9 rfl (ec 11 rfl (ec 50 rfl (ec 51 rfl (ec 52 rfl en))))))) ?_))))
         apply tr_anyG (ρ := Value) (φ := fun rr => True) (p := 13) (Lf := fun c rr => cond c (OwnI 3 kI rr (((toL v.2.2.2.1).take k) ++ [ixI (varsL v.2.2.2.1) a.2.2]) :: BlkI g4_6 73 kR (v, (varsL v.2.2.2.1), v10_13, tv, nilS, mp rr4.1, lvv, mp rr4.2) :: OwnI 3 kI v10_13 (((fromL v.2.2.2.1).take k) ++ [ixI (varsL v.2.2.2.1) a.1]) :: BlkI g9_2 52 kA a :: OwnI 76 kraw lvv (List.map mp (g6_1 :: gs)) :: MapI rr4.2 encS kI.T [] :: BlkI g0_0 25 kV v :: MapI rr4.1 encS (kpt kAl).T (ptrsA m) :: (lvI (g6_1 :: gs) (lvN k) ++ alsI m)) (BlkI g4_6 73 kR (v, (varsL v.2.2.2.1), v10_13, tv, nilS, mp rr4.1, lvv, mp rr4.2) :: OwnI 3 kI v10_13 (((fromL v.2.2.2.1).take k) ++ [ixI (varsL v.2.2.2.1) a.1]) :: BlkI g9_2 52 kA a :: OwnI 3 kI tv ((toL v.2.2.2.1).take k) :: OwnI 76 kraw lvv (List.map mp (g6_1 :: gs)) :: MapI rr4.2 encS kI.T [] :: BlkI g0_0 25 kV v :: MapI rr4.1 encS (kpt kAl).T (ptrsA m) :: (lvI (g6_1 :: gs) (lvN k) ++ alsI m))) nilS (by kernel_rfl) (m := 14) (ns := [[(9, none)], [(9, none)], [(73, some 1)], [(74, some 2)], [(75, some 3)], [(9, none)], [(77, some 5)], [(78, some 6)], [(79, some 7)], [(11, none)], [(81, some 9)], [(80, some 8), (82, some 10)], [(83, some 11)], [(76, some 4), (84, some 12)]]) (by kernel_rfl) (by kernel_rfl) (Ts := fun rr => [_, _, _, _, _, _, _, _, _, _, _, _, _, IsV rr]) (fun _ => rfl)
         case hops =>
          refine ⟨?_, ?_, ?_, ?_, ?_, ?_, ?_, ?_, ?_, ?_, ?_, ?_, ?_, ?_, trivial⟩
          · exact ⟨by intro c r hc; cases c <;> exact rgo r rfl ⟨rfl, trivial⟩ (rmv rfl), fun _ _ _ _ => rfl⟩
          · exact ⟨cBf (by kernel_rfl) fun r _ => rgo r rfl ⟨rfl, trivial⟩ (rmv rfl), fun _ _ _ _ => rfl⟩
          · exact ⟨cBf (by kernel_rfl) fun r _ => rgo r rfl ⟨rfl, trivial⟩ (rP (pu_nilCheck (oT rfl))), fun _ _ _ _ => rfl⟩
          · exact ⟨cBf (by kernel_rfl) fun r _ => rgo r rfl ⟨rfl, trivial⟩ (rP (pf (oT rfl) y112)), fun _ _ _ _ => rfl⟩
          · exact ⟨cBf (by kernel_rfl) fun r _ => rgo r rfl ⟨rfl, trivial⟩ (rP (pu_load_rawf (oT rfl) (by exact mA 0 rfl) lr3 y111)), fun _ _ _ _ => rfl⟩
          · exact ⟨cBf (by kernel_rfl) fun r _ => rgo r rfl ⟨rfl, trivial⟩ (rmv rfl), fun _ _ _ _ => rfl⟩
          · exact ⟨cBf (by kernel_rfl) fun r _ => rgo r rfl ⟨rfl, trivial⟩ (rP (pu_nilCheck (oT rfl))), fun _ _ _ _ => rfl⟩
          · exact ⟨cBf (by kernel_rfl) fun r _ => rgo r rfl ⟨rfl, trivial⟩ (rP (pf (oT rfl) y146)), fun _ _ _ _ => rfl⟩
          · exact ⟨cBf (by kernel_rfl) fun r _ => rgo r rfl ⟨rfl, trivial⟩ (rP (plb (oT rfl) (by exact mA 0 rfl) lr1 y51)), fun _ _ _ _ => rfl⟩
          · exact ⟨cBf (by kernel_rfl) fun r _ => rgo r rfl ⟨rfl, trivial⟩ (rP (pf (oT rfl) y43)), fun _ _ _ _ => rfl⟩
          · exact ⟨cBf (by kernel_rfl) fun r _ => rgo r rfl ⟨rfl, trivial⟩ (rP (plb (oT rfl) (by exact mA 2 rfl) la2 y36)), fun _ _ _ _ => rfl⟩
          · exact ⟨cBf (by kernel_rfl) fun r _ => rgo r rfl ⟨rfl, trivial⟩ (rop_acts rfl (aC (IndexS_fn (varsL v.2.2.2.1) _ (by omega)) y37 (oc (oT rfl) (oc (oT rfl) oN)) pR) (fun _ _ _ _ h => h)), fun _ _ _ _ => rfl⟩
          · exact ⟨cBf (by kernel_rfl) fun r _ => rgo r rfl ⟨rfl, trivial⟩ (rop_acts rfl (acts_lit (d := kI) (v0 := 0) y68 y2 zI (show 1 * 1 ≤ 16777216 from by decide) (by decide) (fills_arr rfl rfl (by decide) (oT rfl) fills_nil)) (fun _ _ _ _ h => h)), fun _ _ _ _ => rfl⟩
          · refine ⟨?_, ?_⟩
            · exact cBf (by kernel_rfl) fun r _ => ropg_acts rfl (acts_append (oT rfl) (by exact pA 3 rfl) (oT rfl) y68 (by (simp; omega)) (by (simp; omega))) (by exact pA 3 rfl) (fun r => pR) (fun _ _ _ => trivial) (fun _ _ _ _ h => h)
            · exact fun _ h => absurd h (by decide)
         case h =>
          intro v11_13 _
          refine oP (pu_nilCheck (oT rfl)) rfl (oP (pf (oT rfl) y112) rfl (tr_fact (mem_at 0 rfl) own_cell fun hone11 => (oA (acts_store_rawf (oT rfl) (oT rfl) (by assumption) (by exact pA 1 rfl) lr3 y111) (by exact pA 1 rfl) rfl rfl (fun _ _ => ?_))))
          refine tn (tr_perm (List.Perm.of_eq (show _ = BlkI g4_6 73 kR (v, (varsL v.2.2.2.1), v10_13, v11_13, nilS, mp rr4.1, lvv, mp rr4.2) :: OwnI 3 kI v11_13 (((toL v.2.2.2.1).take k) ++ [ixI (varsL v.2.2.2.1) a.2.2]) :: OwnI 3 kI v10_13 (((fromL v.2.2.2.1).take k) ++ [ixI (varsL v.2.2.2.1) a.1]) :: BlkI g9_2 52 kA a :: OwnI 76 kraw lvv (List.map mp (g6_1 :: gs)) :: MapI rr4.2 encS kI.T [] :: BlkI g0_0 25 kV v :: MapI rr4.1 encS (kpt kAl).T (ptrsA m) :: (lvI (g6_1 :: gs) (lvN k) ++ alsI m) from rfl)) (nn (sq (te (ec 1 rfl (ec 2 rfl (ec 9 rfl (ec 11 rfl (ec 50 rfl (ec 51 rfl (ec 52 rfl en))))))) (rg (mv rfl rfl (mv rfl rfl (oP (pu_nilCheck (oT rfl)) rfl (oP (pf (oT rfl) y116) rfl (oP (pu_load_rawf (oT rfl) (by exact mA 0 rfl) lr6 y117) rfl ?_))))))))))
          refine oA (acts_makeMap encS kT.T) pR rfl rfl (fun g12_5 _ => ?_)
          refine oA (acts_lit (d := kraw) (v0 := .map none) y145 y118 zRw (show 1 * 1 ≤ 16777216 from by decide) (by decide) (fills_arr rfl rfl (by decide) (OT.raw (oT rfl) rfl) fills_nil)) pR rfl rfl (fun _ _ => ?_)
          refine oA (acts_append (oT rfl) (by exact pA 5 rfl) (oT rfl) y145 (by (simp; omega)) (by (simp [maxLen]; omega))) (by exact pA 5 rfl) rfl rfl (fun v12_7 _ => ?_)
          refine oP (pu_nilCheck (oT rfl)) rfl (oP (pf (oT rfl) y116) rfl (tr_fact (mem_at 0 rfl) own_cell fun hone12 => (oA (acts_store_rawf (oT rfl) (oT rfl) (by assumption) (by exact pA 2 rfl) lr6 y117) (by exact pA 2 rfl) rfl rfl (fun _ _ => ?_))))
          refine tn (nn (sq (te (ec 1 rfl (ec 2 rfl (ec 9 rfl (ec 11 rfl (ec 50 rfl (ec 51 rfl (ec 52 rfl en))))))) ?_)))
          have hgl0 : (g6_1 :: gs).length = (lvN k).length := by rw [lvN_len, List.length_cons, hgs]
          refine tr_perm (show List.Perm _ (BlkI g4_6 73 kR (v, (varsL v.2.2.2.1), v10_13, v11_13, nilS, mp rr4.1, v12_7, mp rr4.2) :: OwnI 3 kI v10_13 (((fromL v.2.2.2.1).take k) ++ [ixI (varsL v.2.2.2.1) a.1]) :: OwnI 3 kI v11_13 (((toL v.2.2.2.1).take k) ++ [ixI (varsL v.2.2.2.1) a.2.2]) :: OwnI 76 kraw v12_7 (List.map mp (g6_1 :: (gs ++ [g12_5]))) :: BlkI g9_2 52 kA a :: MapI rr4.2 encS kI.T [] :: BlkI g0_0 25 kV v :: MapI rr4.1 encS (kpt kAl).T (ptrsA m) :: (lvI (g6_1 :: (gs ++ [g12_5])) (lvN (k + 1)) ++ alsI m)) from new_perm hgl0) ?_
          apply tr_any (m := 6) (ns := [[(9, none)], [(98, some 0)], [(99, some 1)], [(100, some 2)], [(11, none)], [(102, some 4)]]) (by kernel_rfl) (by kernel_rfl) (Ts := [_, _, _, _, _, _]) rfl
          case hops =>
           refine ⟨?_, ?_, ?_, ?_, ?_, ?_, trivial⟩
           · exact rmv rfl
           · exact rP (pu_nilCheck (oT rfl))
           · exact rP (pf (oT rfl) y106)
           · exact rP (pu_load_rawf (oT rfl) (by exact mA 0 rfl) lr5 y107)
           · exact rP (pf (oT rfl) y52)
           · exact rP (plb (oT rfl) (by exact mA 4 rfl) la1 y36)
          case h =>
           refine oP (pu_lookup_own mkS Tryz.underlying69 zPA (oT rfl) (by exact mA 7 rfl) (oT rfl)) rfl ?_
           refine oP (pu_opt_eql (oT rfl) Tryz.underlying78) rfl (tn ?_)
           rw [ptrsA_lkp]
           refine nn (tc (oT rfl) (fun c105 => ?_) (fun c105 => ?_))
           · have hn : lkp a.2.1 m = none := by
              cases hx : lkp a.2.1 m with
              | none => rfl
              | some a => rw [hx] at c105; cases c105
             refine te (ec 1 rfl (ec 2 rfl (ec 9 rfl (ec 11 rfl (ec 50 rfl (ec 51 rfl (ec 52 rfl en))))))) ?_
             apply tr_anyS (ρ := Nat × Nat × Nat × Nat) (ψ := fun _ _ => True) (ups := fun i r r' => cond (Nat.beq i 6) (r'.2 = r.2) (cond (Nat.beq i 7) (r'.1 = r.1 ∧ r'.2.2 = r.2.2) (cond (Nat.beq i 8) (r'.1 = r.1 ∧ r'.2.1 = r.2.1 ∧ r'.2.2.2 = r.2.2.2) (cond (Nat.beq i 10) (r'.1 = r.1 ∧ r'.2.1 = r.2.1 ∧ r'.2.2.1 = r.2.2.1) (True))))) (ps := [6, 7, 8, 10]) (Lf := fun c rr => cond (c.getD 0 false) (cond (c.getD 1 false) (cond (c.getD 2 false) (cond (c.getD 3 false) (MapI rr.1 encI IsV [] :: MapI rr.2.1 encI IsV [] :: MapI rr.2.2.1 encP kbool.T [] :: BlkI rr.2.2.2 82 kAl (mp rr.1, mp rr.2.1, mp rr.2.2.1) :: BlkI g4_6 73 kR (v, (varsL v.2.2.2.1), v10_13, v11_13, nilS, mp rr4.1, v12_7, mp rr4.2) :: OwnI 3 kI v10_13 (((fromL v.2.2.2.1).take k) ++ [ixI (varsL v.2.2.2.1) a.1]) :: OwnI 3 kI v11_13 (((toL v.2.2.2.1).take k) ++ [ixI (varsL v.2.2.2.1) a.2.2]) :: OwnI 76 kraw v12_7 (List.map mp (g6_1 :: (gs ++ [g12_5]))) :: BlkI g9_2 52 kA a :: MapI rr4.2 encS kI.T [] :: BlkI g0_0 25 kV v :: MapI rr4.1 encS (kpt kAl).T (ptrsA m) :: (lvI (g6_1 :: (gs ++ [g12_5])) (lvN (k + 1)) ++ alsI m)) (MapI rr.1 encI IsV [] :: MapI rr.2.1 encI IsV [] :: MapI rr.2.2.1 encP kbool.T [] :: BlkI g4_6 73 kR (v, (varsL v.2.2.2.1), v10_13, v11_13, nilS, mp rr4.1, v12_7, mp rr4.2) :: OwnI 3 kI v10_13 (((fromL v.2.2.2.1).take k) ++ [ixI (varsL v.2.2.2.1) a.1]) :: OwnI 3 kI v11_13 (((toL v.2.2.2.1).take k) ++ [ixI (varsL v.2.2.2.1) a.2.2]) :: OwnI 76 kraw v12_7 (List.map mp (g6_1 :: (gs ++ [g12_5]))) :: BlkI g9_2 52 kA a :: MapI rr4.2 encS kI.T [] :: BlkI g0_0 25 kV v :: MapI rr4.1 encS (kpt kAl).T (ptrsA m) :: (lvI (g6_1 :: (gs ++ [g12_5])) (lvN (k + 1)) ++ alsI m))) (cond (c.getD 3 false) ([]) (MapI rr.1 encI IsV [] :: MapI rr.2.1 encI IsV [] :: BlkI g4_6 73 kR (v, (varsL v.2.2.2.1), v10_13, v11_13, nilS, mp rr4.1, v12_7, mp rr4.2) :: OwnI 3 kI v10_13 (((fromL v.2.2.2.1).take k) ++ [ixI (varsL v.2.2.2.1) a.1]) :: OwnI 3 kI v11_13 (((toL v.2.2.2.1).take k) ++ [ixI (varsL v.2.2.2.1) a.2.2]) :: OwnI 76 kraw v12_7 (List.map mp (g6_1 :: (gs ++ [g12_5]))) :: BlkI g9_2 52 kA a :: MapI rr4.2 encS kI.T [] :: BlkI g0_0 25 kV v :: MapI rr4.1 encS (kpt kAl).T (ptrsA m) :: (lvI (g6_1 :: (gs ++ [g12_5])) (lvN (k + 1)) ++ alsI m)))) (cond (c.getD 2 false) (cond (c.getD 3 false) ([]) (MapI rr.1 encI IsV [] :: MapI rr.2.2.1 encP kbool.T [] :: BlkI g4_6 73 kR (v, (varsL v.2.2.2.1), v10_13, v11_13, nilS, mp rr4.1, v12_7, mp rr4.2) :: OwnI 3 kI v10_13 (((fromL v.2.2.2.1).take k) ++ [ixI (varsL v.2.2.2.1) a.1]) :: OwnI 3 kI v11_13 (((toL v.2.2.2.1).take k) ++ [ixI (varsL v.2.2.2.1) a.2.2]) :: OwnI 76 kraw v12_7 (List.map mp (g6_1 :: (gs ++ [g12_5]))) :: BlkI g9_2 52 kA a :: MapI rr4.2 encS kI.T [] :: BlkI g0_0 25 kV v :: MapI rr4.1 encS (kpt kAl).T (ptrsA m) :: (lvI (g6_1 :: (gs ++ [g12_5])) (lvN (k + 1)) ++ alsI m))) (cond (c.getD 3 false) ([]) (MapI rr.1 encI IsV [] :: BlkI g4_6 73 kR (v, (varsL v.2.2.2.1), v10_13, v11_13, nilS, mp rr4.1, v12_7, mp rr4.2) :: OwnI 3 kI v10_13 (((fromL v.2.2.2.1).take k) ++ [ixI (varsL v.2.2.2.1) a.1]) :: OwnI 3 kI v11_13 (((toL v.2.2.2.1).take k) ++ [ixI (varsL v.2.2.2.1) a.2.2]) :: OwnI 76 kraw v12_7 (List.map mp (g6_1 :: (gs ++ [g12_5]))) :: BlkI g9_2 52 kA a :: MapI rr4.2 encS kI.T [] :: BlkI g0_0 25 kV v :: MapI rr4.1 encS (kpt kAl).T (ptrsA m) :: (lvI (g6_1 :: (gs ++ [g12_5])) (lvN (k + 1)) ++ alsI m))))) (cond (c.getD 1 false) (cond (c.getD 2 false) (cond (c.getD 3 false) ([]) (MapI rr.2.1 encI IsV [] :: MapI rr.2.2.1 encP kbool.T [] :: BlkI g4_6 73 kR (v, (varsL v.2.2.2.1), v10_13, v11_13, nilS, mp rr4.1, v12_7, mp rr4.2) :: OwnI 3 kI v10_13 (((fromL v.2.2.2.1).take k) ++ [ixI (varsL v.2.2.2.1) a.1]) :: OwnI 3 kI v11_13 (((toL v.2.2.2.1).take k) ++ [ixI (varsL v.2.2.2.1) a.2.2]) :: OwnI 76 kraw v12_7 (List.map mp (g6_1 :: (gs ++ [g12_5]))) :: BlkI g9_2 52 kA a :: MapI rr4.2 encS kI.T [] :: BlkI g0_0 25 kV v :: MapI rr4.1 encS (kpt kAl).T (ptrsA m) :: (lvI (g6_1 :: (gs ++ [g12_5])) (lvN (k + 1)) ++ alsI m))) (cond (c.getD 3 false) ([]) (MapI rr.2.1 encI IsV [] :: BlkI g4_6 73 kR (v, (varsL v.2.2.2.1), v10_13, v11_13, nilS, mp rr4.1, v12_7, mp rr4.2) :: OwnI 3 kI v10_13 (((fromL v.2.2.2.1).take k) ++ [ixI (varsL v.2.2.2.1) a.1]) :: OwnI 3 kI v11_13 (((toL v.2.2.2.1).take k) ++ [ixI (varsL v.2.2.2.1) a.2.2]) :: OwnI 76 kraw v12_7 (List.map mp (g6_1 :: (gs ++ [g12_5]))) :: BlkI g9_2 52 kA a :: MapI rr4.2 encS kI.T [] :: BlkI g0_0 25 kV v :: MapI rr4.1 encS (kpt kAl).T (ptrsA m) :: (lvI (g6_1 :: (gs ++ [g12_5])) (lvN (k + 1)) ++ alsI m)))) (cond (c.getD 2 false) (cond (c.getD 3 false) ([]) (MapI rr.2.2.1 encP kbool.T [] :: BlkI g4_6 73 kR (v, (varsL v.2.2.2.1), v10_13, v11_13, nilS, mp rr4.1, v12_7, mp rr4.2) :: OwnI 3 kI v10_13 (((fromL v.2.2.2.1).take k) ++ [ixI (varsL v.2.2.2.1) a.1]) :: OwnI 3 kI v11_13 (((toL v.2.2.2.1).take k) ++ [ixI (varsL v.2.2.2.1) a.2.2]) :: OwnI 76 kraw v12_7 (List.map mp (g6_1 :: (gs ++ [g12_5]))) :: BlkI g9_2 52 kA a :: MapI rr4.2 encS kI.T [] :: BlkI g0_0 25 kV v :: MapI rr4.1 encS (kpt kAl).T (ptrsA m) :: (lvI (g6_1 :: (gs ++ [g12_5])) (lvN (k + 1)) ++ alsI m))) (cond (c.getD 3 false) ([]) (BlkI g4_6 73 kR (v, (varsL v.2.2.2.1), v10_13, v11_13, nilS, mp rr4.1, v12_7, mp rr4.2) :: OwnI 3 kI v10_13 (((fromL v.2.2.2.1).take k) ++ [ixI (varsL v.2.2.2.1) a.1]) :: OwnI 3 kI v11_13 (((toL v.2.2.2.1).take k) ++ [ixI (varsL v.2.2.2.1) a.2.2]) :: OwnI 76 kraw v12_7 (List.map mp (g6_1 :: (gs ++ [g12_5]))) :: BlkI g9_2 52 kA a :: MapI rr4.2 encS kI.T [] :: BlkI g0_0 25 kV v :: MapI rr4.1 encS (kpt kAl).T (ptrsA m) :: (lvI (g6_1 :: (gs ++ [g12_5])) (lvN (k + 1)) ++ alsI m)))))) (0, 0, 0, 0) trivial (by kernel_rfl) (by kernel_rfl) (m := 11) (ns := [[(9, none)], [(106, some 0)], [(107, some 1)], [(108, some 2)], [(11, none)], [(110, some 4)], [], [], [], [(112, some 6), (113, some 7), (114, some 8)], [(115, some 9)]]) (by kernel_rfl) (Ts := fun rr => [_, _, _, _, _, _, IsV (mp rr.1), IsV (mp rr.2.1), IsV (mp rr.2.2.1), kAl.T (mp rr.1, mp rr.2.1, mp rr.2.2.1), IsV (pt rr.2.2.2 0)]) (fun _ => rfl)
             case hops =>
              refine ⟨?_, ?_, ?_, ?_, ?_, ?_, ?_, ?_, ?_, ?_, ?_, trivial⟩
              · exact ⟨⟨[[false, false, false, false], [true, false, false, false], [false, true, false, false], [true, true, false, false], [false, false, true, false], [true, false, true, false], [false, true, true, false], [true, true, true, false], [true, true, true, true]], by kernel_rfl, fun rr hrr => rgo rr rfl ⟨hrr, rfl⟩ (rmv rfl), fun rr hrr => rgo rr rfl ⟨hrr, rfl⟩ (rmv rfl), fun rr hrr => rgo rr rfl ⟨hrr, rfl⟩ (rmv rfl), fun rr hrr => rgo rr rfl ⟨hrr, rfl⟩ (rmv rfl), fun rr hrr => rgo rr rfl ⟨hrr, rfl⟩ (rmv rfl), fun rr hrr => rgo rr rfl ⟨hrr, rfl⟩ (rmv rfl), fun rr hrr => rgo rr rfl ⟨hrr, rfl⟩ (rmv rfl), fun rr hrr => rgo rr rfl ⟨hrr, rfl⟩ (rmv rfl), fun rr hrr => rgo rr rfl ⟨hrr, rfl⟩ (rmv rfl), trivial⟩, ⟨fun _ _ _ _ => rfl, fun _ _ _ _ => rfl, fun _ _ _ _ => rfl, fun _ _ _ _ => rfl, trivial⟩⟩
              · exact ⟨⟨[[false, false, false, false], [true, false, false, false], [false, true, false, false], [true, true, false, false], [false, false, true, false], [true, false, true, false], [false, true, true, false], [true, true, true, false], [true, true, true, true]], by kernel_rfl, fun rr hrr => rgo rr rfl ⟨hrr, rfl⟩ (rP (pu_nilCheck (oT rfl))), fun rr hrr => rgo rr rfl ⟨hrr, rfl⟩ (rP (pu_nilCheck (oT rfl))), fun rr hrr => rgo rr rfl ⟨hrr, rfl⟩ (rP (pu_nilCheck (oT rfl))), fun rr hrr => rgo rr rfl ⟨hrr, rfl⟩ (rP (pu_nilCheck (oT rfl))), fun rr hrr => rgo rr rfl ⟨hrr, rfl⟩ (rP (pu_nilCheck (oT rfl))), fun rr hrr => rgo rr rfl ⟨hrr, rfl⟩ (rP (pu_nilCheck (oT rfl))), fun rr hrr => rgo rr rfl ⟨hrr, rfl⟩ (rP (pu_nilCheck (oT rfl))), fun rr hrr => rgo rr rfl ⟨hrr, rfl⟩ (rP (pu_nilCheck (oT rfl))), fun rr hrr => rgo rr rfl ⟨hrr, rfl⟩ (rP (pu_nilCheck (oT rfl))), trivial⟩, ⟨fun _ _ _ _ => rfl, fun _ _ _ _ => rfl, fun _ _ _ _ => rfl, fun _ _ _ _ => rfl, trivial⟩⟩
              · exact ⟨⟨[[false, false, false, false], [true, false, false, false], [false, true, false, false], [true, true, false, false], [false, false, true, false], [true, false, true, false], [false, true, true, false], [true, true, true, false], [true, true, true, true]], by kernel_rfl, fun rr hrr => rgo rr rfl ⟨hrr, rfl⟩ (rP (pf (oT rfl) y106)), fun rr hrr => rgo rr rfl ⟨hrr, rfl⟩ (rP (pf (oT rfl) y106)), fun rr hrr => rgo rr rfl ⟨hrr, rfl⟩ (rP (pf (oT rfl) y106)), fun rr hrr => rgo rr rfl ⟨hrr, rfl⟩ (rP (pf (oT rfl) y106)), fun rr hrr => rgo rr rfl ⟨hrr, rfl⟩ (rP (pf (oT rfl) y106)), fun rr hrr => rgo rr rfl ⟨hrr, rfl⟩ (rP (pf (oT rfl) y106)), fun rr hrr => rgo rr rfl ⟨hrr, rfl⟩ (rP (pf (oT rfl) y106)), fun rr hrr => rgo rr rfl ⟨hrr, rfl⟩ (rP (pf (oT rfl) y106)), fun rr hrr => rgo rr rfl ⟨hrr, rfl⟩ (rP (pf (oT rfl) y106)), trivial⟩, ⟨fun _ _ _ _ => rfl, fun _ _ _ _ => rfl, fun _ _ _ _ => rfl, fun _ _ _ _ => rfl, trivial⟩⟩
              · exact ⟨⟨[[false, false, false, false], [true, false, false, false], [false, true, false, false], [true, true, false, false], [false, false, true, false], [true, false, true, false], [false, true, true, false], [true, true, true, false], [true, true, true, true]], by kernel_rfl, fun rr hrr => rgo rr rfl ⟨hrr, rfl⟩ (rP (pu_load_rawf (oT rfl) (by exact mA 0 rfl) lr5 y107)), fun rr hrr => rgo rr rfl ⟨hrr, rfl⟩ (rP (pu_load_rawf (oT rfl) (by exact mA 1 rfl) lr5 y107)), fun rr hrr => rgo rr rfl ⟨hrr, rfl⟩ (rP (pu_load_rawf (oT rfl) (by exact mA 1 rfl) lr5 y107)), fun rr hrr => rgo rr rfl ⟨hrr, rfl⟩ (rP (pu_load_rawf (oT rfl) (by exact mA 2 rfl) lr5 y107)), fun rr hrr => rgo rr rfl ⟨hrr, rfl⟩ (rP (pu_load_rawf (oT rfl) (by exact mA 1 rfl) lr5 y107)), fun rr hrr => rgo rr rfl ⟨hrr, rfl⟩ (rP (pu_load_rawf (oT rfl) (by exact mA 2 rfl) lr5 y107)), fun rr hrr => rgo rr rfl ⟨hrr, rfl⟩ (rP (pu_load_rawf (oT rfl) (by exact mA 2 rfl) lr5 y107)), fun rr hrr => rgo rr rfl ⟨hrr, rfl⟩ (rP (pu_load_rawf (oT rfl) (by exact mA 3 rfl) lr5 y107)), fun rr hrr => rgo rr rfl ⟨hrr, rfl⟩ (rP (pu_load_rawf (oT rfl) (by exact mA 4 rfl) lr5 y107)), trivial⟩, ⟨fun _ _ _ _ => rfl, fun _ _ _ _ => rfl, fun _ _ _ _ => rfl, fun _ _ _ _ => rfl, trivial⟩⟩
              · exact ⟨⟨[[false, false, false, false], [true, false, false, false], [false, true, false, false], [true, true, false, false], [false, false, true, false], [true, false, true, false], [false, true, true, false], [true, true, true, false], [true, true, true, true]], by kernel_rfl, fun rr hrr => rgo rr rfl ⟨hrr, rfl⟩ (rP (pf (oT rfl) y52)), fun rr hrr => rgo rr rfl ⟨hrr, rfl⟩ (rP (pf (oT rfl) y52)), fun rr hrr => rgo rr rfl ⟨hrr, rfl⟩ (rP (pf (oT rfl) y52)), fun rr hrr => rgo rr rfl ⟨hrr, rfl⟩ (rP (pf (oT rfl) y52)), fun rr hrr => rgo rr rfl ⟨hrr, rfl⟩ (rP (pf (oT rfl) y52)), fun rr hrr => rgo rr rfl ⟨hrr, rfl⟩ (rP (pf (oT rfl) y52)), fun rr hrr => rgo rr rfl ⟨hrr, rfl⟩ (rP (pf (oT rfl) y52)), fun rr hrr => rgo rr rfl ⟨hrr, rfl⟩ (rP (pf (oT rfl) y52)), fun rr hrr => rgo rr rfl ⟨hrr, rfl⟩ (rP (pf (oT rfl) y52)), trivial⟩, ⟨fun _ _ _ _ => rfl, fun _ _ _ _ => rfl, fun _ _ _ _ => rfl, fun _ _ _ _ => rfl, trivial⟩⟩
              · exact ⟨⟨[[false, false, false, false], [true, false, false, false], [false, true, false, false], [true, true, false, false], [false, false, true, false], [true, false, true, false], [false, true, true, false], [true, true, true, false], [true, true, true, true]], by kernel_rfl, fun rr hrr => rgo rr rfl ⟨hrr, rfl⟩ (rP (plb (oT rfl) (by exact mA 4 rfl) la1 y36)), fun rr hrr => rgo rr rfl ⟨hrr, rfl⟩ (rP (plb (oT rfl) (by exact mA 5 rfl) la1 y36)), fun rr hrr => rgo rr rfl ⟨hrr, rfl⟩ (rP (plb (oT rfl) (by exact mA 5 rfl) la1 y36)), fun rr hrr => rgo rr rfl ⟨hrr, rfl⟩ (rP (plb (oT rfl) (by exact mA 6 rfl) la1 y36)), fun rr hrr => rgo rr rfl ⟨hrr, rfl⟩ (rP (plb (oT rfl) (by exact mA 5 rfl) la1 y36)), fun rr hrr => rgo rr rfl ⟨hrr, rfl⟩ (rP (plb (oT rfl) (by exact mA 6 rfl) la1 y36)), fun rr hrr => rgo rr rfl ⟨hrr, rfl⟩ (rP (plb (oT rfl) (by exact mA 6 rfl) la1 y36)), fun rr hrr => rgo rr rfl ⟨hrr, rfl⟩ (rP (plb (oT rfl) (by exact mA 7 rfl) la1 y36)), fun rr hrr => rgo rr rfl ⟨hrr, rfl⟩ (rP (plb (oT rfl) (by exact mA 8 rfl) la1 y36)), trivial⟩, ⟨fun _ _ _ _ => rfl, fun _ _ _ _ => rfl, fun _ _ _ _ => rfl, fun _ _ _ _ => rfl, trivial⟩⟩
              · refine ⟨⟨[[false, false, false, false], [false, true, false, false], [false, false, true, false], [false, true, true, false]], by kernel_rfl, ⟨?_, ⟨?_, ⟨?_, ⟨?_, trivial⟩⟩⟩⟩⟩, ?_⟩
                · intro rr hrr; exact rops_acts (fun x => (x, rr.2)) rfl (acts_makeMap encI IsV) pR (fun _ => (by exact List.Perm.symm (perm_at 0 rfl))) (fun r hr => ⟨trivial, by first | exact rfl | exact ⟨rfl, rfl⟩ | exact ⟨rfl, rfl, rfl⟩⟩) (fun _ _ _ _ h => h)
                · intro rr hrr; exact rops_acts (fun x => (x, rr.2)) rfl (acts_makeMap encI IsV) pR (fun _ => (by exact List.Perm.symm (perm_at 0 rfl))) (fun r hr => ⟨trivial, by first | exact rfl | exact ⟨rfl, rfl⟩ | exact ⟨rfl, rfl, rfl⟩⟩) (fun _ _ _ _ h => h)
                · intro rr hrr; exact rops_acts (fun x => (x, rr.2)) rfl (acts_makeMap encI IsV) pR (fun _ => (by exact List.Perm.symm (perm_at 0 rfl))) (fun r hr => ⟨trivial, by first | exact rfl | exact ⟨rfl, rfl⟩ | exact ⟨rfl, rfl, rfl⟩⟩) (fun _ _ _ _ h => h)
                · intro rr hrr; exact rops_acts (fun x => (x, rr.2)) rfl (acts_makeMap encI IsV) pR (fun _ => (by exact List.Perm.symm (perm_at 0 rfl))) (fun r hr => ⟨trivial, by first | exact rfl | exact ⟨rfl, rfl⟩ | exact ⟨rfl, rfl, rfl⟩⟩) (fun _ _ _ _ h => h)
                · exact ⟨fun h => Bool.noConfusion (h.symm.trans (by kernel_rfl : _ = true)), ⟨fun _ r r' h => by first | rfl | (have h : r'.1 = r.1 ∧ r'.2.2 = r.2.2 := h; show (fun rr => IsV (mp rr.1)) r = (fun rr => IsV (mp rr.1)) r'; simp only [h]), ⟨fun _ r r' h => by first | rfl | (have h : r'.1 = r.1 ∧ r'.2.1 = r.2.1 ∧ r'.2.2.2 = r.2.2.2 := h; show (fun rr => IsV (mp rr.1)) r = (fun rr => IsV (mp rr.1)) r'; simp only [h]), ⟨fun _ r r' h => by first | rfl | (have h : r'.1 = r.1 ∧ r'.2.1 = r.2.1 ∧ r'.2.2.1 = r.2.2.1 := h; show (fun rr => IsV (mp rr.1)) r = (fun rr => IsV (mp rr.1)) r'; simp only [h]), trivial⟩⟩⟩⟩
              · refine ⟨⟨[[false, false, false, false], [true, false, false, false], [false, false, true, false], [true, false, true, false]], by kernel_rfl, ⟨?_, ⟨?_, ⟨?_, ⟨?_, trivial⟩⟩⟩⟩⟩, ?_⟩
                · intro rr hrr; exact rops_acts (fun x => (rr.1, x, rr.2.2)) rfl (acts_makeMap encI IsV) pR (fun _ => (by exact List.Perm.symm (perm_at 0 rfl))) (fun r hr => ⟨trivial, by first | exact rfl | exact ⟨rfl, rfl⟩ | exact ⟨rfl, rfl, rfl⟩⟩) (fun _ _ _ _ h => h)
                · intro rr hrr; exact rops_acts (fun x => (rr.1, x, rr.2.2)) rfl (acts_makeMap encI IsV) pR (fun _ => (by exact List.Perm.symm (perm_at 1 rfl))) (fun r hr => ⟨trivial, by first | exact rfl | exact ⟨rfl, rfl⟩ | exact ⟨rfl, rfl, rfl⟩⟩) (fun _ _ _ _ h => h)
                · intro rr hrr; exact rops_acts (fun x => (rr.1, x, rr.2.2)) rfl (acts_makeMap encI IsV) pR (fun _ => (by exact List.Perm.symm (perm_at 0 rfl))) (fun r hr => ⟨trivial, by first | exact rfl | exact ⟨rfl, rfl⟩ | exact ⟨rfl, rfl, rfl⟩⟩) (fun _ _ _ _ h => h)
                · intro rr hrr; exact rops_acts (fun x => (rr.1, x, rr.2.2)) rfl (acts_makeMap encI IsV) pR (fun _ => (by exact List.Perm.symm (perm_at 1 rfl))) (fun r hr => ⟨trivial, by first | exact rfl | exact ⟨rfl, rfl⟩ | exact ⟨rfl, rfl, rfl⟩⟩) (fun _ _ _ _ h => h)
                · exact ⟨fun _ r r' h => by first | rfl | (have h : r'.2 = r.2 := h; show (fun rr => IsV (mp rr.2.1)) r = (fun rr => IsV (mp rr.2.1)) r'; simp only [h]), ⟨fun h => Bool.noConfusion (h.symm.trans (by kernel_rfl : _ = true)), ⟨fun _ r r' h => by first | rfl | (have h : r'.1 = r.1 ∧ r'.2.1 = r.2.1 ∧ r'.2.2.2 = r.2.2.2 := h; show (fun rr => IsV (mp rr.2.1)) r = (fun rr => IsV (mp rr.2.1)) r'; simp only [h]), ⟨fun _ r r' h => by first | rfl | (have h : r'.1 = r.1 ∧ r'.2.1 = r.2.1 ∧ r'.2.2.1 = r.2.2.1 := h; show (fun rr => IsV (mp rr.2.1)) r = (fun rr => IsV (mp rr.2.1)) r'; simp only [h]), trivial⟩⟩⟩⟩
              · refine ⟨⟨[[false, false, false, false], [true, false, false, false], [false, true, false, false], [true, true, false, false]], by kernel_rfl, ⟨?_, ⟨?_, ⟨?_, ⟨?_, trivial⟩⟩⟩⟩⟩, ?_⟩
                · intro rr hrr; exact rops_acts (fun x => (rr.1, rr.2.1, x, rr.2.2.2)) rfl (acts_makeMap encP kbool.T) pR (fun _ => (by exact List.Perm.symm (perm_at 0 rfl))) (fun r hr => ⟨trivial, by first | exact rfl | exact ⟨rfl, rfl⟩ | exact ⟨rfl, rfl, rfl⟩⟩) (fun _ _ _ _ h => h)
                · intro rr hrr; exact rops_acts (fun x => (rr.1, rr.2.1, x, rr.2.2.2)) rfl (acts_makeMap encP kbool.T) pR (fun _ => (by exact List.Perm.symm (perm_at 1 rfl))) (fun r hr => ⟨trivial, by first | exact rfl | exact ⟨rfl, rfl⟩ | exact ⟨rfl, rfl, rfl⟩⟩) (fun _ _ _ _ h => h)
                · intro rr hrr; exact rops_acts (fun x => (rr.1, rr.2.1, x, rr.2.2.2)) rfl (acts_makeMap encP kbool.T) pR (fun _ => (by exact List.Perm.symm (perm_at 1 rfl))) (fun r hr => ⟨trivial, by first | exact rfl | exact ⟨rfl, rfl⟩ | exact ⟨rfl, rfl, rfl⟩⟩) (fun _ _ _ _ h => h)
                · intro rr hrr; exact rops_acts (fun x => (rr.1, rr.2.1, x, rr.2.2.2)) rfl (acts_makeMap encP kbool.T) pR (fun _ => (by exact List.Perm.symm (perm_at 2 rfl))) (fun r hr => ⟨trivial, by first | exact rfl | exact ⟨rfl, rfl⟩ | exact ⟨rfl, rfl, rfl⟩⟩) (fun _ _ _ _ h => h)
                · exact ⟨fun _ r r' h => by first | rfl | (have h : r'.2 = r.2 := h; show (fun rr => IsV (mp rr.2.2.1)) r = (fun rr => IsV (mp rr.2.2.1)) r'; simp only [h]), ⟨fun _ r r' h => by first | rfl | (have h : r'.1 = r.1 ∧ r'.2.2 = r.2.2 := h; show (fun rr => IsV (mp rr.2.2.1)) r = (fun rr => IsV (mp rr.2.2.1)) r'; simp only [h]), ⟨fun h => Bool.noConfusion (h.symm.trans (by kernel_rfl : _ = true)), ⟨fun _ r r' h => by first | rfl | (have h : r'.1 = r.1 ∧ r'.2.1 = r.2.1 ∧ r'.2.2.1 = r.2.2.1 := h; show (fun rr => IsV (mp rr.2.2.1)) r = (fun rr => IsV (mp rr.2.2.1)) r'; simp only [h]), trivial⟩⟩⟩⟩
              · refine ⟨⟨[[true, true, true, false]], by kernel_rfl, ⟨?_, trivial⟩⟩, ?_⟩
                · intro rr hrr; exact rgo rr rfl ⟨hrr, rfl⟩ (rP (pu_build (d := kAl) (v0 := (.map none, .map none, .map none)) (ps := [(0, 1), (1, 1), (2, 1)]) zAlp (by kernel_rfl) rfl (fills_cons rfl lx0 (by exact OT.raw (oT rfl) rfl) (fills_cons rfl lx1 (by exact OT.raw (oT rfl) rfl) (fills_cons rfl lx2 (by exact OT.raw (oT rfl) rfl) fills_nil)))))
                · exact ⟨fun h => Bool.noConfusion (h.symm.trans (by kernel_rfl : _ = true)), ⟨fun h => Bool.noConfusion (h.symm.trans (by kernel_rfl : _ = true)), ⟨fun h => Bool.noConfusion (h.symm.trans (by kernel_rfl : _ = true)), ⟨fun _ r r' h => by first | rfl | (have h : r'.1 = r.1 ∧ r'.2.1 = r.2.1 ∧ r'.2.2.1 = r.2.2.1 := h; show (fun rr => kAl.T (mp rr.1, mp rr.2.1, mp rr.2.2.1)) r = (fun rr => kAl.T (mp rr.1, mp rr.2.1, mp rr.2.2.1)) r'; simp only [h]), trivial⟩⟩⟩⟩
              · refine ⟨⟨[[true, true, true, false]], by kernel_rfl, ⟨?_, trivial⟩⟩, ?_⟩
                · intro rr hrr; exact rops_acts (fun x => (rr.1, rr.2.1, rr.2.2.1, x)) rfl (acts_box (d := kAl) (oT rfl)) pR (fun _ => (by exact List.Perm.symm (perm_at 3 rfl))) (fun r hr => ⟨trivial, by first | exact rfl | exact ⟨rfl, rfl⟩ | exact ⟨rfl, rfl, rfl⟩⟩) (fun _ _ _ _ h => h)
                · exact ⟨fun h => Bool.noConfusion (h.symm.trans (by kernel_rfl : _ = true)), ⟨fun h => Bool.noConfusion (h.symm.trans (by kernel_rfl : _ = true)), ⟨fun h => Bool.noConfusion (h.symm.trans (by kernel_rfl : _ = true)), ⟨fun h => Bool.noConfusion (h.symm.trans (by kernel_rfl : _ = true)), trivial⟩⟩⟩⟩
             case h =>
              intro rr14 hrr14
              refine tr_frz Frz.blk (perm_at 3 rfl) 116 (oT rfl) (fun H q => q) (oA (acts_update (v := some (mp rr14.1, mp rr14.2.1, mp rr14.2.2.1)) mkS Tryz.underlying69 (oT rfl) (by exact pA 10 rfl) (oT rfl) (oT rfl)) (by exact pA 10 rfl) rfl rfl (fun _ _ => ?_))
              refine tn (bn (nn (te (ec 1 rfl (ec 2 rfl (ec 9 rfl (ec 50 rfl (ec 51 rfl (ec 52 rfl en)))))) ?_)))
              have hst1 := from_step hk ha2
              have hst2 := to_step hk ha2
              refine rg (oP (pad (oT rfl) ot (by omega)) rfl (mv rfl rfl (tn (nn ?_))))
              exact tg (k + 1, v10_13, v11_13, v12_7, gs ++ [g12_5], ptk a.2.1 ⟨rr14.1, rr14.2.1, rr14.2.2.1, [], [], []⟩ m) ⟨(by show k + 1 ≤ v.2.2.2.1.length; omega), (by show (gs ++ [g12_5]).length = k + 1; rw [List.length_append, hgs]; rfl), als_new hals hk ha2 hn⟩ (by show v.2.2.2.1.length - (k + 1) < v.2.2.2.1.length - k; omega) (ea (ec 52 rfl en) (ec 1 rfl (ec 2 rfl (ec 9 rfl (ec 50 rfl (ec 51 rfl en)))))) (op (picks_trans (new_own [_, _, _, _, _, _, _] hn) (by rw [hst1, hst2]; exact (by (repeat (first | refine pc 0 rfl ?_ | refine pc 1 rfl ?_)); exact pd (pl)))))
           · have hs : (lkp a.2.1 m).isSome = true := by
              cases hx : lkp a.2.1 m with
              | none => rw [hx] at c105; cases c105
              | some a => rfl
             refine sk (bn (nn (te (ec 1 rfl (ec 2 rfl (ec 9 rfl (ec 50 rfl (ec 51 rfl (ec 52 rfl en)))))) ?_)))
             have hst1 := from_step hk ha2
             have hst2 := to_step hk ha2
             refine rg (oP (pad (oT rfl) ot (by omega)) rfl (mv rfl rfl (tn (nn ?_))))
             exact tg (k + 1, v10_13, v11_13, v12_7, gs ++ [g12_5], m) ⟨(by show k + 1 ≤ v.2.2.2.1.length; omega), (by show (gs ++ [g12_5]).length = k + 1; rw [List.length_append, hgs]; rfl), als_more hals hk ha2 hs⟩ (by show v.2.2.2.1.length - (k + 1) < v.2.2.2.1.length - k; omega) (ea (ec 52 rfl en) (ec 1 rfl (ec 2 rfl (ec 9 rfl (ec 50 rfl (ec 51 rfl en)))))) (op (by rw [hst1, hst2]; exact (by (repeat (first | refine pc 0 rfl ?_ | refine pc 1 rfl ?_)); exact pd (pl))))
      · refine tr_exit (tx (tx (bh (nn (sq (sq (te (ec 1 rfl (ec 2 rfl (ec 9 rfl en))) ?_)))))))
        obtain rfl : k = v.2.2.2.1.length := by simp only [decide_eq_false_iff_not] at c53; omega
        rw [List.take_of_length_le (show (fromL v.2.2.2.1).length ≤ v.2.2.2.1.length by rw [fromL_len]; exact Nat.le_refl _), List.take_of_length_le (show (toL v.2.2.2.1).length ≤ v.2.2.2.1.length by rw [toL_len]; exact Nat.le_refl _)]
        refine rg (oP (pf (oT rfl) y50) rfl (oP (plb (oT rfl) (by exact mA 5 rfl) lv2 y51) rfl ?_))
        refine oP (pls (oT rfl) Tryz.underlying22) rfl (oP (pu_move ot) rfl (tn (tr_nilItem 3 kI (nn (tb (tr_loopK (σ := Nat × Value) (ec 1 rfl (ec 9 rfl (ec 119 rfl (ec 120 rfl en)))) (fun s => [(121, I64 (s.1 : Int))]) (fun s => (BlkI g4_6 73 kR (v, (varsL v.2.2.2.1), fv, tv, s.2, mp rr4.1, lvv, mp rr4.2) :: OwnI 3 kI s.2 ((outL v).take s.1) :: OwnI 3 kI fv (fromL v.2.2.2.1) :: OwnI 3 kI tv (toL v.2.2.2.1) :: OwnI 76 kraw lvv (List.map mp (g6_1 :: gs)) :: MapI rr4.2 encS kI.T [] :: BlkI g0_0 25 kV v :: MapI rr4.1 encS (kpt kAl).T (ptrsA m) :: (lvI (g6_1 :: gs) (lvN v.2.2.2.1.length) ++ alsI m))) (fun s => s.1 ≤ v.2.2.1.length) (fun s => v.2.2.1.length - s.1) (0, nilS) (Nat.zero_le _) ?_ (op (by (repeat (first | refine pc 0 rfl ?_ | refine pc 1 rfl ?_)); exact pl)) ?_))))))
        · exact (ec 121 rfl en)
        · rintro ⟨i, ov⟩ hi
          dsimp only at hi ⊢
          refine sq (te (ec 1 rfl (ec 9 rfl (ec 119 rfl (ec 120 rfl (ec 121 rfl en))))) (rg (oP (pu_lss (oT rfl) (oT rfl)) rfl (tn (nn (sq (tc (oT rfl) (fun c122 => ?_) (fun c122 => ?_))))))))
          · refine sk (nn (sq (tb (sq (te (ec 1 rfl (ec 9 rfl (ec 119 rfl (ec 120 rfl (ec 121 rfl en))))) ?_)))))
            have hil : i < v.2.2.1.length := by simpa using c122
            obtain ⟨o, hoo⟩ : ∃ o, at' v.2.2.1 (i : Int) = o := ⟨_, rfl⟩
            have hoi : o ∈ (varsL v.2.2.2.1) := hov o (by rw [← hoo, at'_nat hil]; exact List.getElem_mem hil)
            have hol : ((outL v).take i).length = i := by rw [List.length_take, outL_len]; omega
            have hst := out_step2 hil hoo hoi
            refine rg (oP (pu_index (oT rfl) (oT rfl) Tryz.underlying22 y36 (by omega) (by omega)) rfl (oP (pL (oT rfl) y36) rfl (av rfl rfl (tn ?_))))
            rw [hoo]
            refine nn (te (ec 1 rfl (ec 9 rfl (ec 13 rfl (ec 119 rfl (ec 120 rfl (ec 121 rfl en)))))) ?_)
            apply tr_anyG (ρ := Value) (φ := fun rr => True) (p := 12) (Lf := fun c rr => cond c (OwnI 3 kI rr (((outL v).take i) ++ [ixI (varsL v.2.2.2.1) o]) :: BlkI g4_6 73 kR (v, (varsL v.2.2.2.1), fv, tv, ov, mp rr4.1, lvv, mp rr4.2) :: OwnI 3 kI fv (fromL v.2.2.2.1) :: OwnI 3 kI tv (toL v.2.2.2.1) :: OwnI 76 kraw lvv (List.map mp (g6_1 :: gs)) :: MapI rr4.2 encS kI.T [] :: BlkI g0_0 25 kV v :: MapI rr4.1 encS (kpt kAl).T (ptrsA m) :: (lvI (g6_1 :: gs) (lvN v.2.2.2.1.length) ++ alsI m)) (BlkI g4_6 73 kR (v, (varsL v.2.2.2.1), fv, tv, ov, mp rr4.1, lvv, mp rr4.2) :: OwnI 3 kI ov ((outL v).take i) :: OwnI 3 kI fv (fromL v.2.2.2.1) :: OwnI 3 kI tv (toL v.2.2.2.1) :: OwnI 76 kraw lvv (List.map mp (g6_1 :: gs)) :: MapI rr4.2 encS kI.T [] :: BlkI g0_0 25 kV v :: MapI rr4.1 encS (kpt kAl).T (ptrsA m) :: (lvI (g6_1 :: gs) (lvN v.2.2.2.1.length) ++ alsI m))) nilS (by kernel_rfl) (m := 13) (ns := [[(9, none)], [(9, none)], [(126, some 1)], [(127, some 2)], [(128, some 3)], [(9, none)], [(130, some 5)], [(131, some 6)], [(132, some 7)], [(13, none)], [(133, some 8), (134, some 9)], [(135, some 10)], [(129, some 4), (136, some 11)]]) (by kernel_rfl) (by kernel_rfl) (Ts := fun rr => [_, _, _, _, _, _, _, _, _, _, _, _, IsV rr]) (fun _ => rfl)
            case hops =>
             refine ⟨?_, ?_, ?_, ?_, ?_, ?_, ?_, ?_, ?_, ?_, ?_, ?_, ?_, trivial⟩
             · exact ⟨by intro c r hc; cases c <;> exact rgo r rfl ⟨rfl, trivial⟩ (rmv rfl), fun _ _ _ _ => rfl⟩
             · exact ⟨cBf (by kernel_rfl) fun r _ => rgo r rfl ⟨rfl, trivial⟩ (rmv rfl), fun _ _ _ _ => rfl⟩
             · exact ⟨cBf (by kernel_rfl) fun r _ => rgo r rfl ⟨rfl, trivial⟩ (rP (pu_nilCheck (oT rfl))), fun _ _ _ _ => rfl⟩
             · exact ⟨cBf (by kernel_rfl) fun r _ => rgo r rfl ⟨rfl, trivial⟩ (rP (pf (oT rfl) y114)), fun _ _ _ _ => rfl⟩
             · exact ⟨cBf (by kernel_rfl) fun r _ => rgo r rfl ⟨rfl, trivial⟩ (rP (pu_load_rawf (oT rfl) (by exact mA 0 rfl) lr4 y111)), fun _ _ _ _ => rfl⟩
             · exact ⟨cBf (by kernel_rfl) fun r _ => rgo r rfl ⟨rfl, trivial⟩ (rmv rfl), fun _ _ _ _ => rfl⟩
             · exact ⟨cBf (by kernel_rfl) fun r _ => rgo r rfl ⟨rfl, trivial⟩ (rP (pu_nilCheck (oT rfl))), fun _ _ _ _ => rfl⟩
             · exact ⟨cBf (by kernel_rfl) fun r _ => rgo r rfl ⟨rfl, trivial⟩ (rP (pf (oT rfl) y146)), fun _ _ _ _ => rfl⟩
             · exact ⟨cBf (by kernel_rfl) fun r _ => rgo r rfl ⟨rfl, trivial⟩ (rP (plb (oT rfl) (by exact mA 0 rfl) lr1 y51)), fun _ _ _ _ => rfl⟩
             · exact ⟨cBf (by kernel_rfl) fun r _ => rgo r rfl ⟨rfl, trivial⟩ (rmv rfl), fun _ _ _ _ => rfl⟩
             · exact ⟨cBf (by kernel_rfl) fun r _ => rgo r rfl ⟨rfl, trivial⟩ (rop_acts rfl (aC (IndexS_fn (varsL v.2.2.2.1) _ (by omega)) y37 (oc (oT rfl) (oc (oT rfl) oN)) pR) (fun _ _ _ _ h => h)), fun _ _ _ _ => rfl⟩
             · exact ⟨cBf (by kernel_rfl) fun r _ => rgo r rfl ⟨rfl, trivial⟩ (rop_acts rfl (acts_lit (d := kI) (v0 := 0) y68 y2 zI (show 1 * 1 ≤ 16777216 from by decide) (by decide) (fills_arr rfl rfl (by decide) (oT rfl) fills_nil)) (fun _ _ _ _ h => h)), fun _ _ _ _ => rfl⟩
             · refine ⟨?_, ?_⟩
               · exact cBf (by kernel_rfl) fun r _ => ropg_acts rfl (acts_append (oT rfl) (by exact pA 1 rfl) (oT rfl) y68 (by (simp; omega)) (by (simp; omega))) (by exact pA 1 rfl) (fun r => pR) (fun _ _ _ => trivial) (fun _ _ _ _ h => h)
               · exact fun _ h => absurd h (by decide)
            case h =>
             intro v19_12 _
             refine oP (pu_nilCheck (oT rfl)) rfl (oP (pf (oT rfl) y114) rfl (tr_fact (mem_at 0 rfl) own_cell fun hone19 => (oA (acts_store_rawf (oT rfl) (oT rfl) (by assumption) (by exact pA 1 rfl) lr4 y111) (by exact pA 1 rfl) rfl rfl (fun _ _ => ?_))))
             refine tn (bn (nn (te (ec 1 rfl (ec 9 rfl (ec 119 rfl (ec 120 rfl (ec 121 rfl en))))) (rg (oP (pad (oT rfl) ot (by omega)) rfl (mv rfl rfl (tn (nn ?_))))))))
             exact tg (i + 1, v19_12) (by show i + 1 ≤ v.2.2.1.length; omega) (by show v.2.2.1.length - (i + 1) < v.2.2.1.length - i; omega) (ea (ec 121 rfl en) (ec 1 rfl (ec 9 rfl (ec 119 rfl (ec 120 rfl en))))) (op (by rw [hst]; exact (by (repeat (refine pc 0 rfl ?_)); exact pl)))
          · refine tr_exit (tx (tx (bh (nn (sq (sq (te (ec 1 rfl (ec 9 rfl en)) ?_)))))))
            obtain rfl : i = v.2.2.1.length := by simp only [decide_eq_false_iff_not] at c122; omega
            rw [List.take_of_length_le (show (outL v).length ≤ v.2.2.1.length by rw [outL_len]; exact Nat.le_refl _)]
            obtain ⟨n, hn⟩ : ∃ n : NO, n = (⟨v, rr4.1, g6_1 :: gs, rr4.2⟩ : NO) := ⟨_, rfl⟩
            refine tr_frz (net_frz g4_6 (⟨v, rr4.1, g6_1 :: gs, rr4.2⟩ : NO) fv tv ov lvv) (R := MapI rr4.2 encS kI.T [] :: BlkI g0_0 25 kV v :: MapI rr4.1 encS (kpt kAl).T (ptrsA m) :: (lvI (g6_1 :: gs) (lvN v.2.2.2.1.length) ++ alsI m)) (by exact net_perm) 9 (oT rfl) (fun H q => q) ?_
            refine tr_perm (show List.Perm _ (BlkI g0_0 25 kV v :: NetI (⟨v, rr4.1, g6_1 :: gs, rr4.2⟩ : NO) m (lvN v.2.2.2.1.length) []) from new_perm2) ?_
            have hnl : (⟨v, rr4.1, g6_1 :: gs, rr4.2⟩ : NO).gl.length = (⟨v, rr4.1, g6_1 :: gs, rr4.2⟩ : NO).v.2.2.2.1.length + 1 := by show (g6_1 :: gs).length = _; rw [List.length_cons, hgs]
            have hst0 := net_start hnl ha1 (by have h9 := hals; rw [List.take_length] at h9; exact h9)
            rw [← hn] at hst0 ⊢
            have hnv : n.v = v := by rw [hn]
            have hvn : okV n.v = true := by rw [hnv]; exact hv
            refine rg (mv rfl rfl (oP (pls (oT rfl) Tryz.underlying26) rfl (oP (pu_move ot) rfl (tn (nn (tb (tr_loopK (σ := Nat × AlM × List Rw × List (Lab × Int)) (ec 9 rfl (ec 141 rfl (ec 142 rfl en))) (fun s => [(143, I64 (s.1 : Int))]) (fun s => (BlkI g0_0 25 kV v :: NetI n s.2.1 s.2.2.1 s.2.2.2)) (fun s => s.1 ≤ es.length ∧ NetOk n s.2.1 s.2.2.1 s.2.2.2 (onceE (es.take s.1))) (fun s => es.length - s.1) (0, m, lvN v.2.2.2.1.length, []) ⟨Nat.zero_le _, (by rw [← hnv]; exact hst0)⟩ ?_ (op pl) ?_)))))))
            · exact (ec 143 rfl en)
            · rintro ⟨j, q⟩ ⟨hj, hok⟩
              dsimp only at hj hok ⊢
              refine sq (te (ec 9 rfl (ec 141 rfl (ec 142 rfl (ec 143 rfl en)))) (rg (oP (pu_lss (oT rfl) (oT rfl)) rfl (tn (nn (sq (tc (oT rfl) (fun c144 => ?_) (fun c144 => ?_))))))))
              · refine sk (nn (sq (tb (sq (te (ec 9 rfl (ec 141 rfl (ec 142 rfl (ec 143 rfl en)))) ?_)))))
                have hjl : j < es.length := by simpa using c144
                obtain ⟨e, hee⟩ : ∃ e, at' es (j : Int) = e := ⟨_, rfl⟩
                have hst := once_at hjl
                rw [hee] at hst
                have hie : inI e.1 ∧ inI e.2.2 := hei e (by rw [← hee, at'_nat hjl]; exact List.getElem_mem hjl)
                have hol := once_len (es.take j)
                rw [List.length_take] at hol
                refine rg (oP (pu_index (oT rfl) (oT rfl) Tryz.underlying26 y56 (by omega) (by omega)) rfl (oP (pL (oT rfl) y56) rfl (oA (acts_alloc (zE)) pR rfl rfl (fun g23_2 _ => ?_))))
                refine oA (asv (oT rfl) (oT rfl) (by exact pA 0 rfl) y56) (by exact pA 0 rfl) rfl rfl (fun _ _ => ?_)
                refine tn ?_
                rw [hee]
                refine nn (sq (te (ec 9 rfl (ec 15 rfl (ec 141 rfl (ec 142 rfl (ec 143 rfl en))))) (rg (mv rfl rfl (oP (plv (oT rfl) (by exact mA 0 rfl) y56) rfl ?_)))))
                refine op_tail2 [_, _, _] (lvI n.gl q.2.1) rfl (aC (has_fn n q.1 e) y126 (oc (oT rfl) (oc (oT rfl) oN)) (perm_tail2 (X := [_, _, _]) (Y := lvI n.gl q.2.1))) rfl rfl fun _ _ => (oP (pu_not (oT rfl)) rfl (tn (nn (tc (oT rfl) (fun c150 => ?_) (fun c150 => ?_)))))
                · rw [hok.als.has] at c150
                  have hne : e ∉ onceE (es.take j) := by simpa using c150
                  rw [if_neg hne] at hst
                  refine te (ec 9 rfl (ec 15 rfl (ec 141 rfl (ec 142 rfl (ec 143 rfl en))))) (rg (mv rfl rfl (oP (plv (oT rfl) (by exact mA 0 rfl) y56) rfl ?_)))
                  refine op_tail [_, _] rfl (aC (insert_fn n q.1 q.2.1 q.2.2 (onceE (es.take j)) e hvn hok hne hie (by omega)) y138 (oc (oT rfl) (oc (oT rfl) oN)) (perm_tail (X := [_, _]))) rfl rfl fun u hu => (tn (bn (nn (te (ec 9 rfl (ec 141 rfl (ec 142 rfl (ec 143 rfl en)))) (rg (oP (pad (oT rfl) ot (by omega)) rfl (mv rfl rfl (tn (nn ?_)))))))))
                  exact tg (j + 1, u) ⟨(by show j + 1 ≤ es.length; omega), (by rw [hst]; exact hu)⟩ (by show es.length - (j + 1) < es.length - j; omega) (ea (ec 143 rfl en) (ec 9 rfl (ec 141 rfl (ec 142 rfl en)))) (op (by (repeat (refine pc 1 rfl ?_)); exact pd (pl)))
                · rw [hok.als.has] at c150
                  have hne : e ∈ onceE (es.take j) := by simpa using c150
                  rw [if_pos hne] at hst
                  refine sk (bn (nn (te (ec 9 rfl (ec 141 rfl (ec 142 rfl (ec 143 rfl en)))) (rg (oP (pad (oT rfl) ot (by omega)) rfl (mv rfl rfl (tn (nn ?_))))))))
                  exact tg (j + 1, q) ⟨(by show j + 1 ≤ es.length; omega), (by rw [hst]; exact hok)⟩ (by show es.length - (j + 1) < es.length - j; omega) (ea (ec 143 rfl en) (ec 9 rfl (ec 141 rfl (ec 142 rfl en)))) (op (by (repeat (refine pc 1 rfl ?_)); exact pd (pl)))
              · refine tr_exit (tx (tx (bh (nn (sq (te (ec 9 rfl en) ?_))))))
                obtain rfl : j = es.length := by simp only [decide_eq_false_iff_not] at c144; omega
                rw [List.take_length] at hok
                refine rg (mv rfl rfl (av rfl rfl (ak rfl (tn (nn (tR ?_))))))
                exact ret_two .ret (.inl rfl) rfl (some (n, q), 0) (oT rfl) (oT rfl) (fun _ _ h => h) (.inr ⟨n, q.1, q.2.1, q.2.2, rfl, hnv, hv, hnm, hok⟩) (pd pl)
end Go.Proofs.YtaahhghlpoiihaaGreatDoor
/- Contracts over all of a net's items; edges that come and go again. -/
namespace Go.Gw
open Go
theorem Ct.frame {P : Program} {f : FuncId} {As : List Ty} {J L R : List It} {ρ : Type} {T : ρ → Ty} {I I' : ρ → List It} {φ : ρ → Prop} (h : Ct P f As J ρ T I φ) (hL : List.Perm L (J ++ R)) (hI : ∀ r, List.Perm (I r ++ R) (I' r)) : Ct P f As L ρ T I' φ := by
 intro H w args hon hA hO
 have o' := hO.perm hL
 refine Calls.mono (h H w args hon hA o'.left) ?_
 rintro e w' ⟨r, v, H', he, hφ, s, hv, ho⟩
 have hsub : ∀ g, g ∈ blks J → g ∈ blks L := fun g hg => by
  have := (hL.filterMap It.blk).mem_iff (a := g)
  refine this.2 ?_
  rw [List.filterMap_append]
  exact List.mem_append_left _ hg
 have hR : ∀ g, g ∈ blks R → g ∈ blks L := fun g hg => by
  have := (hL.filterMap It.blk).mem_iff (a := g)
  refine this.2 ?_
  rw [List.filterMap_append]
  exact List.mem_append_right _ hg
 refine ⟨r, v, H', he, hφ, s.weaken hsub, hv, Owns.perm ?_ (hI r)⟩
 have hap := o'.apart
 refine Owns.append (ho.mono fun g _ hg => hg.imp (hsub g) id) ?_ fun g hg hr => ?_
 · have := o'.right.st s fun g hg hj => hap g hj hg
   refine ⟨this.all, this.nodup, fun g hg => ?_⟩
   obtain ⟨a, b, _⟩ := this.own g hg
   exact ⟨a, b, .inl (hR g hg)⟩
 · rcases (ho.own g hg).2.2 with h1 | h1
   · exact hap g h1 hr
   · have := (o'.right.own g hr).1; omega
end Go.Gw
namespace Go.Proofs.YtaahhghlpoiihaaGreatDoor
open Go Go.Gw Go.So Go.Tu Go.Jn Go.Nt
set_option linter.unusedVariables false
set_option linter.unusedSimpArgs false
def cntN (v : Vw) (E : List Ed) (t : Tp) : Int := ((allOf v E).count t : Int)
section
variable {n : NO} {al : AlM} {lv : List Rw} {ct : List (Lab × Int)} {E : List Ed}
theorem read_net (hv : okV n.v = true) (h : NetOk n al lv ct E) (hm : manyB n.v E = false) : Ct Tryz.prog 11 [AtT kNet (netV n)] (NetI n al lv ct) Unit (fun _ => SlT kT (resL n.v E)) (fun _ => NetI n al lv ct) (fun _ => True) :=
 (NRead_fn n ct (allOf n.v E) h.keys_ (fun t ht => out_in hv h.als.inE ht) (h.ctlen hm)).frame (R := lvI n.gl lv ++ AlI n al) (List.Perm.refl _) fun _ => List.Perm.refl _
theorem NetOk.count (hv : okV n.v = true) (h : NetOk n al lv ct E) {t : Tp} (ht : InT t) : (lkp (idB t) ct).getD 0 = cntN n.v E t := by
 rw [h.cnt.get]
 unfold cntN allOf Nt.cnt
 have hp : ((lv.getD n.v.2.2.2.1.length []).map Prod.snd).Perm (setR (rowsK (byLab E) (varsL n.v.2.2.2.1) n.v.2.2.2.1)) := perm_mem h.last.rows.1 (setR_nodup _) fun x => by
  rw [h.last.rows.2, (setR_spec _).2, ← rowK_rows, List.take_length]
 rw [hp.countP_eq, List.count_eq_countP, List.countP_map]
 congr 1
 refine List.countP_congr fun r hr => ?_
 have hr2 : RowK n.v.2.2.2.1 E n.v.2.2.2.1.length r := rowK_rows.1 (by rw [List.take_length]; exact ((setR_spec _).2 r).1 hr)
 have hin := (out_in hv h.als.inE (mem_all.2 ⟨r, hr2, rfl⟩)).1
 simp only [Function.comp_apply, decide_eq_true_eq, beq_iff_eq]
 exact ⟨idB_inj hin ht, fun e => by rw [e]⟩
theorem count_net (hv : okV n.v = true) (h : NetOk n al lv ct E) (t : Tp) (hl : t.length ≤ 1000) (ht : t.length = n.v.2.2.1.length → InT t) : Ct Tryz.prog 20 [AtT kNet (netV n), SlT kI t] (NetI n al lv ct) Unit (fun _ => I64 (if t.length = n.v.2.2.1.length then cntN n.v E t else 0)) (fun _ => NetI n al lv ct) (fun _ => True) := by
 have h1 := NCount_fn n ct t hl
 have e : (if t.length = n.v.2.2.1.length then (lkp (idB t) ct).getD 0 else 0) = if t.length = n.v.2.2.1.length then cntN n.v E t else 0 := by
  split
  · rename_i c; exact h.count hv (ht c)
  · rfl
 rw [e] at h1
 exact h1.frame (R := lvI n.gl lv ++ AlI n al) (List.Perm.refl _) fun _ => List.Perm.refl _
end
section
variable {v : Vw} {E E' es : List Ed} {add : Bool}
theorem res_rises : risesB (resL v E) = true := rises_iff.2 (setR_spec _).1
theorem diff_res : diffR (resL v E) (resL v E') = ((withoutL (resL v E') (resL v E), withoutL (resL v E) (resL v E')), 0) := by
 unfold diffR
 rw [res_rises, res_rises]; rfl
theorem doE_zero (h : (doE v E es add).2.2 = 0) : lookC E es add = 0 ∧ (add = true → manyB v (E ++ es) = false) ∧ doE v E es add = (goE E es add, diffR (resL v E) (resL v (goE E es add))) := by
 unfold doE at h ⊢
 by_cases c : lookC E es add = 0
 · rw [if_pos c] at h ⊢
   by_cases c2 : (add && manyB v (E ++ es)) = true
   · rw [if_pos c2] at h; cases h
   · rw [if_neg c2]
     refine ⟨c, fun ha => ?_, rfl⟩
     subst ha
     simpa using c2
 · rw [if_neg c] at h; exact absurd h c
theorem doE_not (h : ¬ (doE v E es add).2.2 = 0) : (doE v E es add).1 = E ∧ (doE v E es add).2.1 = ([], []) := by
 unfold doE at h ⊢
 by_cases c : lookC E es add = 0
 · rw [if_pos c] at h ⊢
   by_cases c2 : (add && manyB v (E ++ es)) = true
   · rw [if_pos c2]; exact ⟨rfl, rfl⟩
   · rw [if_neg c2, diff_res] at h; exact absurd rfl h
 · rw [if_neg c]; exact ⟨rfl, rfl⟩
end
theorem new_say {v : Vw} {es : List Ed} {r : NewR} (h : NewSay v es r) (hc : (decide (r.2 ≠ 0) || (r.1.map fun x => netV x.1).isNone) = false) : ∃ n m lv ct, r = (some (n, m, lv, ct), 0) ∧ n.v = v ∧ okV v = true ∧ manyB v (onceE es) = false ∧ NetOk n m lv ct (onceE es) := by
 rcases h with ⟨h1, h2, _⟩ | ⟨n, m, lv, ct, h1, h2, h3, h4, h5⟩
 · rw [h1] at hc; simp at hc
 · refine ⟨n, m, lv, ct, h1, h2, h3, ?_, h5⟩
   cases hb : manyB v (onceE es) with
   | false => rfl
   | true => exact absurd (many_iff.1 ((many_congr fun x => once_mem).symm.trans hb)) h4
theorem new_none {v : Vw} {es : List Ed} {r : NewR} (h : NewSay v es r) (hc : (decide (r.2 ≠ 0) || (r.1.map fun x => netV x.1).isNone) = true) : (decide (r.2 ≠ 0) && (r.1.map fun x => netV x.1).isNone) = true := by
 rcases h with ⟨h1, h2, _⟩ | ⟨n, m, lv, ct, rfl, _⟩
 · rw [h1]; simp [h2]
 · simp at hc
end Go.Proofs.YtaahhghlpoiihaaGreatDoor
/- Walks through the Go functions rhizomelaw11.Fits, rhizomelaw12.few, rhizomelaw12.awake, as typed contracts. -/
namespace Go.Proofs.YtaahhghlpoiihaaGreatDoor
open Go Go.Gw Go.So Go.Tu Go.Jn Go.Nt
set_option linter.unusedVariables false
set_option linter.unusedSimpArgs false
abbrev Opn := List Ed × Bool
abbrev kOp : Kd Opn := kpair (ksl kE) kbool
theorem lo0 {t : Opn} : Lens kOp (ksl kE) 0 t t.1 (fun y => (y, t.2)) := Lens.fst
theorem lo1 {t : Opn} : Lens kOp kbool 1 t t.2 (fun y => (t.1, y)) := Lens.snd (a := ksl kE)
def totE (es : List Ed) (sc : List Opn) (k : Nat) : Int := (es.length : Int) + ((sc.take k).map fun o => (o.1.length : Int)).sum
theorem tot_step {es : List Ed} {sc : List Opn} {k : Nat} (h : k < sc.length) : totE es sc (k + 1) = totE es sc k + ((at' sc (k : Int)).1.length : Int) := by
 unfold totE
 rw [List.take_succ_eq_append_getElem h, List.map_append, List.sum_append, at'_nat h]
 simp [Int.add_assoc]
theorem tot_pos (es : List Ed) (sc : List Opn) : ∀ k, 0 ≤ totE es sc k := fun k => by
 have : ∀ l : List Opn, 0 ≤ (l.map fun o => (o.1.length : Int)).sum := fun l => by
  induction l with
  | nil => simp
  | cons a l ih => simp; omega
 have := this (sc.take k)
 unfold totE; omega
def fewB (v : Vw) (es : List Ed) (sc : List Opn) : Bool := fitsB v es && decide ((sc.length : Int) ≤ 12) && decide (totE es sc sc.length ≤ 40)
abbrev vF : Vw := ([102], 1, [[120]], [([120], [97], [121])], [])
theorem awake_new {r : NewR} (h : NewSay vF [(1, [97], 2)] r) : ∃ ga gl gc m lv ct, r = (some (⟨vF, ga, gl, gc⟩, m, lv, ct), 0) ∧ NetOk ⟨vF, ga, gl, gc⟩ m lv ct [(1, [97], 2)] := by
 rcases h with ⟨h1, h2, h3⟩ | ⟨n, m, lv, ct, rfl, hv, _, _, h5⟩
 · exfalso
   rcases h3 with ⟨h3, _⟩ | ⟨_, h4, _⟩ | ⟨_, _, h5⟩
   · rw [show okV vF = true from by decide] at h3; cases h3
   · have := many_iff.2 h4
     rw [show manyB vF [(1, [97], 2)] = false from by decide +kernel] at this; cases this
   · exact h2 (congrArg (fun x : List Tp × List Int × Int => x.2.2) h5)
 · obtain ⟨v, ga, gl, gc⟩ := n
   obtain rfl : v = vF := hv
   exact ⟨ga, gl, gc, m, lv, ct, rfl, h5⟩
theorem in_small {n : Int} (h0 : 0 ≤ n) (h1 : n < 1000) : inI n := by unfold inI; omega
theorem in_one {a b : Int} {l : Lab} (h0 : inI a) (h1 : inI b) : ∀ e ∈ [(a, l, b)], inI e.1 ∧ inI e.2.2 := fun e he => by rw [List.mem_singleton.1 he]; exact ⟨h0, h1⟩
theorem in_two {a b c d : Int} {l m : Lab} (h0 : inI a) (h1 : inI b) (h2 : inI c) (h3 : inI d) : ∀ e ∈ [(a, l, b), (c, m, d)], inI e.1 ∧ inI e.2.2 := fun e he => by
 rcases List.mem_cons.1 he with rfl | he
 · exact ⟨h0, h1⟩
 · rw [List.mem_singleton.1 he]; exact ⟨h2, h3⟩
theorem aw1 : doE vF [(1, [97], 2)] [(1, [97], 3)] true = ([(1, [97], 2), (1, [97], 3)], ([], []), 0) := by decide +kernel
theorem aw2 : doE vF [(1, [97], 2), (1, [97], 3)] [(1, [97], 2), (1, [97], 3)] false = ([], ([], [[1]]), 0) := by decide +kernel
theorem awv : okV vF = true := by decide
theorem awm1 : manyB vF [(1, [97], 2)] = false := by decide +kernel
theorem awm2 : manyB vF [(1, [97], 2), (1, [97], 3)] = false := by decide +kernel
theorem awm3 : manyB vF [] = false := by decide +kernel
theorem aw3 : resL vF [] = [] := by decide +kernel
theorem few_back {v : Vw} {es : List Ed} (h : fitsB v es = true) : es.length ≤ 25 ∧ v.2.2.2.1.length ≤ 12 ∧ v.2.2.1.length ≤ 12 := by
 unfold fitsB at h
 simp only [Bool.and_eq_true, decide_eq_true_eq] at h
 omega

set_option maxRecDepth 20000 in
/-- rhizome/rhizomelaw11.Fits -/
theorem NFits_fn (v : Vw) (l : List Ed) : Ct Tryz.prog 24 [kV.T v, SlT kE l] ([]) Unit (fun _ => BoolT (fitsB v l)) (fun _ => []) (fun _ => True) := by
 refine fn_intro Tryz.func24 rfl rfl ?_
 intro H w
 refine sq (te (ec 0 rfl (ec 1 rfl en)) (rg (oA (acts_box (d := kV) (oT rfl)) pR rfl rfl (fun g0_0 _ => ?_))))
 refine ak rfl (tn (nn (sq (te (ec 1 rfl (ec 2 rfl en)) (rg (mv rfl rfl (oP (pls (oT rfl) Tryz.underlying26) rfl (oP (pu_leq (oT rfl) ot) rfl (mv rfl rfl (oG rfl rfl rfl (gm (oT rfl)) (fun hg => by (have hg1 := hg.2; (try simp only [cq2] at hg1); exact pf (oT rfl) y39)) rfl ?_))))))))))
 refine oG rfl rfl rfl (gm (oT rfl)) (fun hg => by (have hg1 := hg.2; (try simp only [cq2] at hg1); exact plb (by exact gu (oT rfl) hg) (by exact mA 0 rfl) lv3 y40)) rfl ?_
 refine oG rfl rfl rfl (gm (oT rfl)) (fun hg => by (have hg1 := hg.2; (try simp only [cq2] at hg1); exact pls (by exact gu (oT rfl) hg) Tryz.underlying23)) rfl ?_
 refine oG rfl rfl rfl (gm (oT rfl)) (fun hg => by (have hg1 := hg.2; (try simp only [cq2] at hg1); exact pu_leq (by exact gu (oT rfl) hg) ot)) rfl ?_
 refine oP (pu_pick_and (oT rfl) (oT rfl)) rfl (mv rfl rfl (oG rfl rfl rfl (gm (oT rfl)) (fun hg => by (have hg1 := hg.2; (try simp only [cq2] at hg1); exact pf (oT rfl) y50)) rfl ?_))
 refine oG rfl rfl rfl (gm (oT rfl)) (fun hg => by (have hg1 := hg.2; (try simp only [cq2] at hg1); exact plb (by exact gu (oT rfl) hg) (by exact mA 0 rfl) lv2 y51)) rfl ?_
 refine oG rfl rfl rfl (gm (oT rfl)) (fun hg => by (have hg1 := hg.2; (try simp only [cq2] at hg1); exact pls (by exact gu (oT rfl) hg) Tryz.underlying22)) rfl ?_
 refine oG rfl rfl rfl (gm (oT rfl)) (fun hg => by (have hg1 := hg.2; (try simp only [cq2] at hg1); exact pu_leq (by exact gu (oT rfl) hg) ot)) rfl ?_
 refine oP (pu_pick_and (oT rfl) (oT rfl)) rfl (av rfl rfl (tn (nn (tR ?_))))
 exact ret_one .ret (.inl rfl) rfl () (OT.val (oT rfl) (congrArg Value.bool (rfl))) trivial (by exact pn)
set_option maxHeartbeats 1000000 in
set_option maxRecDepth 20000 in
/-- rhizome/rhizomelaw12.awake -/
theorem awake12_fn  : Ct Tryz.prog 8 [] ([]) Unit (fun _ => BoolT true) (fun _ => []) (fun _ => True) := by
 refine fn_intro Tryz.func8 rfl rfl ?_
 intro H w
 refine sq (te en (rg (ak rfl (tn (nn (sq (te en (rg (oA (acts_lit (d := kS) (v0 := []) y44 y36 zS (show 1 * 1 ≤ 16777216 from by decide) (by decide) (fills_arr rfl rfl (by decide) ot fills_nil)) pR rfl rfl (fun _ _ => ?_))))))))))
 refine oP (pu_build (d := kA) (v0 := ([], [], [])) (ps := [(0, 1), (1, 1), (2, 1)]) zA (by kernel_rfl) rfl (fills_cons rfl la0 ot (fills_cons rfl la1 ot (fills_cons rfl la2 ot fills_nil)))) rfl (oA (acts_lit (d := kA) (v0 := ([], [], [])) y142 y41 zA (show 1 * 3 ≤ 16777216 from by decide) (by decide) (fills_arr rfl rfl (by decide) (oT rfl) fills_nil)) pR rfl rfl (fun _ _ => ?_))
 refine oP (pu_build (d := kV) (v0 := ([], 0, [], [], [])) (ps := [(0, 1), (1, 1), (2, 1), (3, 1), (4, 1)]) zV (by kernel_rfl) rfl (fills_cons rfl lv0 ot (fills_cons rfl lv1 ot (fills_cons rfl lv2 (oT rfl) (fills_cons rfl lv3 (oT rfl) fills_nil))))) rfl (oA (acts_alloc (zV)) pR rfl rfl (fun g1_4 _ => ?_))
 refine oA (asv (oT rfl) (oT rfl) (by exact pA 0 rfl) y53) (by exact pA 0 rfl) rfl rfl (fun _ _ => ?_)
 refine tn (nn (sq (te (ec 1 rfl en) (rg (oP (plv (oT rfl) (by exact mA 0 rfl) y53) rfl ?_)))))
 refine oP (pu_build (d := kE) (v0 := (0, [], 0)) (ps := [(0, 1), (1, 1), (2, 1)]) zE (by kernel_rfl) rfl (fills_cons rfl le0 ot (fills_cons rfl le1 ot (fills_cons rfl le2 ot fills_nil)))) rfl (oA (acts_lit (d := kE) (v0 := (0, [], 0)) y151 y56 zE (show 1 * 3 ≤ 16777216 from by decide) (by decide) (fills_arr rfl rfl (by decide) (oT rfl) fills_nil)) pR rfl rfl (fun _ _ => ?_))
 refine tr_as 13 (T := kV.T vF) (oT rfl) (tr_as 15 (T := SlT kE [(1, [97], 2)]) (oT rfl) (op_tail [_] rfl (aC (New_fn vF [(1, [97], 2)] (show (1 : Nat) ≤ maxLen from by decide) (show (1 : Nat) ≤ maxLen from by decide) (by decide) (in_one (in_small (by decide) (by decide)) (in_small (by decide) (by decide)))) y152 (oc (oT rfl) (oc (oT rfl) oN)) (perm_tail (X := [_]))) rfl rfl fun r2 hr2 => (mv rfl rfl (oP (pu_extract (oT rfl) rfl) rfl (oP (pu_extract (oT rfl) rfl) rfl (av rfl rfl (av rfl rfl (tn (nn (sq (sq (te (ec 2 rfl (ec 3 rfl en)) ?_))))))))))))
 obtain ⟨ga, gl, gc, m, lv, ct, rfl, hnet⟩ := awake_new hr2
 refine rg (mv rfl rfl (oP (pu_neq (oT rfl) ot) rfl (mv rfl rfl (oG rfl rfl rfl (gm (oT rfl)) (fun hg => by (have hg1 := hg.2; (try simp only [cq2] at hg1); exact pu_move (oT rfl))) rfl ?_))))
 refine oG rfl rfl rfl (gm (oT rfl)) (fun hg => by (have hg1 := hg.2; (try simp only [cq2] at hg1); exact pu_opt_eql (by exact gu (oT rfl) hg) Tryz.underlying32)) rfl ?_
 refine oP (pu_pick_or (oT rfl) (oT rfl)) rfl (tn (nn (tc (oT rfl) (fun c24 => ?_) (fun c24 => ?_))))
 · exact Bool.noConfusion c24 --done
 · refine sk (nn (sq (te (ec 2 rfl en) (tr_as 2 (T := AtT kNet (netV ⟨vF, ga, gl, gc⟩)) (oT rfl) (rg (mv rfl rfl (oP (pu_build (d := kE) (v0 := (0, [], 0)) (ps := [(0, 1), (1, 1), (2, 1)]) zE (by kernel_rfl) rfl (fills_cons rfl le0 ot (fills_cons rfl le1 ot (fills_cons rfl le2 ot fills_nil)))) rfl (oA (acts_lit (d := kE) (v0 := (0, [], 0)) y151 y56 zE (show 1 * 3 ≤ 16777216 from by decide) (by decide) (fills_arr rfl rfl (by decide) (oT rfl) fills_nil)) pR rfl rfl (fun _ _ => ?_)))))))))
   refine tr_as 28 (T := SlT kE [(1, [97], 3)]) (oT rfl) (op_tail [_] rfl (aC (Do_fn ⟨vF, ga, gl, gc⟩ m lv ct [(1, [97], 2)] [(1, [97], 3)] true awv hnet awm1 (in_one (in_small (by decide) (by decide)) (in_small (by decide) (by decide))) (by decide)) y153 (oc (oT rfl) (oc (oT rfl) (oc ot oN))) (perm_tail (X := [_]))) rfl rfl fun q hq => ?_)
   rw [aw1] at hq ⊢
   refine mv rfl rfl (oP (pu_extract (oT rfl) rfl) rfl (oP (pu_extract (oT rfl) rfl) rfl (oA (acts_alloc (z44)) pR rfl rfl (fun g5_7 _ => ?_))))
   refine oA (asv (oT rfl) (oT rfl) (by exact pA 0 rfl) y80) (by exact pA 0 rfl) rfl rfl (fun _ _ => ?_)
   refine av rfl rfl (tn (nn (sq (te (ec 2 rfl (ec 4 rfl (ec 5 rfl en))) (rg (mv rfl rfl (oP (pu_build (d := kE) (v0 := (0, [], 0)) (ps := [(0, 1), (1, 1), (2, 1)]) zE (by kernel_rfl) rfl (fills_cons rfl le0 ot (fills_cons rfl le1 ot (fills_cons rfl le2 ot fills_nil)))) rfl (oP (pu_build (d := kE) (v0 := (0, [], 0)) (ps := [(0, 1), (1, 1), (2, 1)]) zE (by kernel_rfl) rfl (fills_cons rfl le0 ot (fills_cons rfl le1 ot (fills_cons rfl le2 ot fills_nil)))) rfl (oA (acts_lit (d := kE) (v0 := (0, [], 0)) y151 y56 zE (show 2 * 3 ≤ 16777216 from by decide) (by decide) (fills_arr rfl rfl (by decide) (oT rfl) (fills_arr rfl rfl (by decide) (oT rfl) fills_nil))) pR rfl rfl (fun _ _ => ?_))))))))))
   refine tr_as 36 (T := SlT kE [(1, [97], 2), (1, [97], 3)]) (oT rfl) (op_tail [_, _] rfl (aC (Do_fn ⟨vF, ga, gl, gc⟩ q.1 q.2.1 q.2.2 [(1, [97], 2), (1, [97], 3)] [(1, [97], 2), (1, [97], 3)] false awv hq awm2 (in_two (in_small (by decide) (by decide)) (in_small (by decide) (by decide)) (in_small (by decide) (by decide)) (in_small (by decide) (by decide))) (by decide)) y153 (oc (oT rfl) (oc (oT rfl) (oc ot oN))) (perm_tail (X := [_, _]))) rfl rfl fun u hu => ?_)
   rw [aw2] at hu ⊢
   refine mv rfl rfl (oP (pu_extract (oT rfl) rfl) rfl (oP (pu_extract (oT rfl) rfl) rfl (oA (acts_alloc (z44)) pR rfl rfl (fun g6_8 _ => ?_))))
   refine oA (asv (oT rfl) (oT rfl) (by exact pA 0 rfl) y80) (by exact pA 0 rfl) rfl rfl (fun _ _ => ?_)
   refine av rfl rfl (tn (nn (sq (te (ec 2 rfl (ec 4 rfl (ec 5 rfl (ec 6 rfl (ec 7 rfl en))))) (rg (mv rfl rfl (oP (pu_eql (oT rfl) ot) rfl (mv rfl rfl (op_gu_yes rfl rfl rfl (oT rfl) (oP (plv (oT rfl) (by exact mA 1 rfl) y80) rfl ?_))))))))))
   refine op_gu_yes rfl rfl rfl (oT rfl) (oA (aC (Empty_fn ([], []) (by constructor <;> simp) (by constructor <;> simp)) y154 (oc (oT rfl) oN) pR) pR rfl rfl (fun _ _ => ?_))
   refine oP (pu_pick_and (oT rfl) (by exact OT.gu_in (oT rfl) ⟨trivial, rfl⟩)) rfl ?_
   refine mv rfl rfl (op_gu_yes rfl rfl rfl (oT rfl) (mv rfl rfl (op_gu_yes rfl rfl rfl (oT rfl) (oP (pu_eql (oT rfl) ot) rfl (oP (pu_pick_and (oT rfl) (by exact OT.gu_in (oT rfl) ⟨trivial, rfl⟩)) rfl ?_)))))
   refine mv rfl rfl (op_gu_yes rfl rfl rfl (oT rfl) (oP (pf (oT rfl) y27) rfl (op_gu_yes rfl rfl rfl (oT rfl) (oP (plb (oT rfl) (by exact mA 0 rfl) (Lens.snd (a := kL) (b := kL)) y25) rfl ?_))))
   refine op_gu_yes rfl rfl rfl (oT rfl) (oP (pls (oT rfl) Tryz.underlying37) rfl (op_gu_yes rfl rfl rfl (oT rfl) (oP (pu_eql (oT rfl) ot) rfl (oP (pu_pick_and (oT rfl) (by exact OT.gu_in (oT rfl) ⟨trivial, rfl⟩)) rfl ?_))))
   refine mv rfl rfl (op_gu_yes rfl rfl rfl (oT rfl) (oP (pf (oT rfl) y24) rfl (op_gu_yes rfl rfl rfl (oT rfl) (oP (plb (oT rfl) (by exact mA 0 rfl) (Lens.fst (a := kL) (b := kL)) y25) rfl ?_))))
   refine op_gu_yes rfl rfl rfl (oT rfl) (oP (pls (oT rfl) Tryz.underlying37) rfl (op_gu_yes rfl rfl rfl (oT rfl) (oP (pu_eql (oT rfl) ot) rfl (oP (pu_pick_and (oT rfl) (by exact OT.gu_in (oT rfl) ⟨trivial, rfl⟩)) rfl ?_))))
   refine mv rfl rfl (op_gu_yes rfl rfl rfl (oT rfl) (mv rfl rfl (op_gu_yes rfl rfl rfl (oT rfl) (op_tail [_, _, _] rfl (aC (read_net (n := ⟨vF, ga, gl, gc⟩) awv hu awm3) y136 (oc (oT rfl) oN) (perm_tail (X := [_, _, _]))) rfl rfl fun _ _ => ?_))))
   rw [aw3]
   refine op_gu_yes rfl rfl rfl (oT rfl) (oP (pls (oT rfl) Tryz.underlying37) rfl (op_gu_yes rfl rfl rfl (oT rfl) (oP (pu_eql (oT rfl) ot) rfl (oP (pu_pick_and (oT rfl) (by exact OT.gu_in (oT rfl) ⟨trivial, rfl⟩)) rfl ?_))))
   refine av rfl rfl (tn (nn (tR ?_)))
   exact ret_one .ret (.inl rfl) rfl () (OT.val (oT rfl) (congrArg Value.bool (rfl))) trivial (by exact pn)
end Go.Proofs.YtaahhghlpoiihaaGreatDoor
/- Walks through the Go functions rhizomelaw12.NetBack, as typed contracts. -/
namespace Go.Proofs.YtaahhghlpoiihaaGreatDoor
open Go Go.Gw Go.So Go.Tu Go.Jn Go.Nt
set_option linter.unusedVariables false
set_option linter.unusedSimpArgs false
theorem go_many {v : Vw} {E es : List Ed} {add : Bool} (hm : add = true → manyB v (E ++ es) = false) (hE : manyB v E = false) : manyB v (goE E es add) = false := by
 cases add with
 | true => exact hm rfl
 | false =>
  cases hb : manyB v (goE E es false) with
  | false => rfl
  | true => rw [many_mono (fun x hx => (mem_without.1 hx).1) hb] at hE; cases hE

end Go.Proofs.YtaahhghlpoiihaaGreatDoor
/- Walks through the Go functions rhizomelaw12.NetGreat, as typed contracts. -/
namespace Go.Proofs.YtaahhghlpoiihaaGreatDoor
open Go Go.Gw Go.So Go.Tu Go.Jn Go.Nt
set_option linter.unusedVariables false
set_option linter.unusedSimpArgs false
def T1 (k : Nat) : List Int := (List.range k).map fun j : Nat => (j : Int) + 60
end Go.Proofs.YtaahhghlpoiihaaGreatDoor
/- From one set to another by their difference, and by two differences at once. Plain Lean. -/
namespace Go.Tu
open Go Go.Gw Go.So
set_option linter.unusedVariables false
set_option linter.unusedSimpArgs false
theorem meet_no {a b : List Tp} (h : ∀ z, z ∈ a → z ∉ b) : meetB a b = false := by
 rw [Bool.eq_false_iff]
 intro h1
 have h2 := (inter_meet b a).2 h1
 have h3 : 0 < (interL b a).length := by omega
 obtain ⟨z, hz⟩ := List.length_pos_iff_exists_mem.1 h3
 unfold interL at hz
 simp only [List.mem_filter, List.contains_iff_mem] at hz
 exact h z hz.2 hz.1
theorem without_none {a b : List Tp} (h : ∀ z, z ∈ a → z ∈ b) : withoutL a b = [] := by
 unfold withoutL
 rw [List.filter_eq_nil_iff]
 intro z hz
 simp [h z hz]
theorem both_eq {a b s : List Tp} (hs : Rises s) (h : ∀ z, z ∈ s ↔ z ∈ a ∨ z ∈ b) : bothR a b = s := (setR_unique hs fun z => by rw [h z, List.mem_append]).symm
theorem apply_diff {x y : List Tp} (hx : Rises x) (hy : Rises y) : applyR x (withoutL y x, withoutL x y) = (y, 0) := by
 have h1 : ¬ (!risesB x || !risesB (withoutL y x) || !risesB (withoutL x y)) = true := by
  rw [rises_iff.2 hx, rises_iff.2 (without_rises hy), rises_iff.2 (without_rises hx)]; simp
 have h2 : meetB (withoutL y x) x = false := meet_no fun z hz => (mem_without.1 hz).2
 have h3 : withoutL (withoutL x y) x = [] := without_none fun z hz => (mem_without.1 hz).1
 rw [applyR, if_neg h1, if_neg (by rw [h2]; simp), if_neg (by rw [h3]; simp)]
 rw [both_eq hy fun z => ?_]
 simp only [mem_without]
 by_cases c1 : z ∈ x <;> by_cases c2 : z ∈ y <;> simp [c1, c2]
theorem Few.set {l : List Tp} (h : Few l) : Few (setR l) := ⟨Nat.le_trans (setR_len l) h.1, fun x hx => h.2 x (((setR_spec l).2 x).1 hx)⟩
end Go.Tu
namespace Go.Tu
open Go Go.Gw Go.So
end Go.Tu
/- Walks through the Go functions rhizomelaw12.few, rhizomelaw12.NetDeltas, as typed contracts. -/
namespace Go.Proofs.YtaahhghlpoiihaaGreatDoor
open Go Go.Gw Go.So Go.Tu Go.Jn Go.Nt
set_option linter.unusedVariables false
set_option linter.unusedSimpArgs false
def totW (es : List Ed) (sc : List Opn) : Nat → Int
 | 0 => (es.length : Int)
 | k + 1 => IntKind.i64.wrap (totW es sc k + ((at' sc (k : Int)).1.length : Int))
theorem tot_bd {es : List Ed} {sc : List Opn} (hl : es.length ≤ 1000000000000000) (hs : ∀ o ∈ sc, o.1.length ≤ 1000000000000000) : ∀ k, k ≤ sc.length → totE es sc k ≤ ((k : Int) + 1) * 1000000000000000
 | 0, _ => by unfold totE; simp; omega
 | k + 1, hk => by
  have h1 := tot_bd hl hs k (by omega)
  have h2 := hs _ (at_mem (l := sc) (k := k) (by omega))
  rw [tot_step (show k < sc.length by omega)]
  have h3 : (((k + 1 : Nat) : Int) + 1) * 1000000000000000 = ((k : Int) + 1) * 1000000000000000 + 1000000000000000 := by rw [Int.natCast_add]; omega
  omega
theorem totW_eq {es : List Ed} {sc : List Opn} (hl : es.length ≤ 1000000000000000) (hs : ∀ o ∈ sc, o.1.length ≤ 1000000000000000) (h12 : sc.length ≤ 12) : ∀ k, k ≤ sc.length → totW es sc k = totE es sc k
 | 0, _ => by unfold totW totE; simp
 | k + 1, hk => by
  have h1 := totW_eq hl hs h12 k (by omega)
  have h2 := tot_bd hl hs (k + 1) hk
  have h3 := tot_pos es sc (k + 1)
  have h4 := tot_step (es := es) (sc := sc) (k := k) (by omega)
  have h5 : ((k + 1 : Nat) : Int) + 1 ≤ 13 := by omega
  have h6 : (((k + 1 : Nat) : Int) + 1) * 1000000000000000 ≤ 13 * 1000000000000000 := by omega
  rw [totW, h1, ← h4, i64_in (by omega)]
theorem few_w {v : Vw} {es : List Ed} {sc : List Opn} (hl : es.length ≤ 1000000000000000) (hs : ∀ o ∈ sc, o.1.length ≤ 1000000000000000) : (fitsB v es && decide ((sc.length : Int) ≤ 12) && decide (totW es sc sc.length ≤ 40)) = fewB v es sc := by
 unfold fewB
 by_cases h : sc.length ≤ 12
 · rw [totW_eq hl hs h _ (Nat.le_refl _)]
 · have e : decide ((sc.length : Int) ≤ 12) = false := decide_eq_false (by omega)
   rw [e]; simp
theorem tot_mono (es : List Ed) (sc : List Opn) {j : Nat} : ∀ k, j ≤ k → k ≤ sc.length → totE es sc j ≤ totE es sc k
 | 0, h, _ => by obtain rfl : j = 0 := by omega
                 exact Int.le_refl _
 | k + 1, h, hk => by
  by_cases e : j = k + 1
  · subst e; exact Int.le_refl _
  · have h1 := tot_mono (j := j) es sc k (by omega) (by omega)
    have h2 := tot_step (es := es) (sc := sc) (k := k) (by omega)
    omega
theorem few_all {v : Vw} {es : List Ed} {sc : List Opn} (h : fewB v es sc = true) : es.length ≤ 25 ∧ v.2.2.2.1.length ≤ 12 ∧ v.2.2.1.length ≤ 12 ∧ sc.length ≤ 12 ∧ totE es sc sc.length ≤ 40 := by
 unfold fewB at h
 simp only [Bool.and_eq_true, decide_eq_true_eq] at h
 obtain ⟨⟨h1, h2⟩, h3⟩ := h
 obtain ⟨a, b, c⟩ := few_back h1
 exact ⟨a, b, c, by omega, h3⟩
theorem res_say {v : Vw} {E : List Ed} {r : List Tp × List Int × Int} (hv : okV v = true) (hm : manyB v E = false) (h : ResSay v E r) : r = (resL v E, countsOf (allOf v E), 0) := by
 rcases h with ⟨h1, _⟩ | ⟨_, h2, _⟩ | ⟨_, _, h3⟩
 · rw [hv] at h1; cases h1
 · rw [many_iff.2 h2] at hm; cases hm
 · exact h3
theorem counts_at {v : Vw} {E : List Ed} {k : Nat} (h : k < (resL v E).length) : at' (countsOf (allOf v E)) (k : Int) = cntN v E (at' (resL v E) (k : Int)) := by
 have h1 : k < (countsOf (allOf v E)).length := by unfold countsOf; rw [List.length_map]; exact h
 rw [at'_nat h1, at'_nat h]
 simp only [countsOf, cntN, resL, List.getElem_map]
theorem counts_len {v : Vw} {E : List Ed} : (countsOf (allOf v E)).length = (resL v E).length := by unfold countsOf resL; rw [List.length_map]
theorem res_few {v : Vw} {E : List Ed} (hv : okV v = true) (hE : ∀ e ∈ E, inI e.1 ∧ inI e.2.2) (hm : manyB v E = false) : Few (resL v E) := ⟨by
 have h1 := setR_len (allOf v E)
 have h2 := all_len hm
 unfold resL; omega, (res_small hv hE hm).2⟩
theorem apply_res {v : Vw} {E F : List Ed} : applyR (resL v E) (withoutL (resL v F) (resL v E), withoutL (resL v E) (resL v F)) = (resL v F, 0) := apply_diff (setR_spec _).1 (setR_spec _).1
theorem filt_step {E es : List Ed} {k : Nat} {x : Ed} (h : k < E.length) (hx : at' E (k : Int) = x) : withoutE (E.take (k + 1)) es = withoutE (E.take k) es ++ if x ∈ es then [] else [x] := by
 unfold withoutE
 rw [List.take_succ_eq_append_getElem h, List.filter_append, ← at'_nat h, hx]
 by_cases e : x ∈ es
 · simp [e]
 · simp [e]
theorem go_len {E es : List Ed} {add : Bool} : (goE E es add).length ≤ E.length + es.length := by
 unfold goE
 split
 · rw [List.length_append]; exact Nat.le_refl _
 · exact Nat.le_trans (List.length_filter_le _ _) (by omega)

set_option maxRecDepth 20000 in
/-- rhizome/rhizomelaw12.few -/
theorem fewW_fn (v : Vw) (es : List Ed) (sc : List Opn) (hl1 : es.length ≤ 1000000000000000) (hsl : ∀ o ∈ sc, o.1.length ≤ 1000000000000000) (hsm : sc.length ≤ 1000000000000000) : Ct Tryz.prog 9 [kV.T v, SlT kE es, SlT kOp sc] ([]) Unit (fun _ => BoolT (fewB v es sc)) (fun _ => []) (fun _ => True) := by
 refine fn_intro Tryz.func9 rfl rfl ?_
 intro H w
 refine sq (te (ec 0 rfl (ec 1 rfl (ec 2 rfl en))) (rg (oA (acts_box (d := kV) (oT rfl)) pR rfl rfl (fun g0_0 _ => ?_))))
 refine ak rfl (tn (nn (sq (te (ec 1 rfl (ec 2 rfl (ec 3 rfl en))) (rg (mv rfl rfl (oP (pls (oT rfl) Tryz.underlying26) rfl (av rfl rfl (tn (nn (sq (sq (te (ec 1 rfl (ec 2 rfl (ec 3 rfl (ec 7 rfl en)))) (rg (mv rfl rfl (oP (pls (oT rfl) Tryz.underlying31) rfl (oP (pu_move ot) rfl (tn (nn (tb (tr_loopK (σ := Nat) (ec 1 rfl (ec 2 rfl (ec 3 rfl (ec 12 rfl en)))) (fun k => [(13, I64 (k : Int)), (7, I64 (totW es sc k))]) (fun k => [BlkI g0_0 25 kV v]) (fun k => k ≤ sc.length) (fun k => sc.length - k) 0 (Nat.zero_le _) ?_ (op (by repeat first | exact pn | refine pc 0 rfl ?_)) ?_)))))))))))))))))))))
 · exact (ec 13 rfl (ec 7 rfl en))
 · rintro k hk
   refine sq (te (ec 1 rfl (ec 2 rfl (ec 3 rfl (ec 7 rfl (ec 12 rfl (ec 13 rfl en)))))) (rg (oP (pu_lss (oT rfl) (oT rfl)) rfl (tn (nn (sq (tc (oT rfl) (fun c14 => ?_) (fun c14 => ?_))))))))
   · refine sk (nn (sq (tb (sq (te (ec 1 rfl (ec 2 rfl (ec 3 rfl (ec 7 rfl (ec 12 rfl (ec 13 rfl en)))))) ?_)))))
     have hkl : k < sc.length := by simpa using c14
     refine rg (mv rfl rfl (av rfl rfl (tn (nn (te (ec 1 rfl (ec 2 rfl (ec 3 rfl (ec 7 rfl (ec 8 rfl (ec 12 rfl (ec 13 rfl en))))))) (rg (mv rfl rfl (mv rfl rfl (mv rfl rfl (oP (pu_index (oT rfl) (oT rfl) Tryz.underlying31 y147 (by omega) (by omega)) rfl (oP (pu_faddr_at (oT rfl) lo0 y148) rfl (oP (pL (oT rfl) y149) rfl (oP (pls (oT rfl) Tryz.underlying26) rfl (oP (pu_add (oT rfl) (oT rfl)) rfl (av rfl rfl (tn (bn (nn (te (ec 1 rfl (ec 2 rfl (ec 3 rfl (ec 7 rfl (ec 12 rfl (ec 13 rfl en)))))) (rg (oP (pad (oT rfl) ot (by omega)) rfl (mv rfl rfl (tn ?_)))))))))))))))))))))))
     refine nn ?_
     exact tg (k + 1) (by omega) (by omega) (ea (ec 13 rfl (ec 7 rfl en)) (ec 1 rfl (ec 2 rfl (ec 3 rfl (ec 12 rfl en))))) (op (by repeat first | exact pn | refine pc 0 rfl ?_))
   · refine tr_exit (tx (tx (bh (nn (sq (te (ec 1 rfl (ec 2 rfl (ec 3 rfl (ec 7 rfl en)))) ?_))))))
     obtain rfl : k = sc.length := by simp only [decide_eq_false_iff_not] at c14; omega
     refine rg (oP (plv (oT rfl) (by exact mA 0 rfl) y53) rfl ?_)
     refine mv rfl rfl (oA (aC (NFits_fn v es) y150 (oc (oT rfl) (oc (oT rfl) oN)) pR) pR rfl rfl (fun _ _ => ?_))
     refine mv rfl rfl (oG rfl rfl rfl (gm (oT rfl)) (fun hg => by (have hg1 := hg.2; (try simp only [cq2] at hg1); exact pu_move (oT rfl))) rfl ?_)
     refine oG rfl rfl rfl (gm (oT rfl)) (fun hg => by (have hg1 := hg.2; (try simp only [cq2] at hg1); exact pls (by exact gu (oT rfl) hg) Tryz.underlying31)) rfl ?_
     refine oG rfl rfl rfl (gm (oT rfl)) (fun hg => by (have hg1 := hg.2; (try simp only [cq2] at hg1); exact pu_leq (by exact gu (oT rfl) hg) ot)) rfl ?_
     refine oP (pu_pick_and (oT rfl) (oT rfl)) rfl (mv rfl rfl (oG rfl rfl rfl (gm (oT rfl)) (fun hg => by (have hg1 := hg.2; (try simp only [cq2] at hg1); exact pu_move (oT rfl))) rfl ?_))
     refine oG rfl rfl rfl (gm (oT rfl)) (fun hg => by (have hg1 := hg.2; (try simp only [cq2] at hg1); exact pu_leq (by exact gu (oT rfl) hg) ot)) rfl ?_
     refine oP (pu_pick_and (oT rfl) (oT rfl)) rfl (av rfl rfl (tn (nn (tR ?_))))
     exact ret_one .ret (.inl rfl) rfl () (OT.val (oT rfl) (congrArg Value.bool ((few_w hl1 hsl)))) trivial (by exact pn)
set_option maxHeartbeats 1000000 in
set_option maxRecDepth 20000 in
/-- rhizome/rhizomelaw12.NetDeltas -/
theorem NetDeltas_fn (v : Vw) (es : List Ed) (sc : List Opn) (hl1 : es.length ≤ 1000000000000000) (hsm : sc.length ≤ 1000000000000000) (hsl : ∀ o ∈ sc, o.1.length ≤ 1000000000000000) (hei : ∀ e ∈ es, inI e.1 ∧ inI e.2.2) (hsi : ∀ o ∈ sc, ∀ e ∈ o.1, inI e.1 ∧ inI e.2.2) : Ct Tryz.prog 7 [kV.T v, SlT kE es, SlT kOp sc] ([]) Unit (fun _ => BoolT true) (fun _ => []) (fun _ => True) := by
 refine fn_intro Tryz.func7 rfl rfl ?_
 intro H w
 refine sq (te (ec 0 rfl (ec 1 rfl (ec 2 rfl en))) (rg (oA (acts_box (d := kV) (oT rfl)) pR rfl rfl (fun g0_0 _ => ?_))))
 refine ak rfl (tn (nn (sq (sq (te (ec 1 rfl (ec 2 rfl (ec 3 rfl en))) (rg (oA (aC awake12_fn y155 oN pR) pR rfl rfl (fun _ _ => ?_))))))))
 refine oP (pu_not (oT rfl)) rfl (mv rfl rfl (oG rfl rfl rfl (gm (oT rfl)) (fun hg => by (have hg1 := hg.2; (try simp only [cq2] at hg1); exact plv (oT rfl) (by exact mA 0 rfl) y53)) rfl ?_))
 refine oG rfl rfl rfl (gm (oT rfl)) (fun hg => by (have hg1 := hg.2; (try simp only [cq2] at hg1); exact pu_move (oT rfl))) rfl ?_
 refine oG rfl rfl rfl (gm (oT rfl)) (fun hg => by (have hg1 := hg.2; (try simp only [cq2] at hg1); exact pu_move (oT rfl))) rfl ?_
 refine op_gu_acts () rfl rfl rfl (gm (oT rfl)) (fun hg => by (have hg1 := hg.2; (try simp only [cq2] at hg1); exact aC (fewW_fn v es sc hl1 hsl hsm) y157 (oc (by exact gu (oT rfl) hg) (oc (by exact gu (oT rfl) hg) (oc (by exact gu (oT rfl) hg) oN))) pR)) rfl (fun _ _ => ?_)
 refine oG rfl rfl rfl (gm (oT rfl)) (fun hg => by (have hg1 := hg.2; (try simp only [cq2] at hg1); exact pu_not (by exact gu (oT rfl) hg))) rfl ?_
 refine oP (pu_pick_or (oT rfl) (oT rfl)) rfl (tn (nn (tc (oT rfl) (fun c32 => ?_) (fun c32 => ?_))))
 · refine sq (te en (rg (oA (aC awake12_fn y155 oN pR) pR rfl rfl (fun _ _ => ?_))))
   refine av rfl rfl (tn (nn (tR (tt ?_))))
   exact ret_one .ret (.inl rfl) rfl () (OT.val (oT rfl) (congrArg Value.bool (rfl))) trivial (by exact pn)
 · have hf : fewB v es sc = true := by simp only [Bool.or_eq_false_iff, Bool.not_eq_false'] at c32; exact c32.2
   obtain ⟨h25, ha12, ho12, h12, h40⟩ := few_all hf
   refine sk (nn (sq (te (ec 1 rfl (ec 2 rfl (ec 3 rfl en))) (rg (oP (plv (oT rfl) (by exact mA 0 rfl) y53) rfl ?_)))))
   refine mv rfl rfl (op_tail [_] rfl (aC (New_fn v es (by unfold maxLen; omega) (by unfold maxLen; omega) (by omega) hei) y152 (oc (oT rfl) (oc (oT rfl) oN)) (perm_tail (X := [_]))) rfl rfl fun r hr => ?_)
   refine mv rfl rfl (oP (pu_extract (oT rfl) rfl) rfl (oP (pu_extract (oT rfl) rfl) rfl (av rfl rfl (av rfl rfl (tn (nn (sq (sq (te (ec 1 rfl (ec 2 rfl (ec 3 rfl (ec 7 rfl (ec 8 rfl en))))) (rg (mv rfl rfl (oP (pu_neq (oT rfl) ot) rfl (mv rfl rfl (oG rfl rfl rfl (gm (oT rfl)) (fun hg => by (have hg1 := hg.2; (try simp only [cq2] at hg1); exact pu_move (oT rfl))) rfl ?_))))))))))))))
   refine oG rfl rfl rfl (gm (oT rfl)) (fun hg => by (have hg1 := hg.2; (try simp only [cq2] at hg1); exact pu_opt_eql (by exact gu (oT rfl) hg) Tryz.underlying32)) rfl ?_
   refine oP (pu_pick_or (oT rfl) (oT rfl)) rfl (tn (nn (tc (oT rfl) (fun c45 => ?_) (fun c45 => ?_))))
   · refine sq (te (ec 7 rfl (ec 8 rfl en)) (rg (mv rfl rfl (oP (pu_neq (oT rfl) ot) rfl (mv rfl rfl (oG rfl rfl rfl (gm (oT rfl)) (fun hg => by (have hg1 := hg.2; (try simp only [cq2] at hg1); exact pu_move (oT rfl))) rfl ?_))))))
     refine oG rfl rfl rfl (gm (oT rfl)) (fun hg => by (have hg1 := hg.2; (try simp only [cq2] at hg1); exact pu_opt_eql (by exact gu (oT rfl) hg) Tryz.underlying32)) rfl ?_
     refine oP (pu_pick_and (oT rfl) (oT rfl)) rfl (av rfl rfl (tn (nn (tR (tt ?_)))))
     exact ret_one .ret (.inl rfl) rfl () (OT.val (oT rfl) (congrArg Value.bool ((new_none hr c45)))) trivial (by exact pn)
   · obtain ⟨n, m, lv, ct, rfl, hnv, hv, hmb, hnet⟩ := new_say hr c45
     subst hnv
     have hol := once_len es
     refine tr_as 7 (T := AtT kNet (netV n)) (oT rfl) (sk (nn (sq (te (ec 1 rfl (ec 2 rfl (ec 3 rfl (ec 7 rfl en)))) (rg (mv rfl rfl (op_tail [_] rfl (aC (read_net hv hnet hmb) y136 (oc (oT rfl) oN) (perm_tail (X := [_]))) rfl rfl fun _ _ => (av rfl rfl (tn (nn (sq (te (ec 1 rfl (ec 2 rfl (ec 3 rfl (ec 7 rfl (ec 9 rfl en))))) (rg (ak rfl (tn (tr_nilItem 54 kE (nn (sq (sq (te (ec 1 rfl (ec 2 rfl (ec 3 rfl (ec 7 rfl (ec 9 rfl (ec 10 rfl en)))))) (rg (mv rfl rfl (oP (pls (oT rfl) Tryz.underlying26) rfl ?_)))))))))))))))))))))))
     refine oP (pu_move ot) rfl (tn (nn (tb (tr_loopK (σ := Nat × Value) (ec 2 rfl (ec 3 rfl (ec 7 rfl (ec 9 rfl (ec 54 rfl (ec 55 rfl en)))))) (fun s => [(56, I64 (s.1 : Int)), (10, IsV s.2)]) (fun s => (OwnI 54 kE s.2 (onceE (es.take s.1)) :: BlkI g0_0 25 kV n.v :: NetI n m lv ct)) (fun s => s.1 ≤ es.length) (fun s => es.length - s.1) (0, nilS) (Nat.zero_le _) ?_ (op pl) ?_))))
     · exact (ec 56 rfl (ec 10 rfl en))
     · rintro ⟨k, va⟩ hk
       dsimp only at hk ⊢
       refine sq (te (ec 2 rfl (ec 3 rfl (ec 7 rfl (ec 9 rfl (ec 10 rfl (ec 54 rfl (ec 55 rfl (ec 56 rfl en)))))))) (rg (oP (pu_lss (oT rfl) (oT rfl)) rfl (tn (nn (sq (tc (oT rfl) (fun c57 => ?_) (fun c57 => ?_))))))))
       · refine sk (nn (sq (tb (sq (te (ec 2 rfl (ec 3 rfl (ec 7 rfl (ec 9 rfl (ec 10 rfl (ec 54 rfl (ec 55 rfl (ec 56 rfl en)))))))) ?_)))))
         have hk5 : k < es.length := by have h9 := of_decide_eq_true c57; omega
         obtain ⟨x, hx⟩ : ∃ x, at' es (k : Int) = x := ⟨_, rfl⟩
         have hon := once_at hk5
         have hkl := once_len (es.take k)
         have hkt : (es.take k).length ≤ 25 := by rw [List.length_take]; omega
         rw [hx] at hon
         refine rg (oP (pu_index (oT rfl) (oT rfl) Tryz.underlying26 y56 (by omega) (by omega)) rfl (oP (pL (oT rfl) y56) rfl ?_))
         rw [hx]
         refine oA (acts_alloc (zE)) pR rfl rfl (fun g10_2 _ => ?_)
         refine oA (asv (oT rfl) (oT rfl) (by exact pA 0 rfl) y56) (by exact pA 0 rfl) rfl rfl (fun _ _ => ?_)
         refine tn (nn (sq (te (ec 2 rfl (ec 3 rfl (ec 7 rfl (ec 9 rfl (ec 10 rfl (ec 12 rfl (ec 54 rfl (ec 55 rfl (ec 56 rfl en))))))))) (rg (mv rfl rfl (oP (plv (oT rfl) (by exact mA 0 rfl) y56) rfl ?_))))))
         refine oA (aC (Ct.lend_hd (lhas_fn (onceE (es.take k)) x (by omega)) flat_bool) y163 (oc (oT rfl) (oc (oT rfl) oN)) (by exact pA 1 rfl)) (by exact pA 1 rfl) rfl rfl (fun _ _ => ?_)
         refine oP (pu_not (oT rfl)) rfl (tn (nn (tc (oT rfl) (fun c63 => ?_) (fun c63 => ?_))))
         · have hne : x ∉ onceE (es.take k) := by simpa using c63
           rw [if_neg hne] at hon
           refine te (ec 2 rfl (ec 3 rfl (ec 7 rfl (ec 9 rfl (ec 10 rfl (ec 12 rfl (ec 54 rfl (ec 55 rfl (ec 56 rfl en))))))))) (rg (mv rfl rfl (oP (plv (oT rfl) (by exact mA 1 rfl) y56) rfl ?_)))
           refine oA (acts_lit (d := kE) (v0 := (0, [], 0)) y151 y56 zE (show 1 * 3 ≤ 16777216 from by decide) (by decide) (fills_arr rfl rfl (by decide) (oT rfl) fills_nil)) pR rfl rfl (fun _ _ => ?_)
           refine oA (acts_append (oT rfl) (by exact pA 0 rfl) (oT rfl) y151 (by (simp; omega)) (by (simp [maxLen]; omega))) (by exact pA 0 rfl) rfl rfl (fun v12_3 _ => ?_)
           refine av rfl rfl (tn (bn (nn (te (ec 2 rfl (ec 3 rfl (ec 7 rfl (ec 9 rfl (ec 10 rfl (ec 54 rfl (ec 55 rfl (ec 56 rfl en)))))))) (rg (oP (pad (oT rfl) ot (by omega)) rfl (mv rfl rfl (tn (nn ?_)))))))))
           exact tg (k + 1, v12_3) (by show k + 1 ≤ es.length; omega) (by show es.length - (k + 1) < es.length - k; omega) (ea (ec 56 rfl (ec 10 rfl en)) (ec 2 rfl (ec 3 rfl (ec 7 rfl (ec 9 rfl (ec 54 rfl (ec 55 rfl en))))))) (by dsimp only; rw [hon]; exact op (by (repeat (first | refine pc 0 rfl ?_ | refine pc 1 rfl ?_)); exact pd (pl)))
         · have hne : x ∈ onceE (es.take k) := by simpa using c63
           rw [if_pos hne] at hon
           refine sk (bn (nn (te (ec 2 rfl (ec 3 rfl (ec 7 rfl (ec 9 rfl (ec 10 rfl (ec 54 rfl (ec 55 rfl (ec 56 rfl en)))))))) (rg (oP (pad (oT rfl) ot (by omega)) rfl (mv rfl rfl (tn (nn ?_))))))))
           exact tg (k + 1, va) (by show k + 1 ≤ es.length; omega) (by show es.length - (k + 1) < es.length - k; omega) (ea (ec 56 rfl (ec 10 rfl en)) (ec 2 rfl (ec 3 rfl (ec 7 rfl (ec 9 rfl (ec 54 rfl (ec 55 rfl en))))))) (by dsimp only; rw [hon]; exact op (by (repeat (first | refine pc 0 rfl ?_ | refine pc 1 rfl ?_)); exact pd (pl)))
       · refine tr_exit (tx (tx (bh (nn (sq (sq (te (ec 2 rfl (ec 3 rfl (ec 7 rfl (ec 9 rfl (ec 10 rfl en))))) ?_)))))))
         obtain rfl : k = es.length := by have h9 := of_decide_eq_false c57; omega
         rw [List.take_length]
         refine rg (mv rfl rfl (oP (pls (oT rfl) Tryz.underlying31) rfl (oP (pu_move ot) rfl (tn (nn (tb (tr_loopK (σ := Nat × Value × List Ed × AlM × List Rw × List (Lab × Int)) (ec 2 rfl (ec 3 rfl (ec 7 rfl (ec 70 rfl en)))) (fun s => [(71, I64 (s.1 : Int)), (9, SlT kT (resL n.v s.2.2.1)), (10, IsV s.2.1)]) (fun s => (OwnI 54 kE s.2.1 s.2.2.1 :: BlkI g0_0 25 kV n.v :: NetI n s.2.2.2.1 s.2.2.2.2.1 s.2.2.2.2.2)) (fun s => s.1 ≤ sc.length ∧ NetOk n s.2.2.2.1 s.2.2.2.2.1 s.2.2.2.2.2 s.2.2.1 ∧ manyB n.v s.2.2.1 = false ∧ (s.2.2.1.length : Int) ≤ totE es sc s.1) (fun s => sc.length - s.1) (0, va, onceE es, m, lv, ct) ⟨Nat.zero_le _, hnet, hmb, (by show ((onceE es).length : Int) ≤ totE es sc 0; unfold totE; simp; exact hol)⟩ ?_ (op pl) ?_)))))))
         · exact (ec 71 rfl (ec 9 rfl (ec 10 rfl en)))
         · rintro ⟨i, va, E, q⟩ ⟨hi, hq, hmE, hEt⟩
           dsimp only at hi hq hmE hEt ⊢
           refine sq (te (ec 2 rfl (ec 3 rfl (ec 7 rfl (ec 9 rfl (ec 10 rfl (ec 70 rfl (ec 71 rfl en))))))) (rg (oP (pu_lss (oT rfl) (oT rfl)) rfl (tn (nn (sq (tc (oT rfl) (fun c72 => ?_) (fun c72 => ?_))))))))
           · refine sk (nn (sq (tb (sq (te (ec 2 rfl (ec 3 rfl (ec 7 rfl (ec 9 rfl (ec 10 rfl (ec 70 rfl (ec 71 rfl en))))))) ?_)))))
             have hil : i < sc.length := by have h9 := of_decide_eq_true c72; omega
             have hoi := at_mem (l := sc) hil
             have hts := tot_step (es := es) hil
             have htm := tot_mono es sc sc.length (j := i + 1) (by omega) (Nat.le_refl _)
             have hsii := hsi _ hoi
             refine rg (mv rfl rfl (av rfl rfl (tn (nn (sq (te (ec 2 rfl (ec 3 rfl (ec 7 rfl (ec 9 rfl (ec 10 rfl (ec 13 rfl (ec 70 rfl (ec 71 rfl en)))))))) ?_))))))
             apply tr_anyS (ρ := (AlM × List Rw × List (Lab × Int)) × Nat) (ψ := fun c rr => cond (c.getD 0 false) (NetOk n rr.1.1 rr.1.2.1 rr.1.2.2 (doE n.v E (at' sc (i : Int)).1 (at' sc (i : Int)).2).1) True) (ups := fun i r r' => cond (Nat.beq i 11) (r'.2 = r.2) (cond (Nat.beq i 15) (r'.1 = r.1) (cond (Nat.beq i 16) (r' = r) (True)))) (ps := [11, 15, 16]) (Lf := fun c rr => cond (c.getD 0 false) (cond (c.getD 1 false) (cond (c.getD 2 false) (BlkI rr.2 42 kD (doE n.v E (at' sc (i : Int)).1 (at' sc (i : Int)).2).2.1 :: OwnI 54 kE va E :: BlkI g0_0 25 kV n.v :: NetI n rr.1.1 rr.1.2.1 rr.1.2.2) (BlkI rr.2 42 kD ([], []) :: OwnI 54 kE va E :: BlkI g0_0 25 kV n.v :: NetI n rr.1.1 rr.1.2.1 rr.1.2.2)) (cond (c.getD 2 false) ([]) (OwnI 54 kE va E :: BlkI g0_0 25 kV n.v :: NetI n rr.1.1 rr.1.2.1 rr.1.2.2))) (cond (c.getD 1 false) (cond (c.getD 2 false) ([]) (BlkI rr.2 42 kD ([], []) :: OwnI 54 kE va E :: BlkI g0_0 25 kV n.v :: NetI n q.1 q.2.1 q.2.2)) (cond (c.getD 2 false) ([]) (OwnI 54 kE va E :: BlkI g0_0 25 kV n.v :: NetI n q.1 q.2.1 q.2.2)))) (([], [], []), 0) trivial (by kernel_rfl) (by kernel_rfl) (m := 17) (ns := [[(7, none)], [(2, none)], [(13, none)], [(76, some 1), (77, some 2)], [(78, some 3)], [(79, some 4)], [(2, none)], [(13, none)], [(81, some 6), (82, some 7)], [(83, some 8)], [(84, some 9)], [(75, some 0), (80, some 5), (85, some 10)], [(86, some 11)], [(74, some 12)], [(74, some 12)], [], [(14, some 15), (87, some 13)]]) (by kernel_rfl) (Ts := fun rr => [_, _, _, _, _, _, _, _, _, _, _, TupT [kD.T (doE n.v E (at' sc (i : Int)).1 (at' sc (i : Int)).2).2.1, I64 (doE n.v E (at' sc (i : Int)).1 (at' sc (i : Int)).2).2.2], TupT [kD.T (doE n.v E (at' sc (i : Int)).1 (at' sc (i : Int)).2).2.1, I64 (doE n.v E (at' sc (i : Int)).1 (at' sc (i : Int)).2).2.2], kD.T (doE n.v E (at' sc (i : Int)).1 (at' sc (i : Int)).2).2.1, I64 (doE n.v E (at' sc (i : Int)).1 (at' sc (i : Int)).2).2.2, IsV (pt rr.2 0), _]) (fun _ => rfl)
             case hops =>
              refine ⟨?_, ?_, ?_, ?_, ?_, ?_, ?_, ?_, ?_, ?_, ?_, ?_, ?_, ?_, ?_, ?_, ?_, trivial⟩
              · exact ⟨⟨[[false, false, false], [false, true, false]], by kernel_rfl, fun rr hrr => rgo rr rfl ⟨hrr, rfl⟩ (rmv rfl), fun rr hrr => rgo rr rfl ⟨hrr, rfl⟩ (rmv rfl), trivial⟩, ⟨fun _ _ _ _ => rfl, fun _ _ _ _ => rfl, fun _ _ _ _ => rfl, trivial⟩⟩
              · exact ⟨⟨[[false, false, false], [false, true, false]], by kernel_rfl, fun rr hrr => rgo rr rfl ⟨hrr, rfl⟩ (rmv rfl), fun rr hrr => rgo rr rfl ⟨hrr, rfl⟩ (rmv rfl), trivial⟩, ⟨fun _ _ _ _ => rfl, fun _ _ _ _ => rfl, fun _ _ _ _ => rfl, trivial⟩⟩
              · exact ⟨⟨[[false, false, false], [false, true, false]], by kernel_rfl, fun rr hrr => rgo rr rfl ⟨hrr, rfl⟩ (rmv rfl), fun rr hrr => rgo rr rfl ⟨hrr, rfl⟩ (rmv rfl), trivial⟩, ⟨fun _ _ _ _ => rfl, fun _ _ _ _ => rfl, fun _ _ _ _ => rfl, trivial⟩⟩
              · exact ⟨⟨[[false, false, false], [false, true, false]], by kernel_rfl, fun rr hrr => rgo rr rfl ⟨hrr, rfl⟩ (rP (pu_index (oT rfl) (oT rfl) Tryz.underlying31 y147 (by omega) (by omega))), fun rr hrr => rgo rr rfl ⟨hrr, rfl⟩ (rP (pu_index (oT rfl) (oT rfl) Tryz.underlying31 y147 (by omega) (by omega))), trivial⟩, ⟨fun _ _ _ _ => rfl, fun _ _ _ _ => rfl, fun _ _ _ _ => rfl, trivial⟩⟩
              · exact ⟨⟨[[false, false, false], [false, true, false]], by kernel_rfl, fun rr hrr => rgo rr rfl ⟨hrr, rfl⟩ (rP (pu_faddr_at (oT rfl) lo0 y148)), fun rr hrr => rgo rr rfl ⟨hrr, rfl⟩ (rP (pu_faddr_at (oT rfl) lo0 y148)), trivial⟩, ⟨fun _ _ _ _ => rfl, fun _ _ _ _ => rfl, fun _ _ _ _ => rfl, trivial⟩⟩
              · exact ⟨⟨[[false, false, false], [false, true, false]], by kernel_rfl, fun rr hrr => rgo rr rfl ⟨hrr, rfl⟩ (rP (pL (oT rfl) y149)), fun rr hrr => rgo rr rfl ⟨hrr, rfl⟩ (rP (pL (oT rfl) y149)), trivial⟩, ⟨fun _ _ _ _ => rfl, fun _ _ _ _ => rfl, fun _ _ _ _ => rfl, trivial⟩⟩
              · exact ⟨⟨[[false, false, false], [false, true, false]], by kernel_rfl, fun rr hrr => rgo rr rfl ⟨hrr, rfl⟩ (rmv rfl), fun rr hrr => rgo rr rfl ⟨hrr, rfl⟩ (rmv rfl), trivial⟩, ⟨fun _ _ _ _ => rfl, fun _ _ _ _ => rfl, fun _ _ _ _ => rfl, trivial⟩⟩
              · exact ⟨⟨[[false, false, false], [false, true, false]], by kernel_rfl, fun rr hrr => rgo rr rfl ⟨hrr, rfl⟩ (rmv rfl), fun rr hrr => rgo rr rfl ⟨hrr, rfl⟩ (rmv rfl), trivial⟩, ⟨fun _ _ _ _ => rfl, fun _ _ _ _ => rfl, fun _ _ _ _ => rfl, trivial⟩⟩
              · exact ⟨⟨[[false, false, false], [false, true, false]], by kernel_rfl, fun rr hrr => rgo rr rfl ⟨hrr, rfl⟩ (rP (pu_index (oT rfl) (oT rfl) Tryz.underlying31 y147 (by omega) (by omega))), fun rr hrr => rgo rr rfl ⟨hrr, rfl⟩ (rP (pu_index (oT rfl) (oT rfl) Tryz.underlying31 y147 (by omega) (by omega))), trivial⟩, ⟨fun _ _ _ _ => rfl, fun _ _ _ _ => rfl, fun _ _ _ _ => rfl, trivial⟩⟩
              · exact ⟨⟨[[false, false, false], [false, true, false]], by kernel_rfl, fun rr hrr => rgo rr rfl ⟨hrr, rfl⟩ (rP (pu_faddr_at (oT rfl) lo1 y164)), fun rr hrr => rgo rr rfl ⟨hrr, rfl⟩ (rP (pu_faddr_at (oT rfl) lo1 y164)), trivial⟩, ⟨fun _ _ _ _ => rfl, fun _ _ _ _ => rfl, fun _ _ _ _ => rfl, trivial⟩⟩
              · exact ⟨⟨[[false, false, false], [false, true, false]], by kernel_rfl, fun rr hrr => rgo rr rfl ⟨hrr, rfl⟩ (rP (pL (oT rfl) y93)), fun rr hrr => rgo rr rfl ⟨hrr, rfl⟩ (rP (pL (oT rfl) y93)), trivial⟩, ⟨fun _ _ _ _ => rfl, fun _ _ _ _ => rfl, fun _ _ _ _ => rfl, trivial⟩⟩
              · refine ⟨⟨[[false, false, false], [false, true, false]], by kernel_rfl, ⟨?_, ⟨?_, trivial⟩⟩⟩, ?_⟩
                · intro rr hrr; exact rops_acts (fun v => (v, rr.2)) rfl (aC (Do_fn n q.1 q.2.1 q.2.2 E (at' sc (i : Int)).1 (at' sc (i : Int)).2 hv hq hmE hsii (by omega)) y153 (oc (oT rfl) (oc (oT rfl) (oc (oT rfl) oN))) (by exact perm_tail (X := [_, _]))) (by exact perm_tail (X := [_, _])) (fun _ => (by exact (perm_tail (X := [_, _])).symm)) (fun r hr => ⟨hr, by first | exact rfl | exact ⟨rfl, rfl⟩ | exact ⟨rfl, rfl, rfl⟩⟩) (fun _ _ _ _ h => h)
                · intro rr hrr; exact rops_acts (fun v => (v, rr.2)) rfl (aC (Do_fn n q.1 q.2.1 q.2.2 E (at' sc (i : Int)).1 (at' sc (i : Int)).2 hv hq hmE hsii (by omega)) y153 (oc (oT rfl) (oc (oT rfl) (oc (oT rfl) oN))) (by exact perm_tail (X := [_, _, _]))) (by exact perm_tail (X := [_, _, _])) (fun _ => (by exact (perm_tail (X := [_, _, _])).symm)) (fun r hr => ⟨hr, by first | exact rfl | exact ⟨rfl, rfl⟩ | exact ⟨rfl, rfl, rfl⟩⟩) (fun _ _ _ _ h => h)
                · exact ⟨fun h => Bool.noConfusion (h.symm.trans (by kernel_rfl : _ = true)), ⟨fun _ _ _ _ => rfl, ⟨fun _ _ _ _ => rfl, trivial⟩⟩⟩
              · refine ⟨⟨[[true, false, false], [true, true, false]], by kernel_rfl, ⟨?_, ⟨?_, trivial⟩⟩⟩, ?_⟩
                · intro rr hrr; exact rgo rr rfl ⟨hrr, rfl⟩ (rmv rfl)
                · intro rr hrr; exact rgo rr rfl ⟨hrr, rfl⟩ (rmv rfl)
                · exact ⟨fun h => Bool.noConfusion (h.symm.trans (by kernel_rfl : _ = true)), ⟨fun _ _ _ _ => rfl, ⟨fun _ _ _ _ => rfl, trivial⟩⟩⟩
              · refine ⟨⟨[[true, false, false], [true, true, false]], by kernel_rfl, ⟨?_, ⟨?_, trivial⟩⟩⟩, ?_⟩
                · intro rr hrr; exact rgo rr rfl ⟨hrr, rfl⟩ (rP (pu_extract (oT rfl) rfl))
                · intro rr hrr; exact rgo rr rfl ⟨hrr, rfl⟩ (rP (pu_extract (oT rfl) rfl))
                · exact ⟨fun h => Bool.noConfusion (h.symm.trans (by kernel_rfl : _ = true)), ⟨fun _ _ _ _ => rfl, ⟨fun _ _ _ _ => rfl, trivial⟩⟩⟩
              · refine ⟨⟨[[true, false, false], [true, true, false], [true, true, true]], by kernel_rfl, ⟨?_, ⟨?_, ⟨?_, trivial⟩⟩⟩⟩, ?_⟩
                · intro rr hrr; exact rgo rr rfl ⟨hrr, rfl⟩ (rP (pu_extract (oT rfl) rfl))
                · intro rr hrr; exact rgo rr rfl ⟨hrr, rfl⟩ (rP (pu_extract (oT rfl) rfl))
                · intro rr hrr; exact rgo rr rfl ⟨hrr, rfl⟩ (rP (pu_extract (oT rfl) rfl))
                · exact ⟨fun h => Bool.noConfusion (h.symm.trans (by kernel_rfl : _ = true)), ⟨fun _ _ _ _ => rfl, ⟨fun _ _ _ _ => rfl, trivial⟩⟩⟩
              · refine ⟨⟨[[false, false, false], [true, false, false]], by kernel_rfl, ⟨?_, ⟨?_, trivial⟩⟩⟩, ?_⟩
                · intro rr hrr; exact rops_acts (fun x => (rr.1, x)) rfl (acts_alloc (z44)) pR (fun _ => pR) (fun r hr => ⟨hrr, by first | exact rfl | exact ⟨rfl, rfl⟩ | exact ⟨rfl, rfl, rfl⟩⟩) (fun _ _ _ _ h => h)
                · intro rr hrr; exact rops_acts (fun x => (rr.1, x)) rfl (acts_alloc (z44)) pR (fun _ => pR) (fun r hr => ⟨hrr, by first | exact rfl | exact ⟨rfl, rfl⟩ | exact ⟨rfl, rfl, rfl⟩⟩) (fun _ _ _ _ h => h)
                · exact ⟨fun _ r r' h => by first | rfl | (have h : r'.2 = r.2 := h; show (fun rr => IsV (pt rr.2 0)) r = (fun rr => IsV (pt rr.2 0)) r'; simp only [h]), ⟨fun h => Bool.noConfusion (h.symm.trans (by kernel_rfl : _ = true)), ⟨fun _ r r' h => by first | rfl | (have h : r' = r := h; show (fun rr => IsV (pt rr.2 0)) r = (fun rr => IsV (pt rr.2 0)) r'; simp only [h]), trivial⟩⟩⟩
              · refine ⟨⟨[[true, true, false]], by kernel_rfl, ⟨?_, trivial⟩⟩, ?_⟩
                · intro rr hrr; exact rops_acts (fun _ => rr) rfl (asv (oT rfl) (oT rfl) (by exact pA 0 rfl) y80) (by exact pA 0 rfl) (fun _ => pR) (fun r hr => ⟨hrr, by first | exact rfl | exact ⟨rfl, rfl⟩ | exact ⟨rfl, rfl, rfl⟩⟩) (fun _ _ _ _ h => h)
                · exact ⟨fun h => Bool.noConfusion (h.symm.trans (by kernel_rfl : _ = true)), ⟨fun h => Bool.noConfusion (h.symm.trans (by kernel_rfl : _ = true)), ⟨fun h => Bool.noConfusion (h.symm.trans (by kernel_rfl : _ = true)), trivial⟩⟩⟩
             case h =>
              intro ⟨q2, g17_15⟩ hq2
              refine tr_perm (List.Perm.of_eq (show _ = BlkI g17_15 42 kD (doE n.v E (at' sc (i : Int)).1 (at' sc (i : Int)).2).2.1 :: OwnI 54 kE va E :: BlkI g0_0 25 kV n.v :: NetI n q2.1 q2.2.1 q2.2.2 from rfl)) (av rfl rfl (tn (nn (sq (sq (te (ec 2 rfl (ec 3 rfl (ec 7 rfl (ec 9 rfl (ec 10 rfl (ec 13 rfl (ec 14 rfl (ec 15 rfl (ec 70 rfl (ec 71 rfl en)))))))))) ?_))))))
              replace hq2 : NetOk n q2.1 q2.2.1 q2.2.2 (doE n.v E (at' sc (i : Int)).1 (at' sc (i : Int)).2).1 := hq2
              obtain ⟨D, hD⟩ : ∃ D, doE n.v E (at' sc (i : Int)).1 (at' sc (i : Int)).2 = D := ⟨_, rfl⟩
              rw [hD] at hq2 ⊢
              dsimp only
              refine rg (mv rfl rfl (oP (pu_neq (oT rfl) ot) rfl (tn (nn (tc (oT rfl) (fun c90 => ?_) (fun c90 => ?_))))))
              · have hz : ¬ D.2.2 = 0 := of_decide_eq_true c90
                have hDe := doE_not (by rw [hD]; exact hz)
                rw [hD] at hDe
                rw [hDe.2]
                rw [hDe.1] at hq2
                refine sq (sq (te (ec 2 rfl (ec 3 rfl (ec 7 rfl (ec 9 rfl (ec 10 rfl (ec 14 rfl (ec 70 rfl (ec 71 rfl en)))))))) (rg (oP (plv (oT rfl) (by exact mA 0 rfl) y80) rfl ?_))))
                refine oA (aC (Empty_fn ([], []) (by constructor <;> simp) (by constructor <;> simp)) y154 (oc (oT rfl) oN) pR) pR rfl rfl (fun _ _ => ?_)
                refine oP (pu_not (oT rfl)) rfl (tn (nn (tc (oT rfl) (fun c93 => ?_) (fun c93 => ?_))))
                · exact absurd c93 (by simp) --done
                · refine sk (nn (tr_exit (tx (bh (nn (te (ec 2 rfl (ec 3 rfl (ec 7 rfl (ec 9 rfl (ec 10 rfl (ec 70 rfl (ec 71 rfl en))))))) (rg (oP (pad (oT rfl) ot (by omega)) rfl (mv rfl rfl (tn (nn ?_)))))))))))
                  exact tg (i + 1, va, E, q2) ⟨(by show i + 1 ≤ sc.length; omega), hq2, hmE, (by show (E.length : Int) ≤ totE es sc (i + 1); omega)⟩ (by show sc.length - (i + 1) < sc.length - i; omega) (ea (ec 71 rfl (ec 9 rfl (ec 10 rfl en))) (ec 2 rfl (ec 3 rfl (ec 7 rfl (ec 70 rfl en))))) (op (by (repeat (refine pc 1 rfl ?_)); exact pd (pl)))
              · have hz : D.2.2 = 0 := by simpa using c90
                obtain ⟨hlc, hmm, hDe⟩ := doE_zero (by rw [hD]; exact hz)
                rw [hD] at hDe
                obtain ⟨F, hF⟩ : ∃ F, goE E (at' sc (i : Int)).1 (at' sc (i : Int)).2 = F := ⟨_, rfl⟩
                have hmF : manyB n.v F = false := by rw [← hF]; exact go_many hmm hmE
                have hFl := go_len (E := E) (es := (at' sc (i : Int)).1) (add := (at' sc (i : Int)).2)
                rw [hF] at hDe hFl
                have hD1 : D.1 = F := by rw [hDe]
                have hD2 : D.2.1 = (withoutL (resL n.v F) (resL n.v E), withoutL (resL n.v E) (resL n.v F)) := by rw [hDe, diff_res]
                rw [hD1] at hq2
                rw [hD2]
                have hfE := res_few hv hq.als.inE hmE
                have hfF := res_few hv hq2.als.inE hmF
                refine sk (nn (sq (te (ec 2 rfl (ec 3 rfl (ec 7 rfl (ec 9 rfl (ec 10 rfl (ec 13 rfl (ec 14 rfl (ec 70 rfl (ec 71 rfl en))))))))) (rg (mv rfl rfl (oP (plv (oT rfl) (by exact mA 0 rfl) y80) rfl ?_))))))
                refine oA (acts_callM (Apply_fn (K0 := noK) (n0 := 0) (resL n.v E) (withoutL (resL n.v F) (resL n.v E), withoutL (resL n.v E) (resL n.v F)) hfE (hfF.without _) (hfE.without _)) mk_none y165 (oc (oT rfl) (oc (oT rfl) oN)) pR) pR rfl rfl (fun _ _ => ?_)
                refine tr_as 97 (T := TupT [FreshT noK 0 (kF noK 0) (resL n.v F), I64 0]) (OT.eq (oT rfl) (by rw [apply_res])) ?_
                refine mv rfl rfl (oP (pu_extract (oT rfl) rfl) rfl (tr_as 98 (T := SlT kT (resL n.v F)) (OT.unfr (oT rfl).fresh) (oP (pu_extract (oT rfl) rfl) rfl (av rfl rfl (av rfl rfl (tn (nn (sq (sq (te (ec 2 rfl (ec 3 rfl (ec 7 rfl (ec 10 rfl (ec 13 rfl (ec 16 rfl (ec 17 rfl (ec 70 rfl (ec 71 rfl en))))))))) (rg (mv rfl rfl (oP (pu_neq (oT rfl) ot) rfl (tn (nn (tc (oT rfl) (fun c101 => ?_) (fun c101 => ?_)))))))))))))))))
                · exact absurd c101 (by simp) --done
                · refine sk (nn (sq (te (ec 2 rfl (ec 3 rfl (ec 7 rfl (ec 10 rfl (ec 13 rfl (ec 16 rfl (ec 70 rfl (ec 71 rfl en)))))))) (rg (mv rfl rfl (av rfl rfl (tn (nn (sq (sq (te (ec 2 rfl (ec 3 rfl (ec 7 rfl (ec 9 rfl (ec 10 rfl (ec 13 rfl (ec 70 rfl (ec 71 rfl en)))))))) (rg (mv rfl rfl (mv rfl rfl (oP (pu_index (oT rfl) (oT rfl) Tryz.underlying31 y147 (by omega) (by omega)) rfl (oP (pu_faddr_at (oT rfl) lo1 y164) rfl (oP (pL (oT rfl) y93) rfl (tn (nn (tc (oT rfl) (fun c107 => ?_) (fun c107 => ?_)))))))))))))))))))))
                  · have hFa : F = E ++ (at' sc (i : Int)).1 := by rw [← hF, c107]; rfl
                    refine sq (te (ec 2 rfl (ec 3 rfl (ec 7 rfl (ec 9 rfl (ec 10 rfl (ec 13 rfl (ec 70 rfl (ec 71 rfl en)))))))) (rg (mv rfl rfl (mv rfl rfl (mv rfl rfl (oP (pu_index (oT rfl) (oT rfl) Tryz.underlying31 y147 (by omega) (by omega)) rfl (oP (pu_faddr_at (oT rfl) lo0 y148) rfl (oP (pL (oT rfl) y149) rfl (oA (acts_append (oT rfl) (by exact pA 1 rfl) (oT rfl) y151 (by omega) (by (simp [maxLen]; omega))) (by exact pA 1 rfl) rfl rfl (fun v26_6 _ => ?_))))))))))
                    refine av rfl rfl (tn (nn (tr_exit (tx (bh (nn (te (ec 2 rfl (ec 3 rfl (ec 7 rfl (ec 9 rfl (ec 10 rfl (ec 70 rfl (ec 71 rfl en))))))) (rg (oP (pad (oT rfl) ot (by omega)) rfl (mv rfl rfl (tn (nn ?_))))))))))))
                    exact tg (i + 1, v26_6, F, q2) ⟨(by show i + 1 ≤ sc.length; omega), hq2, hmF, (by show (F.length : Int) ≤ totE es sc (i + 1); omega)⟩ (by show sc.length - (i + 1) < sc.length - i; omega) (ea (ec 71 rfl (ec 9 rfl (ec 10 rfl en))) (ec 2 rfl (ec 3 rfl (ec 7 rfl (ec 70 rfl en))))) (by dsimp only; rw [hFa]; exact op (by (repeat (first | refine pc 0 rfl ?_ | refine pc 1 rfl ?_)); exact pd (pl)))
                  · have hFa : F = withoutE E (at' sc (i : Int)).1 := by rw [← hF, c107]; rfl
                    refine sk (nn (sq (te (ec 2 rfl (ec 3 rfl (ec 7 rfl (ec 9 rfl (ec 10 rfl (ec 13 rfl (ec 70 rfl (ec 71 rfl en)))))))) (rg (ak rfl (tn (tr_nilItem 54 kE (nn (sq (sq (te (ec 2 rfl (ec 3 rfl (ec 7 rfl (ec 9 rfl (ec 10 rfl (ec 13 rfl (ec 18 rfl (ec 70 rfl (ec 71 rfl en))))))))) (rg (mv rfl rfl (oP (pu_len_own (oT rfl) (by exact mA 2 rfl) Tryz.underlying26) rfl ?_))))))))))))))
                    refine oP (pu_move ot) rfl (tn (nn (tb (tr_loopK (σ := Nat × Value) (ec 2 rfl (ec 3 rfl (ec 7 rfl (ec 9 rfl (ec 13 rfl (ec 70 rfl (ec 71 rfl (ec 115 rfl (ec 116 rfl en))))))))) (fun s => [(117, I64 (s.1 : Int)), (18, IsV s.2)]) (fun s => (OwnI 54 kE s.2 (withoutE (E.take s.1) (at' sc (i : Int)).1) :: OwnI 54 kE va E :: BlkI g0_0 25 kV n.v :: NetI n q2.1 q2.2.1 q2.2.2)) (fun s => s.1 ≤ E.length) (fun s => E.length - s.1) (0, nilS) (Nat.zero_le _) ?_ (op (by (repeat (first | refine pc 0 rfl ?_ | refine pc 1 rfl ?_)); exact pd (pl))) ?_))))
                    · exact (ec 117 rfl (ec 18 rfl en))
                    · rintro ⟨k, vb⟩ hk
                      dsimp only at hk ⊢
                      refine sq (te (ec 2 rfl (ec 3 rfl (ec 7 rfl (ec 9 rfl (ec 13 rfl (ec 18 rfl (ec 70 rfl (ec 71 rfl (ec 115 rfl (ec 116 rfl (ec 117 rfl en))))))))))) (rg (oP (pu_lss (oT rfl) (oT rfl)) rfl (tn (nn (sq (tc (oT rfl) (fun c118 => ?_) (fun c118 => ?_))))))))
                      · refine sk (nn (sq (tb (sq (te (ec 2 rfl (ec 3 rfl (ec 7 rfl (ec 9 rfl (ec 13 rfl (ec 18 rfl (ec 70 rfl (ec 71 rfl (ec 115 rfl (ec 116 rfl (ec 117 rfl en))))))))))) ?_)))))
                        have hk5 : k < E.length := by have h9 := of_decide_eq_true c118; omega
                        obtain ⟨y, hy⟩ : ∃ y, at' E (k : Int) = y := ⟨_, rfl⟩
                        have hfs := filt_step (es := (at' sc (i : Int)).1) hk5 hy
                        have hfl : (withoutE (E.take k) (at' sc (i : Int)).1).length ≤ 40 := Nat.le_trans (List.length_filter_le _ _) (by rw [List.length_take]; omega)
                        refine rg (oP (pio (oT rfl) (by exact mA 1 rfl) (oT rfl) Tryz.underlying26 y56 (by omega) (by omega)) rfl ?_)
                        refine oP (plo (oT rfl) (by exact mA 1 rfl) (by omega) (by omega) y56) rfl ?_
                        rw [hy]
                        refine oA (acts_alloc (zE)) pR rfl rfl (fun g30_2 _ => ?_)
                        refine oA (asv (oT rfl) (oT rfl) (by exact pA 0 rfl) y56) (by exact pA 0 rfl) rfl rfl (fun _ _ => ?_)
                        refine tn (nn (sq (te (ec 2 rfl (ec 3 rfl (ec 7 rfl (ec 9 rfl (ec 13 rfl (ec 18 rfl (ec 20 rfl (ec 70 rfl (ec 71 rfl (ec 115 rfl (ec 116 rfl (ec 117 rfl en)))))))))))) ?_)))
                        apply tr_any (m := 6) (ns := [[(2, none)], [(13, none)], [(121, some 0), (122, some 1)], [(123, some 2)], [(124, some 3)], [(20, none)]]) (by kernel_rfl) (by kernel_rfl) (Ts := [_, _, _, _, _, _]) rfl
                        case hops =>
                         refine ⟨?_, ?_, ?_, ?_, ?_, ?_, trivial⟩
                         · exact rmv rfl
                         · exact rmv rfl
                         · exact rP (pu_index (oT rfl) (oT rfl) Tryz.underlying31 y147 (by omega) (by omega))
                         · exact rP (pu_faddr_at (oT rfl) lo0 y148)
                         · exact rP (pL (oT rfl) y149)
                         · exact rP (plv (oT rfl) (by exact mA 0 rfl) y56)
                        case h =>
                         refine oA (aC (lhas_fn (at' sc (i : Int)).1 y (by omega)) y163 (oc (oT rfl) (oc (oT rfl) oN)) pR) pR rfl rfl (fun _ _ => ?_)
                         refine oP (pu_not (oT rfl)) rfl (tn (nn (tc (oT rfl) (fun c128 => ?_) (fun c128 => ?_))))
                         · have hne : y ∉ (at' sc (i : Int)).1 := by simpa using c128
                           rw [if_neg hne] at hfs
                           refine te (ec 2 rfl (ec 3 rfl (ec 7 rfl (ec 9 rfl (ec 13 rfl (ec 18 rfl (ec 20 rfl (ec 70 rfl (ec 71 rfl (ec 115 rfl (ec 116 rfl (ec 117 rfl en)))))))))))) (rg (mv rfl rfl (oP (plv (oT rfl) (by exact mA 0 rfl) y56) rfl ?_)))
                           refine oA (acts_lit (d := kE) (v0 := (0, [], 0)) y151 y56 zE (show 1 * 3 ≤ 16777216 from by decide) (by decide) (fills_arr rfl rfl (by decide) (oT rfl) fills_nil)) pR rfl rfl (fun _ _ => ?_)
                           refine oA (acts_append (oT rfl) (by exact pA 1 rfl) (oT rfl) y151 (by (simp; omega)) (by (simp [maxLen]; omega))) (by exact pA 1 rfl) rfl rfl (fun v32_3 _ => ?_)
                           refine av rfl rfl (tn (bn (nn (te (ec 2 rfl (ec 3 rfl (ec 7 rfl (ec 9 rfl (ec 13 rfl (ec 18 rfl (ec 70 rfl (ec 71 rfl (ec 115 rfl (ec 116 rfl (ec 117 rfl en))))))))))) (rg (oP (pad (oT rfl) ot (by omega)) rfl (mv rfl rfl (tn (nn ?_)))))))))
                           exact tg (k + 1, v32_3) (by show k + 1 ≤ E.length; omega) (by show E.length - (k + 1) < E.length - k; omega) (ea (ec 117 rfl (ec 18 rfl en)) (ec 2 rfl (ec 3 rfl (ec 7 rfl (ec 9 rfl (ec 13 rfl (ec 70 rfl (ec 71 rfl (ec 115 rfl (ec 116 rfl en)))))))))) (by dsimp only; rw [hfs]; exact op (by (repeat (first | refine pc 0 rfl ?_ | refine pc 1 rfl ?_)); exact pd (pl)))
                         · have hne : y ∈ (at' sc (i : Int)).1 := by simpa using c128
                           rw [if_pos hne, List.append_nil] at hfs
                           refine sk (bn (nn (te (ec 2 rfl (ec 3 rfl (ec 7 rfl (ec 9 rfl (ec 13 rfl (ec 18 rfl (ec 70 rfl (ec 71 rfl (ec 115 rfl (ec 116 rfl (ec 117 rfl en))))))))))) (rg (oP (pad (oT rfl) ot (by omega)) rfl (mv rfl rfl (tn (nn ?_))))))))
                           exact tg (k + 1, vb) (by show k + 1 ≤ E.length; omega) (by show E.length - (k + 1) < E.length - k; omega) (ea (ec 117 rfl (ec 18 rfl en)) (ec 2 rfl (ec 3 rfl (ec 7 rfl (ec 9 rfl (ec 13 rfl (ec 70 rfl (ec 71 rfl (ec 115 rfl (ec 116 rfl en)))))))))) (by dsimp only; rw [hfs]; exact op (by (repeat (refine pc 1 rfl ?_)); exact pd (pl)))
                      · refine tr_exit (tx (tx (bh (nn (te (ec 2 rfl (ec 3 rfl (ec 7 rfl (ec 9 rfl (ec 18 rfl (ec 70 rfl (ec 71 rfl en))))))) ?_)))))
                        obtain rfl : k = E.length := by have h9 := of_decide_eq_false c118; omega
                        rw [List.take_length, ← hFa]
                        refine rg (mv rfl rfl (av rfl rfl (tn (bn (nn (te (ec 2 rfl (ec 3 rfl (ec 7 rfl (ec 9 rfl (ec 10 rfl (ec 70 rfl (ec 71 rfl en))))))) (rg (oP (pad (oT rfl) ot (by omega)) rfl (mv rfl rfl (tn (nn ?_)))))))))))
                        exact tg (i + 1, vb, F, q2) ⟨(by show i + 1 ≤ sc.length; omega), hq2, hmF, (by show (F.length : Int) ≤ totE es sc (i + 1); omega)⟩ (by show sc.length - (i + 1) < sc.length - i; omega) (ea (ec 71 rfl (ec 9 rfl (ec 10 rfl en))) (ec 2 rfl (ec 3 rfl (ec 7 rfl (ec 70 rfl en))))) (op (by (repeat (first | refine pc 0 rfl ?_ | refine pc 1 rfl ?_)); exact pd (pl)))
           · refine tr_exit (tx (tx (bh (nn (sq (te (ec 3 rfl (ec 7 rfl (ec 9 rfl (ec 10 rfl en)))) ?_))))))
             have hsE := res_small hv hq.als.inE hmE
             have hrl := hsE.1
             have hmt := tot_mono es sc sc.length (j := i) hi (Nat.le_refl _)
             refine tr_freeze (perm_at 0 rfl) 10 (oT rfl) (rg (oP (plv (oT rfl) (by exact mA 0 rfl) y53) rfl ?_))
             refine mv rfl rfl (oA (aC (Result_fn n.v E (by unfold maxLen; omega) (by unfold maxLen; omega) (by omega)) y143 (oc (oT rfl) (oc (oT rfl) oN)) pR) pR rfl rfl (fun rs hrs => ?_))
             obtain rfl := res_say hv hmE hrs
             dsimp only
             refine mv rfl rfl (oP (pu_extract (oT rfl) rfl) rfl (oP (pu_extract (oT rfl) rfl) rfl (oP (pu_extract (oT rfl) rfl) rfl (av rfl rfl (av rfl rfl (av rfl rfl (tn (nn (sq (sq (te (ec 7 rfl (ec 8 rfl (ec 9 rfl (ec 21 rfl (ec 22 rfl en))))) (rg (mv rfl rfl (oP (pu_neq (oT rfl) ot) rfl (mv rfl rfl (oG rfl rfl rfl (gm (oT rfl)) (fun hg => by (have hg1 := hg.2; (try simp only [cq2] at hg1); exact pu_move (oT rfl))) rfl ?_))))))))))))))))
             refine oG rfl rfl rfl (gm (oT rfl)) (fun hg => by (have hg1 := hg.2; (try simp only [cq2] at hg1); exact pu_move (oT rfl))) rfl ?_
             refine op_gu_acts () rfl rfl rfl (gm (oT rfl)) (fun hg => by (have hg1 := hg.2; (try simp only [cq2] at hg1); exact aC (Same_fn (resL n.v E) (resL n.v E) hsE hsE) y26 (oc (by exact gu (oT rfl) hg) (oc (by exact gu (oT rfl) hg) oN)) pR)) rfl (fun _ _ => ?_)
             refine oG rfl rfl rfl (gm (oT rfl)) (fun hg => by (have hg1 := hg.2; (try simp only [cq2] at hg1); exact pu_not (by exact gu (oT rfl) hg))) rfl ?_
             refine oP (pu_pick_or (oT rfl) (oT rfl)) rfl (mv rfl rfl (oG rfl rfl rfl (gm (oT rfl)) (fun hg => by (have hg1 := hg.2; (try simp only [cq2] at hg1); exact pu_move (oT rfl))) rfl ?_))
             refine op_gu_same rfl rfl rfl (gm (oT rfl)) (perm_tail (X := [_])) (fun hg => aC (read_net hv hq hmE) y136 (oc (gu (oT rfl) hg) oN) (perm_tail (X := [_]))) rfl (oG rfl rfl rfl (gm (oT rfl)) (fun hg => by (have hg1 := hg.2; (try simp only [cq2] at hg1); exact pu_move (oT rfl))) rfl ?_)
             refine op_gu_acts () rfl rfl rfl (gm (oT rfl)) (fun hg => by (have hg1 := hg.2; (try simp only [cq2] at hg1); exact aC (Same_fn (resL n.v E) (resL n.v E) hsE hsE) y26 (oc (by exact gu (oT rfl) hg) (oc (by exact gu (oT rfl) hg) oN)) pR)) rfl (fun _ _ => ?_)
             refine oG rfl rfl rfl (gm (oT rfl)) (fun hg => by (have hg1 := hg.2; (try simp only [cq2] at hg1); exact pu_not (by exact gu (oT rfl) hg))) rfl ?_
             refine oP (pu_pick_or (oT rfl) (oT rfl)) rfl (tn (nn (tc (oT rfl) (fun c157 => ?_) (fun c157 => ?_))))
             · exact absurd c157 (by simp) --done
             · refine sk (nn (sq (sq (te (ec 7 rfl (ec 21 rfl (ec 22 rfl en))) (rg (mv rfl rfl (oP (pls (oT rfl) Tryz.underlying37) rfl (oP (pu_move ot) rfl (tn (nn (tb (tr_loopK (σ := Nat) (ec 7 rfl (ec 21 rfl (ec 22 rfl (ec 159 rfl en)))) (fun k => [(160, I64 (k : Int))]) (fun k => (BlkI g0_0 25 kV n.v :: NetI n q.1 q.2.1 q.2.2)) (fun k => k ≤ (resL n.v E).length) (fun k => (resL n.v E).length - k) 0 (Nat.zero_le _) ?_ (op pl) ?_))))))))))))
               · exact (ec 160 rfl en)
               · rintro k hk
                 refine sq (te (ec 7 rfl (ec 21 rfl (ec 22 rfl (ec 159 rfl (ec 160 rfl en))))) (rg (oP (pu_lss (oT rfl) (oT rfl)) rfl (tn (nn (sq (tc (oT rfl) (fun c161 => ?_) (fun c161 => ?_))))))))
                 · refine sk (nn (sq (tb (sq (te (ec 7 rfl (ec 21 rfl (ec 22 rfl (ec 159 rfl (ec 160 rfl en))))) ?_)))))
                   have hkl : k < (resL n.v E).length := by have h9 := of_decide_eq_true c161; omega
                   have hcl := counts_len (v := n.v) (E := E)
                   have htm : at' (resL n.v E) (k : Int) ∈ allOf n.v E := ((setR_spec _).2 _).1 (at_mem hkl)
                   obtain ⟨htn, htl⟩ := out_in hv hq.als.inE htm
                   have hto : (at' (resL n.v E) (k : Int)).length = n.v.2.2.1.length := by obtain ⟨r, _, e⟩ := mem_all.1 htm; rw [← e]; unfold proj; rw [List.length_map]
                   have hca := counts_at hkl
                   refine rg (mv rfl rfl (av rfl rfl (tn (nn (sq (te (ec 7 rfl (ec 21 rfl (ec 22 rfl (ec 23 rfl (ec 159 rfl (ec 160 rfl en)))))) ?_))))))
                   apply tr_anyW (p := 5) (Lf := fun c => cond c (BlkI g0_0 25 kV n.v :: NetI n q.1 q.2.1 q.2.2) (BlkI g0_0 25 kV n.v :: NetI n q.1 q.2.1 q.2.2)) (by kernel_rfl) (m := 10) (ns := [[(7, none)], [(21, none)], [(23, none)], [(164, some 1), (165, some 2)], [(166, some 3)], [(163, some 0), (167, some 4)], [(22, none)], [(23, none)], [(169, some 6), (170, some 7)], [(171, some 8)]]) (by kernel_rfl) (by kernel_rfl) (Ts := [_, _, _, _, _, _, _, _, _, _]) rfl
                   case hops =>
                    refine ⟨?_, ?_, ?_, ?_, ?_, ?_, ?_, ?_, ?_, ?_, trivial⟩
                    · exact cAf (by kernel_rfl) fun _ => rw_ (rmv rfl)
                    · exact cAf (by kernel_rfl) fun _ => rw_ (rmv rfl)
                    · exact cAf (by kernel_rfl) fun _ => rw_ (rmv rfl)
                    · exact cAf (by kernel_rfl) fun _ => rw_ (rP (pu_index (oT rfl) (oT rfl) Tryz.underlying37 y0 (by omega) (by omega)))
                    · exact cAf (by kernel_rfl) fun _ => rw_ (rP (pL (oT rfl) y0))
                    · exact cAf (by kernel_rfl) fun _ => ropw_acts rfl (aC (count_net hv hq (at' (resL n.v E) (k : Int)) (by omega) (fun _ => htn)) y162 (oc (oT rfl) (oc (oT rfl) oN)) (perm_tail (X := [_]))) (perm_tail (X := [_])) (fun _ => (perm_tail (X := [_])).symm) (fun _ _ _ _ h => h)
                    · intro c hc; cases c <;> exact rw_ (rmv rfl)
                    · intro c hc; cases c <;> exact rw_ (rmv rfl)
                    · intro c hc; cases c <;> exact rw_ (rP (pu_index (oT rfl) (oT rfl) Tryz.underlying39 y2 (by omega) (by omega)))
                    · intro c hc; cases c <;> exact rw_ (rP (pL (oT rfl) y2))
                   case h =>
                    refine oP (pu_neq (oT rfl) (oT rfl)) rfl (tn (nn (tc (oT rfl) (fun c173 => ?_) (fun c173 => ?_))))
                    · rw [if_pos hto, hca] at c173
                      exact absurd c173 (by simp) --done
                    · refine sk (bn (nn (te (ec 7 rfl (ec 21 rfl (ec 22 rfl (ec 159 rfl (ec 160 rfl en))))) (rg (oP (pad (oT rfl) ot (by omega)) rfl (mv rfl rfl (tn (nn ?_))))))))
                      exact tg (k + 1) (by omega) (by omega) (ea (ec 160 rfl en) (ec 7 rfl (ec 21 rfl (ec 22 rfl (ec 159 rfl en))))) (op (by (repeat (refine pc 0 rfl ?_)); exact pl))
                 · refine tr_exit (tx (tx (bh (nn (sq (te en (rg (ak rfl (tn (nn (tR ?_)))))))))))
                   exact ret_one .ret (.inl rfl) rfl () (OT.val (oT rfl) (congrArg Value.bool (rfl))) trivial (by exact pn)
end Go.Proofs.YtaahhghlpoiihaaGreatDoor
