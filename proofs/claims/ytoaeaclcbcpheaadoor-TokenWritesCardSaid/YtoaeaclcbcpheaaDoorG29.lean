/- Rows that list variables: the row's builder with the world's shape handed on; contracts with a mark as rows; arguments opened with what their weights say; variables in a frozen heap. Over any program. -/
import Derived.Test.YtoaeaclcbcpheaaDoorG27
import Derived.Test.YtoaeaclcbcpheaaDoorRows
import Derived.Handed
import Derived.SizedLaws
import Derived.LaidLaws
import Derived.Lib.LaidTab
namespace Go.Gw
open Go Go.ChangeShapes Go.WideShapes Go.RowKit
set_option linter.unusedVariables false
set_option linter.unusedSimpArgs false
/-- As the kit's 'returnsInHanded_of_change_and', the world's shape handed on besides. -/
theorem returns_shaped {H : Type} {enc : TypeId × Value → H} {a : Assume} {C : Checked} {os : Os} {f : FuncId} {fn : Func} {s : ChangeSpec} {conds : List PathCond} {apart fresh handsOn again : Bool} {X : World → Array Value → Prop}
    (hX : ∀ (w w' : World) (args : Array Value), w.heap = w'.heap → X w args → X w' args)
    (own : ownKnob C.prog.godebug = none) (started : os.Started) (noInit : C.prog.inits.idxOf? f = none) (hfn : C.prog.funcs[f]? = some fn)
    (witness : ∃ (w : World) (tape : Tape) (i : Input), w.os = os ∧ (w.forCall tape i).Shaped C.prog ∧ i.vars = [] ∧ Input.okWide C.prog (w.forCall tape i) .any w.heap.size f i ∧
      ((s.pre enc C.prog fn conds apart (w.forCall tape i).memory i.args ∧ X (w.forCall tape i).memory i.args) ∧ sizedMet enc C.prog fn (OpenSpec.ofChange s) apart (w.forCall tape i).memory i.args) ∧ a.holds C.prog (lone (Frame.enter C.prog f i.args .normal) [] (w.forCall tape i)))
    (contract : ∀ (W : World) (base : Nat) (args : Array Value) (ds gs : List (DataW H)) (before : List MemPlace), W.ShapedOpen C.prog →
      (∀ (j : Nat) t v, fn.params[j]? = some t → args[j]? = some v → Value.okWide C.prog W .any base t v) →
      DataW.Whole enc C.prog fn.params.toList s.vars apart W args.toList ds gs before →
      conds.all (PathCond.test C.prog ⟨fn.params.toList, ds, s.plain.varTypes C.prog, gs⟩) = true →
      (DataW.weightsEach C.prog (fn.params.toList ++ s.plain.varTypes C.prog) (ds ++ gs)).all (· ≤ reachBytes) = true → X W args →
      Calls C.prog f args W fun e W' => ∃ v, e = .returned v ∧ s.post enc C.prog fn apart fresh handsOn again W args v W') :
    ReturnsInHanded a C os f .any (fun w args => (s.pre enc C.prog fn conds apart w args ∧ X w args) ∧ sizedMet enc C.prog fn (OpenSpec.ofChange s) apart w args) (s.post enc C.prog fn apart fresh handsOn again) := by
  refine returnsInHanded_of_calls own started noInit witness ?_
  intro w tape i _ hsh _ hok hpre _
  obtain ⟨_, _, _, fn', hfn', _, _, _, _, hval⟩ := hok
  have e : fn' = fn := Option.some.inj (hfn'.symm.trans hfn)
  subst e
  obtain ⟨⟨⟨ds, gs, before, hw, hc⟩, hx⟩, hz⟩ := hpre
  have hw' := DataW.Whole.of_heap (w' := w.forCall tape i) (by rfl) hw
  refine (contract (w.forCall tape i) w.heap.size i.args ds gs before hsh hval hw' hc (hz.weights hw) (hX _ _ _ (by rfl) hx)).mono fun e W' ⟨v, he, hp⟩ => ?_
  subst he
  exact ChangeSpec.post_blind hp
/-- A contract with a mark, called in a world whose heap is frozen. -/
theorem ctM_row {P : Program} {f : FuncId} {As : List Ty} {b : Bool} (W : World) (h : CtM (heapOf W) 0 P f As [] Unit (fun _ => IsV (.bool b)) (fun _ => []) (fun _ => True)) {args : List Value} (ha : AllP (heapOf W) As args) :
    Calls P f args.toArray W fun e W' => e = .returned (.bool b) ∧ Below W.heap.size W W' := by
  refine (h (heapOf W) W args (Sub.refl _) (Nat.zero_le _) (on_heapOf W) ha ⟨fun _ h => by simp at h, by simp [blks], fun g hg => by simp [blks] at hg⟩).mono fun e W' hp => ?_
  obtain ⟨r, v, H', he, _, s, hv, _⟩ := hp
  have hv' : v = .bool b := hv
  subst hv'
  exact ⟨he, s.os, s.tape, s.output, s.size, fun k hk => s.keep k hk (by simp [blks])⟩
theorem var_on {P : Program} {W w : World} {n : String} {cs : Array Value} (h : W.var? P n = some cs) (ho : On (heapOf W) w) : w.var? P n = some cs := by
  unfold World.var? at h ⊢
  cases hg : P.globalNamed n with
  | none => rw [hg] at h; cases h
  | some g =>
    rw [hg] at h
    simp only [Option.bind_some] at h ⊢
    cases hW : W.heap[g]? with
    | none => rw [hW] at h; cases h
    | some o => rw [hW] at h; rw [ho g o hW]; exact h
theorem cell_on {W w : World} {a : Addr} {v : Value} (h : W.cell? a = some v) (ho : On (heapOf W) w) : w.cell? a = some v := by
  cases hW : W.heap[a.block]? with
  | none => unfold World.cell? at h; rw [hW] at h; cases h
  | some o => exact (World.cell?_of_block (by rw [hW]; exact ho a.block o hW)).trans h
/-! ### Arguments opened with their weights -/
def OpnW {α : Type} (P : Program) (t : TypeId) (d : Kd α) (good : α → Prop) : Prop :=
  ∀ (Hh : Type) (enc : TypeId × Value → Hh) (w : World) (fuel : Nat) (cs : List Value) (x : DataW Hh × List MemPlace), DataW.trod enc P w 0 (fun _ => true) true fuel t cs = some x → (∀ n ∈ x.1.weights P t, n ≤ reachBytes) → ∃ v, d.K (heapOf w) v cs ∧ good v
theorem Opn.w {α : Type} {P : Program} {t : TypeId} {d : Kd α} {good : α → Prop} (h : Opn P t d good) : OpnW P t d good := fun Hh enc w fuel cs x hx _ => h Hh enc w fuel cs x hx
theorem opnw_bs {P : Program} {t : TypeId} (ht : P.underlying t = some .string) : OpnW P t kS (fun l => l.length ≤ reachBytes) := fun Hh enc w fuel cs x h hw => by
  obtain ⟨n, rfl, hx, hs⟩ := DataW.trod_string ht h
  refine ⟨n.data.toList, ?_, ?_⟩
  · show _ = [Value.string (bs n.data.toList)]
    rw [bs_of]
  · subst hx
    exact hw _ (by simp [DataW.weights])
theorem opnw_struct3 {P : Program} {α β γ : Type} {a : Kd α} {b : Kd β} {c : Kd γ} {g0 : α → Prop} {g1 : β → Prop} {g2 : γ → Prop} {t : TypeId} {f0 f1 f2 : Field} (ht : P.underlying t = some (.struct #[f0, f1, f2])) (h0 : OpnW P f0.type a g0) (h1 : OpnW P f1.type b g1) (h2 : OpnW P f2.type c g2)
    (o0 : f0.offset = 0) (o1 : f1.offset = a.sz) (o2 : f2.offset = a.sz + b.sz) (s0 : P.cellsOf f0.type = a.sz) (s1 : P.cellsOf f1.type = b.sz) (s2 : P.cellsOf f2.type = c.sz) (s : P.cellsOf t = a.sz + b.sz + c.sz) : OpnW P t (kpair a (kpair b c)) (fun x => g0 x.1 ∧ g1 x.2.1 ∧ g2 x.2.2) := fun Hh enc w fuel cs x h hw => by
  obtain ⟨xs, n, _, rfl, hl, hlen, hf⟩ := DataW.trod_struct ht h
  match xs, hlen with
  | [y0, y1, y2], _ =>
    have e0 := hf 0 f0 rfl
    have e1 := hf 1 f1 rfl
    have e2 := hf 2 f2 rfl
    simp only [List.getElem?_cons_zero, List.getElem?_cons_succ] at e0 e1 e2
    have hwt : ∀ n, (n ∈ y0.1.weights P f0.type ∨ n ∈ y1.1.weights P f1.type ∨ n ∈ y2.1.weights P f2.type) → n ≤ reachBytes := fun n hn => hw n (by
      simp only [DataW.weights, ht, List.map_cons, List.map_nil, DataW.weightsEach, List.mem_append, List.append_nil]
      exact hn)
    rw [o0, s0, List.drop_zero] at e0
    rw [o1, s1] at e1
    rw [o2, s2] at e2
    obtain ⟨u, hu, gu⟩ := h0 Hh enc w n _ _ e0 (fun n hn => hwt n (.inl hn))
    obtain ⟨v, hv, gv⟩ := h1 Hh enc w n _ _ e1 (fun n hn => hwt n (.inr (.inl hn)))
    obtain ⟨z, hz, gz⟩ := h2 Hh enc w n _ _ e2 (fun n hn => hwt n (.inr (.inr hn)))
    refine ⟨(u, v, z), ⟨_, _, hu, ⟨_, _, hv, hz, rfl⟩, ?_⟩, gu, gv, gz⟩
    rw [List.take_of_length_le (l := cs.drop (a.sz + b.sz)) (by rw [List.length_drop]; omega)]
    rw [← List.drop_drop, List.take_append_drop, List.take_append_drop]
end Go.Gw
