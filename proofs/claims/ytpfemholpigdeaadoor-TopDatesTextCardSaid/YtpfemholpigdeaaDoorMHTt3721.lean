/-
  Part 21 of the proof: OpenD, Crd. No statement of the seat is proved here.
-/
import Derived.Test.YtpfemholpigdeaaDoorMHTt3720
import Derived.Test.YtpfemholpigdeaaDoorRows
import Derived.HandedShaped
import Derived.LaidMore
import Derived.Lay
namespace Go.Proofs.YtpfemholpigdeaaDoor
open Go.RowKit Go.Deep Go.WideShapes
section
variable {H : Type} {enc : TypeId × Value → H} {W : World}
instance : Inhabited Dt := ⟨⟨0, 0, 0⟩⟩
theorem dcells_getD (ds : List Dt) (j : Nat) (hj : j < ds.length) : (dcells ds).getD (j * 3 + 0) undef = .int .i64 ds[j].node ∧ (dcells ds).getD (j * 3 + 1) undef = .int .i64 ds[j].fr ∧ (dcells ds).getD (j * 3 + 2) undef = .int .i64 ds[j].tl := by
  obtain ⟨h0, h1, h2⟩ := dcells_at ds j hj
  simp [h0, h1, h2]
theorem Dats.open {v : Value} {d : DataW H} {ps : List MemPlace} (ho : ∃ a n c, v = .slice a n c) (h : DataW.Trod enc Tryd.prog W 0 (fun _ => true) true 54 v d ps) (hw : Light 54 d) :
    ∃ ds, Dats W v ds := by
  obtain ⟨fuel, h⟩ := h
  have hv : v.cells.toList = [v] := by obtain ⟨a, n, c, rfl⟩ := ho; rfl
  rw [hv] at h
  obtain ⟨n, m, C, D, Q, h1, hr, h2⟩ := open_sl2 Tryd.underlying54 (sz := 3) (by kernel_rfl) (by decide) (of_decide_eq_true (by kernel_rfl)) h hw
  obtain ⟨Z, hZ⟩ := choose_lt (α := Dt) (p := fun i d => C i = [.int .i64 d.node, .int .i64 d.fr, .int .i64 d.tl] ∧ (-9223372036854775808 ≤ d.node ∧ d.node ≤ 9223372036854775807) ∧ (-9223372036854775808 ≤ d.fr ∧ d.fr ≤ 9223372036854775807) ∧ (-9223372036854775808 ≤ d.tl ∧ d.tl ≤ 9223372036854775807)) (fun i hi => by
    obtain ⟨h3, h4, h5⟩ := h2 i hi
    generalize C i = ci at h3 h4
    match ci, h3, h4 with
    | [a, b, c], _, h4 =>
      obtain ⟨y0, y1, y2, n, e, _, g0, g1, g2⟩ := trod_struct3 Tryd.underlying62 h4
      have c1 : Tryd.prog.cellsOf 3 = 1 := by kernel_rfl
      simp only [c1, List.drop_zero, List.drop_succ_cons, List.take_succ_cons, List.take_zero] at g0 g1 g2
      obtain ⟨z0, e0, _, b0⟩ := DataW.trod_int Tryd.underlying3 g0
      obtain ⟨z1, e1, _, b1⟩ := DataW.trod_int Tryd.underlying3 g1
      obtain ⟨z2, e2, _, b2⟩ := DataW.trod_int Tryd.underlying3 g2
      simp only [List.take_succ_cons, List.take_zero, List.drop_succ_cons, List.drop_zero, List.cons.injEq, and_true] at e0 e1 e2
      subst e0; subst e1; subst e2
      have r0 := wf_range b0
      have r1 := wf_range b1
      have r2 := wf_range b2
      exact ⟨⟨z0, z1, z2⟩, rfl, r0, r1, r2⟩)
  refine ⟨(List.range n).map Z, ?_, ?_⟩
  · rw [List.length_map, List.length_range]
    refine h1.flat hr _ (fun j hj c hc => ?_) (by decide)
    obtain ⟨e, _⟩ := hZ j hj
    have := dcells_getD ((List.range n).map Z) j (by simpa using hj)
    simp only [List.getElem_map, List.getElem_range] at this
    obtain ⟨t0, t1, t2⟩ := this
    show _ = (C j).getD c undef
    rw [e]
    match c, hc with
    | 0, _ => rw [t0]; rfl
    | 1, _ => rw [t1]; rfl
    | 2, _ => rw [t2]; rfl
  · intro i hi
    obtain ⟨j, hj, rfl⟩ := List.mem_map.1 hi
    exact (hZ j (List.mem_range.1 hj)).2
end
end Go.Proofs.YtpfemholpigdeaaDoor
namespace Go.Proofs.YtpfemholpigdeaaDoor
theorem changeAndS {H : Type} {enc : TypeId × Value → H} {a : Assume} {C : Checked} {os : Os} {f : FuncId} {fn : Func} {s : ChangeSpec} {conds : List PathCond} {apart fresh handsOn again : Bool} {X : World → Array Value → Prop}
    (hX : ∀ (w w' : World) (args : Array Value), w.heap = w'.heap → X w args → X w' args)
    (own : ownKnob C.prog.godebug = none) (started : os.Started) (noInit : C.prog.inits.idxOf? f = none) (hfn : C.prog.funcs[f]? = some fn)
    (witness : ∃ (w : World) (tape : Tape) (i : Input), w.os = os ∧ (w.forCall tape i).Shaped C.prog ∧ i.vars = [] ∧ Input.okWide C.prog (w.forCall tape i) .any w.heap.size f i ∧
      ((s.pre enc C.prog fn conds apart (w.forCall tape i).memory i.args ∧ X (w.forCall tape i).memory i.args) ∧ sizedMet enc C.prog fn (OpenSpec.ofChange s) apart (w.forCall tape i).memory i.args) ∧ a.holds C.prog (lone (Frame.enter C.prog f i.args .normal) [] (w.forCall tape i)))
    (contract : ∀ (W : World) (base : Nat) (args : Array Value) (ds gs : List (DataW H)) (before : List MemPlace),
      (∀ (j : Nat) t v, fn.params[j]? = some t → args[j]? = some v → Value.okWide C.prog W .any base t v) →
      DataW.Whole enc C.prog fn.params.toList s.vars apart W args.toList ds gs before →
      conds.all (PathCond.test C.prog ⟨fn.params.toList, ds, s.plain.varTypes C.prog, gs⟩) = true →
      (DataW.weightsEach C.prog (fn.params.toList ++ s.plain.varTypes C.prog) (ds ++ gs)).all (· ≤ reachBytes) = true → X W args → W.ShapedOpen C.prog →
      a.holds C.prog (lone (Frame.enter C.prog f args .normal) [] W) →
      Calls C.prog f args W fun e W' => ∃ v, e = .returned v ∧ s.post enc C.prog fn apart fresh handsOn again W args v W') :
    ReturnsInHanded a C os f .any (fun w args => (s.pre enc C.prog fn conds apart w args ∧ X w args) ∧ sizedMet enc C.prog fn (OpenSpec.ofChange s) apart w args) (s.post enc C.prog fn apart fresh handsOn again) := by
  refine returnsInHanded_of_calls own started noInit witness ?_
  intro w tape i _ hsh _ hok hpre hholds
  obtain ⟨_, _, _, fn', hfn', _, _, _, _, hval⟩ := hok
  have e : fn' = fn := Option.some.inj (hfn'.symm.trans hfn)
  subst e
  obtain ⟨⟨⟨ds, gs, before, hw, hc⟩, hx⟩, hz⟩ := hpre
  have hw' := DataW.Whole.of_heap (w' := w.forCall tape i) (by rfl) hw
  refine (contract (w.forCall tape i) w.heap.size i.args ds gs before hval hw' hc (hz.weights hw) (hX _ _ _ (by rfl) hx) hsh hholds).mono fun e W' ⟨v, he, hp⟩ => ?_
  subst he
  exact ChangeSpec.post_blind hp
end Go.Proofs.YtpfemholpigdeaaDoor
