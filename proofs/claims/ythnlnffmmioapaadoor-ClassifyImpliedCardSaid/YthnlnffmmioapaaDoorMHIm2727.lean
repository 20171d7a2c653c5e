/-
  Part 27 of the proof: Tl27, Crd. No statement of the seat is proved here.
-/
import Derived.Test.YthnlnffmmioapaaDoorMHIm2726
import Derived.Lib.LaidTab
import Derived.LaidSub
import Derived.LaidMore
import Derived.LaidHandle
import Derived.MakeChecks
import Derived.OpenShut
import Derived.Test.YthnlnffmmioapaaDoorRows
import Derived.HandedShaped
import Derived.Lay
namespace Go.Proofs.YthnlnffmmioapaaDoor
open Go.RowKit
def kdE (i : Nat) : List (DataW Unit) := [.lit (.string (wrdK i)), .lit (.bool (numK i)), .lit (.bool (txtK i)), .lit (.int .i64 (lstK i)), .lit (.int .i64 (mstK i))]
def kdD : DataW Unit := .agg ((List.range 14).map fun i => .agg (kdE i))
theorem at_of_take {l : List Value} {o c n : Nat} {v : Value} (h : (((l.drop o).take n).drop c).take 1 = [v]) : l[o + c]? = some v := by
  have h1 : (((l.drop o).take n).drop c)[0]? = some v := by
    have := congrArg (fun x => x[0]?) h
    simpa [List.getElem?_take] using this
  rw [List.getElem?_drop, List.getElem?_take, List.getElem?_drop] at h1
  split at h1
  · exact h1
  · cases h1
theorem kdl_of {l : List (String × DataW Unit)} {W : World} (h : laidMetH Tryd.prog l W) (hf : l.filter (fun x => x.1 == "apograph/rulelang.kinds") = [("apograph/rulelang.kinds", kdD)]) : KdL W := by
  have h1 := h.filter (fun x => x.1 == "apograph/rulelang.kinds")
  rw [hf, MakeChecks.laidMetH_plain _ _ _ (by rfl)] at h1
  have hg : Tryd.prog.globalNamed "apograph/rulelang.kinds" = some 1 := by kernel_rfl
  have ht : (Tryd.prog.globals[1]?).map (·.type) = some 120 := by kernel_rfl
  obtain ⟨ps, ⟨g', t', cs, fuel, p, q, hg', ht', hvar, hd, _, _⟩, _⟩ := h1
  obtain rfl := Option.some.inj (hg.symm.trans hg')
  obtain rfl := Option.some.inj (ht.symm.trans ht')
  obtain ⟨xs, m, _, hx, hl, hxl, hel⟩ := DataW.trod_array Tryd.underlying120 hd
  have hxs : (List.range 14).map (fun i => (.agg (kdE i) : DataW Unit)) = xs.map (·.1) := DataW.agg.inj (congrArg Prod.fst hx)
  have c5 : Tryd.prog.cellsOf 119 = 5 := by kernel_rfl
  have cs1 : Tryd.prog.cellsOf 9 = 1 := by kernel_rfl
  have cs2 : Tryd.prog.cellsOf 4 = 1 := by kernel_rfl
  have cs3 : Tryd.prog.cellsOf 3 = 1 := by kernel_rfl
  intro i hi c hc
  have hcell := World.var?_cell hg hvar (i * 5 + c)
  have h2 := hel i hi
  obtain ⟨x, hx2⟩ : ∃ x, xs[i]? = some x := ⟨_, List.getElem?_eq_getElem (by omega)⟩
  rw [hx2, c5] at h2
  have hx1 : x.1 = .agg (kdE i) := by
    have := congrArg (fun z => z[i]?) hxs
    simp only [List.getElem?_map, hx2, Option.map_some, List.getElem?_range hi, Option.some.injEq] at this
    exact this.symm
  obtain ⟨ys, n, _, he, _, hyl, hfl⟩ := DataW.trod_struct Tryd.underlying119 h2
  have f0 : DataW.trod _ Tryd.prog W 0 _ _ n 9 ((((cs.toList.drop (i * 5)).take 5).drop 0).take (Tryd.prog.cellsOf 9)) = ys[0]? := hfl 0 _ rfl
  have f1 : DataW.trod _ Tryd.prog W 0 _ _ n 4 ((((cs.toList.drop (i * 5)).take 5).drop 1).take (Tryd.prog.cellsOf 4)) = ys[1]? := hfl 1 _ rfl
  have f2 : DataW.trod _ Tryd.prog W 0 _ _ n 4 ((((cs.toList.drop (i * 5)).take 5).drop 2).take (Tryd.prog.cellsOf 4)) = ys[2]? := hfl 2 _ rfl
  have f3 : DataW.trod _ Tryd.prog W 0 _ _ n 3 ((((cs.toList.drop (i * 5)).take 5).drop 3).take (Tryd.prog.cellsOf 3)) = ys[3]? := hfl 3 _ rfl
  have f4 : DataW.trod _ Tryd.prog W 0 _ _ n 3 ((((cs.toList.drop (i * 5)).take 5).drop 4).take (Tryd.prog.cellsOf 3)) = ys[4]? := hfl 4 _ rfl
  rw [cs1] at f0
  rw [cs2] at f1 f2
  rw [cs3] at f3 f4
  rw [he] at hx1
  have hy := DataW.agg.inj hx1
  match ys, hyl, hy, f0, f1, f2, f3, f4 with
  | [y0, y1, y2, y3, y4], _, hy, f0, f1, f2, f3, f4 =>
    obtain ⟨s, e0, g0, _⟩ := DataW.trod_string Tryd.underlying9 f0
    obtain ⟨b1, e1, g1⟩ := DataW.trod_bool Tryd.underlying4 f1
    obtain ⟨b2, e2, g2⟩ := DataW.trod_bool Tryd.underlying4 f2
    obtain ⟨z3, e3, g3, _⟩ := DataW.trod_int Tryd.underlying3 f3
    obtain ⟨z4, e4, g4, _⟩ := DataW.trod_int Tryd.underlying3 f4
    subst g0 g1 g2 g3 g4
    simp only [kdE, List.map_cons, List.map_nil, List.cons.injEq, DataW.lit.injEq, Lit.string.injEq, Lit.bool.injEq, Lit.int.injEq, true_and, and_true] at hy
    obtain ⟨q0, q1, q2, q3, q4⟩ := hy
    have hs : s = bOf (wrdK i) := by rw [← q0, bOf_data]
    subst hs
    rw [hcell]
    match c, hc with
    | 0, _ => have := at_of_take e0; simpa [kdC] using this
    | 1, _ => have := at_of_take e1; rw [q1] at this; simpa [kdC] using this
    | 2, _ => have := at_of_take e2; rw [q2] at this; simpa [kdC] using this
    | 3, _ => have := at_of_take e3; rw [q3] at this; simpa [kdC] using this
    | 4, _ => have := at_of_take e4; rw [q4] at this; simpa [kdC] using this
def kfN : List (List UInt8) := [[97, 112, 111, 103, 114, 97, 112, 104, 47, 99, 108, 97, 115, 115, 105, 102, 121, 46, 107, 105, 110, 100, 115, 36, 49], [97, 112, 111, 103, 114, 97, 112, 104, 47, 99, 108, 97, 115, 115, 105, 102, 121, 46, 107, 105, 110, 100, 115, 36, 50], [97, 112, 111, 103, 114, 97, 112, 104, 47, 99, 108, 97, 115, 115, 105, 102, 121, 46, 107, 105, 110, 100, 115, 36, 51], [97, 112, 111, 103, 114, 97, 112, 104, 47, 99, 108, 97, 115, 115, 105, 102, 121, 46, 107, 105, 110, 100, 115, 36, 52], [97, 112, 111, 103, 114, 97, 112, 104, 47, 99, 108, 97, 115, 115, 105, 102, 121, 46, 107, 105, 110, 100, 115, 36, 53], [97, 112, 111, 103, 114, 97, 112, 104, 47, 99, 108, 97, 115, 115, 105, 102, 121, 46, 107, 105, 110, 100, 115, 36, 54], [97, 112, 111, 103, 114, 97, 112, 104, 47, 99, 108, 97, 115, 115, 105, 102, 121, 46, 107, 105, 110, 100, 115, 36, 55], [97, 112, 111, 103, 114, 97, 112, 104, 47, 99, 108, 97, 115, 115, 105, 102, 121, 46, 107, 105, 110, 100, 115, 36, 56], [97, 112, 111, 103, 114, 97, 112, 104, 47, 99, 108, 97, 115, 115, 105, 102, 121, 46, 107, 105, 110, 100, 115, 36, 57], [97, 112, 111, 103, 114, 97, 112, 104, 47, 99, 108, 97, 115, 115, 105, 102, 121, 46, 107, 105, 110, 100, 115, 36, 49, 48]]
def kfD : DataW Unit := .agg (.nil :: kfN.map fun s => .iface "func" (.lit (.string s)))
def kfO : List (DataW (List UInt8)) := .nil :: kfN.map fun s => .held s
theorem kfl_of {l : List (String × DataW Unit)} {W : World} (h : laidMetH Tryd.prog l W) (hf : l.filter (fun x => x.1 == "apograph/classify.kinds") = [("apograph/classify.kinds", .iface "func table" kfD)]) : KfL W := by
  have hm : ("apograph/classify.kinds", DataW.iface "func table" kfD) ∈ l := (List.mem_filter (p := fun x => x.1 == "apograph/classify.kinds").1 (by rw [hf]; exact List.mem_cons_self)).1
  have hg : Tryd.prog.globalNamed "apograph/classify.kinds" = some 0 := by kernel_rfl
  have ht : (Tryd.prog.globals[0]?).map (·.type) = some 96 := by kernel_rfl
  obtain ⟨g', t', cs, fuel, p, hg', ht', hvar, hd⟩ := h.funcs hm
  obtain rfl := Option.some.inj (hg.symm.trans hg')
  obtain rfl := Option.some.inj (ht.symm.trans ht')
  have hd' : DataW.trod (funcToken Tryd.prog) Tryd.prog W 0 (fun _ => true) true fuel 96 cs.toList = some (.agg kfO, p) := hd
  obtain ⟨xs, m, _, hx, hl, hxl, hel⟩ := DataW.trod_array Tryd.underlying96 hd'
  have hxs : kfO = xs.map (·.1) := DataW.agg.inj (congrArg Prod.fst hx)
  have c1 : Tryd.prog.cellsOf 72 = 1 := by kernel_rfl
  have c11 : Tryd.prog.cellsOf 96 = 11 := by kernel_rfl
  rw [c11] at hl
  have key : ∀ i, i < 11 → ∃ v y, cs.toList[i]? = some v ∧ DataW.trod (funcToken Tryd.prog) Tryd.prog W 0 (fun _ => true) true m 72 [v] = some y ∧ kfO[i]? = some y.1 := fun i hi => by
    have h2 := hel i hi
    obtain ⟨y, hy⟩ : ∃ y, xs[i]? = some y := ⟨_, List.getElem?_eq_getElem (by omega)⟩
    have hv : cs.toList[i]? = some (cs.toList[i]'(by omega)) := List.getElem?_eq_getElem (by omega)
    rw [hy, c1, Nat.mul_one] at h2
    have e1 : (cs.toList.drop i).take 1 = [cs.toList[i]'(by omega)] := by
      rw [List.drop_eq_getElem_cons (show i < cs.toList.length by omega)]
      rfl
    rw [e1] at h2
    exact ⟨_, y, hv, h2, by rw [hxs, List.getElem?_map, hy]; rfl⟩
  intro i h0 hi
  have hcell := World.var?_cell hg hvar i
  rw [hcell]
  obtain ⟨v, ⟨y1, y2⟩, hv, hr, ho⟩ := key i hi
  match i, h0, hi with
  | 1, _, _ =>
    obtain rfl := Option.some.inj ho
    obtain rfl := func_of_trod (f0 := 125) Tryd.underlying72 (by kernel_rfl) hr
    simpa [kfC] using hv
  | 2, _, _ =>
    obtain rfl := Option.some.inj ho
    obtain rfl := func_of_trod (f0 := 126) Tryd.underlying72 (by kernel_rfl) hr
    simpa [kfC] using hv
  | 3, _, _ =>
    obtain rfl := Option.some.inj ho
    obtain rfl := func_of_trod (f0 := 127) Tryd.underlying72 (by kernel_rfl) hr
    simpa [kfC] using hv
  | 4, _, _ =>
    obtain rfl := Option.some.inj ho
    obtain rfl := func_of_trod (f0 := 128) Tryd.underlying72 (by kernel_rfl) hr
    simpa [kfC] using hv
  | 5, _, _ =>
    obtain rfl := Option.some.inj ho
    obtain rfl := func_of_trod (f0 := 132) Tryd.underlying72 (by kernel_rfl) hr
    simpa [kfC] using hv
  | 6, _, _ =>
    obtain rfl := Option.some.inj ho
    obtain rfl := func_of_trod (f0 := 134) Tryd.underlying72 (by kernel_rfl) hr
    simpa [kfC] using hv
  | 7, _, _ =>
    obtain rfl := Option.some.inj ho
    obtain rfl := func_of_trod (f0 := 135) Tryd.underlying72 (by kernel_rfl) hr
    simpa [kfC] using hv
  | 8, _, _ =>
    obtain rfl := Option.some.inj ho
    obtain rfl := func_of_trod (f0 := 136) Tryd.underlying72 (by kernel_rfl) hr
    simpa [kfC] using hv
  | 9, _, _ =>
    obtain rfl := Option.some.inj ho
    obtain rfl := func_of_trod (f0 := 138) Tryd.underlying72 (by kernel_rfl) hr
    simpa [kfC] using hv
  | 10, _, _ =>
    obtain rfl := Option.some.inj ho
    obtain rfl := func_of_trod (f0 := 139) Tryd.underlying72 (by kernel_rfl) hr
    simpa [kfC] using hv
theorem tbl_of {l : List (String × DataW Unit)} {W : World} (h : laidMetH Tryd.prog l W) (hf : l.filter (fun x => x.1 == "internal/strconv.uint64pow10") = [("internal/strconv.uint64pow10", Lib.tabData .u64 Lib.pow10Tab)]) : TbL W := by
  have h1 := h.filter (fun x => x.1 == "internal/strconv.uint64pow10")
  rw [hf, MakeChecks.laidMetH_plain _ _ _ (by rfl)] at h1
  exact Lib.tabIs_of_head (g := 3) (t := 148) (e := 142) (n := 20) (by kernel_rfl) (by kernel_rfl) Tryd.underlying148 Tryd.underlying142 (by kernel_rfl) (by kernel_rfl) h1
end Go.Proofs.YthnlnffmmioapaaDoor
namespace Go.Proofs.YthnlnffmmioapaaDoor
theorem changeAndS {H : Type} {enc : TypeId × Value → H} {a : Assume} {C : Checked} {os : Os} {f : FuncId} {fn : Func} {s : ChangeSpec} {conds : List PathCond} {apart fresh handsOn again : Bool} {X : World → Array Value → Prop}
    (hX : ∀ (w w' : World) (args : Array Value), w.heap = w'.heap → X w args → X w' args)
    (own : ownKnob C.prog.godebug = none) (started : os.Started) (noInit : C.prog.inits.idxOf? f = none) (hfn : C.prog.funcs[f]? = some fn)
    (witness : ∃ (w : World) (tape : Tape) (i : Input), w.os = os ∧ (w.forCall tape i).Shaped C.prog ∧ i.vars = [] ∧ Input.okWide C.prog (w.forCall tape i) .any w.heap.size f i ∧
      ((s.pre enc C.prog fn conds apart (w.forCall tape i).memory i.args ∧ X (w.forCall tape i).memory i.args) ∧ sizedMet enc C.prog fn (OpenSpec.ofChange s) apart (w.forCall tape i).memory i.args) ∧ a.holds C.prog (lone (Frame.enter C.prog f i.args .normal) [] (w.forCall tape i)))
    (contract : ∀ (W : World) (base : Nat) (args : Array Value) (ds gs : List (DataW H)) (before : List MemPlace),
      (∀ (j : Nat) t v, fn.params[j]? = some t → args[j]? = some v → Value.okWide C.prog W .any base t v) →
      DataW.Whole enc C.prog fn.params.toList s.vars apart W args.toList ds gs before →
      conds.all (PathCond.test C.prog ⟨fn.params.toList, ds, s.plain.varTypes C.prog, gs⟩) = true →
      (DataW.weightsEach C.prog (fn.params.toList ++ s.plain.varTypes C.prog) (ds ++ gs)).all (· ≤ reachBytes) = true → X W args → W.ShapedOpen C.prog →
      a.holds C.prog (lone (Frame.enter C.prog f args .normal) [] W) →
      Calls C.prog f args W fun e W' => ∃ v, e = .returned v ∧ s.post enc C.prog fn apart fresh handsOn again W args v W') :
    ReturnsInHanded a C os f .any (fun w args => (s.pre enc C.prog fn conds apart w args ∧ X w args) ∧ sizedMet enc C.prog fn (OpenSpec.ofChange s) apart w args) (s.post enc C.prog fn apart fresh handsOn again) := by
  refine returnsInHanded_of_calls own started noInit witness ?_
  intro w tape i _ hsh _ hok hpre hholds
  obtain ⟨_, _, _, fn', hfn', _, _, _, _, hval⟩ := hok
  have e : fn' = fn := Option.some.inj (hfn'.symm.trans hfn)
  subst e
  obtain ⟨⟨⟨ds, gs, before, hw, hc⟩, hx⟩, hz⟩ := hpre
  have hw' := DataW.Whole.of_heap (w' := w.forCall tape i) (by rfl) hw
  refine (contract (w.forCall tape i) w.heap.size i.args ds gs before hval hw' hc (hz.weights hw) (hX _ _ _ (by rfl) hx) hsh hholds).mono fun e W' ⟨v, he, hp⟩ => ?_
  subst he
  exact ChangeSpec.post_blind hp
end Go.Proofs.YthnlnffmmioapaaDoor
