/-
  Part 6 of the proof: Fx, Mx, Rf. No statement of the seat is proved here.
-/
import Derived.Test.YtpknpbeiifjmgaaDoorMHSa385
import Derived.Sort.OwnSortedInts
import Derived.RangeFuncRecord
import Derived.RangeFuncLeaves
import Derived.RangeFuncCalls
import Derived.Sort.LoopGhostIn
namespace Go.Proofs.YtpknpbeiifjmgaaDoor
open Go.RowKit
theorem Ent.perm {w0 : World} {L L' : List Res} (p : L.Perm L') : Ent w0 L L' := Ent.mk fun _ h => h.perm p.symm
section
variable {P : Program} {n : Nat} {w0 : World} {F : Fm} {L : List Res}
def resIs (P : Program) (n : Nat) (F : Fm) (L : List Res) : ResultVar → Value → Prop
  | .tmp t, v => rv n F (.tmp t) = v
  | .cell t tt, v => ∃ (g i e : Nat) (cs : List Value), rv n F (.tmp t) = .pointer (some ⟨g, 0, none⟩) ∧ L[i]? = some (.box e g cs) ∧ ∀ w : World, (∀ j, w.cell? ⟨g, j, none⟩ = cs[j]?) → (loadVar tt ⟨g, 0, none⟩).run P w = .ok v w
theorem resIs_tmp {t : Nat} {v : Value} (h : rv n F (.tmp t) = v) : resIs P n F L (.tmp t) v := h
theorem resIs_cellA {t tt sz g : Nat} {zs : List Value} [T : TAgg P tt sz zs] (i : Nat) {e : TypeId} {cs : List Value} (h1 : rv n F (.tmp t) = .pointer (some ⟨g, 0, none⟩)) (h2 : L[i]? = some (.box e g cs)) (h3 : cs.length = sz) : resIs P n F L (.cell t tt) (.agg cs.toArray) := by
  refine ⟨g, i, e, cs, h1, h2, fun w hc => ?_⟩
  subst h3
  have := run_cells (P := P) (a := ⟨g, 0, none⟩) (w := w) cs 0 #[] (fun j hj => by rw [Nat.zero_add, add_at, Nat.zero_add]; exact hc j)
  simp [loadVar, Sem.run_bind, T.agg, T.size, Result.andThen, loadCells, this]
def allRes (P : Program) (n : Nat) (F : Fm) (L : List Res) : List ResultVar → List Value → Prop
  | [], [] => True
  | r :: rs, v :: vs => resIs P n F L r v ∧ allRes P n F L rs vs
  | _, _ => False
def packV : List Value → Value
  | [v] => v
  | vs => .tuple vs.toArray
def bodyR (P : Program) (n : Nat) (w0 : World) (rs : List ResultVar) (R : Value → List Res → Prop) : Exit → Fm → List Res → Prop
  | .normal, F, L => marksV (F none) = [] ∧ ∃ vs L', allRes P n F L rs vs ∧ Ent w0 L L' ∧ R (packV vs) L'
  | .ret, F, L => marksV (F none) = [] ∧ ∃ vs L', allRes P n F L rs vs ∧ Ent w0 L L' ∧ R (packV vs) L'
  | _, _, _ => False
theorem mapM_run {w : World} {f : ResultVar → Sem Value} (hf : ∀ r v, resIs P n F L r v → (f r).run P w = .ok v w) : ∀ (rs : List ResultVar) (vs : List Value), allRes P n F L rs vs → (rs.mapM f).run P w = .ok vs w
  | [], [], _ => by simp
  | r :: rs, v :: vs, h => by
    have ih := mapM_run hf rs vs h.2
    rw [List.mapM_cons]
    simp only [Sem.run_bind, Sem.run_pure, Result.andThen, hf r v h.1, ih]
  | [], _ :: _, h => h.elim
  | _ :: _, [], h => h.elim
theorem SatL.ofR {f : FuncId} {fn : Func} {c : Code} {args : List Value} {R : Value → List Res → Prop} (N : Nat) (rs : List ResultVar) (hf : P.funcs[f]? = some fn) (hN : fn.ntmps = N) (hnm : (fn.name == "runtime.NumGoroutine") = false) (hb : fn.body = some c)
    (hres : fn.results = rs.toArray) (hlen : Nat.ble args.length N = true) (h : OK P N w0 (bodyR P N w0 rs R) c (argF args) L) : SatL P f args w0 L R := by
  refine ⟨⟨fn, c, hf, hnm, hb⟩, fun w hp => ?_⟩
  refine calls_of_wp hf hb ?_
  subst hN
  have hlen' : args.length ≤ fn.ntmps := by rwa [Nat.ble_eq] at hlen
  have hfr : Fr fn.ntmps { tmps := args.toArray ++ Array.replicate (fn.ntmps - args.toArray.size) undef, defers := [] } (argF args) := by
    refine ⟨rfl, by simp;omega, fun t ht => ?_⟩
    simp only [Array.getD_eq_getD_getElem?, argF, List.getD_eq_getElem?_getD]
    by_cases h : t < args.length
    · rw [Array.getElem?_append_left (by simpa using h)]
      simp
    · rw [Array.getElem?_append_right (by simpa using Nat.le_of_not_lt h), List.getElem?_eq_none (by omega)]
      simp only [List.size_toArray, Array.getElem?_replicate]
      split <;> rfl
  have key : ∀ (a' : Act) (w' : World) (F' : Fm) (L' : List Res) (vs : List Value), Fr fn.ntmps a' F' → Hp w0.heap.size w0 w' L' → allRes P fn.ntmps F' L' rs vs → (results fn a'.tmps).run P w' = .ok (packV vs) w' := by
    intro a' w' F' L' vs h1 h2 h3
    unfold results
    rw [hres, List.mapM_toArray]
    simp only [Sem.run_bind, Sem.run_map]
    rw [mapM_run (n := fn.ntmps) (F := F') (L := L') ?_ rs vs h3]
    · rcases vs with _ | ⟨v, _ | ⟨v2, vs⟩⟩ <;> simp [packV, Result.andThen]
    · intro r v h
      cases r with
      | tmp t =>
        have he : a'.tmps.getD t undef = v := (congrFun h1.eval (.tmp t)).trans h
        simp only [Sem.run_pure, he]
      | cell t tt =>
        obtain ⟨g, i, e, cs, h2', h3', h4⟩ := h
        have he : a'.tmps.getD t undef = .pointer (some ⟨g, 0, none⟩) := (congrFun h1.eval (.tmp t)).trans h2'
        have h5 := h4 w' (h2.boxAt i h3').1
        simp only [Sem.run_bind, Sem.run_pure, Result.andThen, he, asAddr, h5]
  refine wp_mono (h.use w _ hfr hp) ?_
  rintro e a' w' ⟨F', L', h1, h2, h3⟩
  cases e with
  | normal =>
    obtain ⟨hm, vs, L'', hr, hent, hR⟩ := h3
    exact ⟨h1.defers.trans hm, _, key _ _ _ _ _ h1 h2 hr, _, L'', rfl, hent.use _ h2, hR⟩
  | ret =>
    obtain ⟨hm, vs, L'', hr, hent, hR⟩ := h3
    exact ⟨h1.defers.trans hm, _, key _ _ _ _ _ h1 h2 hr, _, L'', rfl, hent.use _ h2, hR⟩
  | _ => exact h3.elim
theorem bodyR_r1 {r1 : ResultVar} {v1 : Value} {R : Value → List Res → Prop} (h1 : resIs P n F L r1 v1) (h : ∃ L', Ent w0 L L' ∧ R v1 L') (hm : marksV (F none) = [] := by exact rfl) : bodyR P n w0 [r1] R .ret F L :=
  let ⟨L', a, b⟩ := h
  ⟨hm, [v1], L', ⟨h1, trivial⟩, a, b⟩
theorem bodyR_r2 {r1 r2 : ResultVar} {v1 v2 : Value} {R : Value → List Res → Prop} (h1 : resIs P n F L r1 v1) (h2 : resIs P n F L r2 v2) (h : ∃ L', Ent w0 L L' ∧ R (.tuple #[v1, v2]) L') (hm : marksV (F none) = [] := by exact rfl) : bodyR P n w0 [r1, r2] R .ret F L :=
  let ⟨L', a, b⟩ := h
  ⟨hm, [v1, v2], L', ⟨h1, h2, trivial⟩, a, b⟩
theorem bodyR_r3 {r1 r2 r3 : ResultVar} {v1 v2 v3 : Value} {R : Value → List Res → Prop} (h1 : resIs P n F L r1 v1) (h2 : resIs P n F L r2 v2) (h3 : resIs P n F L r3 v3) (h : ∃ L', Ent w0 L L' ∧ R (.tuple #[v1, v2, v3]) L') (hm : marksV (F none) = [] := by exact rfl) : bodyR P n w0 [r1, r2, r3] R .ret F L :=
  let ⟨L', a, b⟩ := h
  ⟨hm, [v1, v2, v3], L', ⟨h1, h2, h3, trivial⟩, a, b⟩
theorem bodyR_r4 {r1 r2 r3 r4 : ResultVar} {v1 v2 v3 v4 : Value} {R : Value → List Res → Prop} (h1 : resIs P n F L r1 v1) (h2 : resIs P n F L r2 v2) (h3 : resIs P n F L r3 v3) (h4 : resIs P n F L r4 v4) (h : ∃ L', Ent w0 L L' ∧ R (.tuple #[v1, v2, v3, v4]) L') (hm : marksV (F none) = [] := by exact rfl) : bodyR P n w0 [r1, r2, r3, r4] R .ret F L :=
  let ⟨L', a, b⟩ := h
  ⟨hm, [v1, v2, v3, v4], L', ⟨h1, h2, h3, h4, trivial⟩, a, b⟩
end
attribute [irreducible] bodyR
section
variable {P : Program} {n : Nat} {w0 : World} {K : Fm → List Res → Prop} {F : Fm} {L : List Res} {Lw : List Res} {ops : Array Oper} {rest : List Oper}
  {d : Option Nat} {ty : TypeId} {pos : String} {aft : Array Edge}
theorem run_buildG {t sz : Nat} {zs : List Value} (T : TAgg P t sz zs) {offs : List (Nat × Nat)} (S : TStruct P t offs) {parts : Array (Nat × Operand)} {ps : List (Nat × Value)} {cs : Array Value} {ρ : Operand → Value}
    (hv : parts.toList.map (fun x => (x.1, ρ x.2)) = ps) (hf : Instr.fill (offs.toArray[·]?) zs.toArray ps = some cs) (w : World) (dd : Option Nat) (p : String) (af : Array Edge) (g : Option (Nat × Bool)) :
    (execOp ρ ⟨dd, .build t parts, ty, p, af, g⟩).run P w = .ok (.value (.agg cs)) w := by
  have h0 := S.at'
  unfold structOffs at h0
  split at h0
  · rename_i fields hu
    have hund : (underlying t).run P w = .ok (.struct fields) w := by simp [underlying, program, Sem.run_bind, Sem.run, hu, Result.andThen]
    have hpl := run_places w fields.toList offs h0
    have hpl2 : (fields.mapM fun (f : Field) => (do pure (f.offset, ← sizeOf f.type) : Sem (Nat × Nat))).run P w = .ok offs.toArray w := by
      rw [Array.mapM_eq_mapM_toList]
      simp only [Sem.run_map, hpl, Result.andThen]
    have hmap : Array.map (fun x => match x with | (i, x) => (i, ρ x)) parts = parts.map fun x => (x.1, ρ x.2) := rfl
    have hfill : Instr.fill (offs.toArray[·]?) zs.toArray (parts.map fun x => (x.1, ρ x.2)).toList = some cs := by
      rw [Array.toList_map, hv]; exact hf
    simp only [execOp, hmap, Instr.build, Sem.run_bind, T.zero, Result.andThen, Value.cells, hund, hpl2, hfill, Sem.run_pure]
  · cases h0
theorem OKx_buildG {m : Md} {t sz : Nat} {zs : List Value} [T : TAgg P t sz zs] {offs : List (Nat × Nat)} [S : TStruct P t offs] {parts : Array (Nat × Operand)} (ps : List (Nat × Value)) (cs : Array Value)
    (hv : parts.toList.map (fun x => (x.1, rv n F x.2)) = ps) (hf : Instr.fill (offs.toArray[·]?) zs.toArray ps = some cs) (k : OKx P n w0 m ops K rest (updo F d (.agg cs)) L) : OKx P n w0 m ops K (⟨d, .build t parts, ty, pos, aft, none⟩ :: rest) F L :=
  OKx_still (fun w _ _ _ _ _ => run_buildG T S hv hf w _ _ _ _) k
theorem OKx_build0 {m : Md} {t sz : Nat} {zs : List Value} [T : TAgg P t sz zs] {offs : List (Nat × Nat)} [S : TStruct P t offs] (k : OKx P n w0 m ops K rest (updo F d (.agg zs.toArray)) L) : OKx P n w0 m ops K (⟨d, .build t #[], ty, pos, aft, none⟩ :: rest) F L :=
  OKx_buildG [] zs.toArray rfl rfl k
end
def srtL (xs : List Int) : List Int := xs.mergeSort fun x y => decide (x ≤ y)
set_option maxRecDepth 100000 in
set_option maxHeartbeats 4000000 in
theorem sort_int_sat (g cap n : Nat) (xs : List Int) (w0 : World) (L : List Res) (i : Nat) (hxn : xs.length = n) (hi : L[i]? = some (.row 3 1 (.slice (some ⟨g, 0, none⟩) n cap) n (ints xs))) (hx : n ≤ 1000000) :
    SatL Tryd.prog 18 [.slice (some ⟨g, 0, none⟩) n cap] w0 L (fun u L' => u = .tuple #[] ∧ L' = L.set i (.row 3 1 (.slice (some ⟨g, 0, none⟩) n cap) n (ints (srtL xs)))) := by
  subst hxn
  refine ⟨⟨_, _, Tryd.func18, by kernel_rfl, rfl⟩, fun w hp => ?_⟩
  have ho : w.ownsRow w0.heap.size 3 1 (.slice (some ⟨g, 0, none⟩) xs.length cap) xs.length (ints xs) := hp.ok _ (List.mem_of_getElem? hi)
  have hlt := (ho.lt g rfl).2
  rcases ho.2 with ⟨h0, _⟩ | ⟨g', cap', cur, hv, hg, hb, hn, hcap, hsz, htake⟩
  · cases h0
  cases hv
  rw [Nat.mul_one] at htake
  have hsl : (srtL xs).length = xs.length := List.length_mergeSort _
  refine (Tryd.slices_Sort_int g 0 cap xs w (Go.holds_of_blockI hb htake) hlt (by omega)).mono ?_
  rintro e w' ⟨rfl, n, os, rfl⟩
  refine ⟨_, _, rfl, hp.turn hi (r' := .row 3 1 (.slice (some ⟨g, 0, none⟩) xs.length cap) xs.length (ints (srtL xs))) (Go.grownBy_sortedI _) ?_ (fun k hk => .inl hk), rfl, rfl⟩
  exact Go.ownsRow_sortedI (w := w) (n := n) (os := os) (ts := srtL xs) hsl hg hb hn hcap hsz
theorem srtL_mem (xs : List Int) (x : Int) : x ∈ srtL xs ↔ x ∈ xs := (List.mergeSort_perm xs _).mem_iff
theorem srtL_perm (xs : List Int) : (srtL xs).Perm xs := List.mergeSort_perm xs _
theorem srtL_le (xs : List Int) : (srtL xs).Pairwise (· ≤ ·) := by
  have := List.pairwise_mergeSort (le := fun x y : Int => decide (x ≤ y)) (by simp;omega) (by simp;omega) xs
  simpa [srtL] using this
end Go.Proofs.YtpknpbeiifjmgaaDoor
namespace Go.Proofs.YtpknpbeiifjmgaaDoor
open Go.RowKit
section
variable {P : Program} {ops : Array Oper} {Q : Exit → Act → World → Prop}
def cls2 (T0 T2 : List Nat) (wf : World) (Cw : World → Prop) (listed : Array Bool) (w : World) : Prop := (started T0 listed = false → w = wf) ∧ (started T2 listed = false → Cw w)
theorem started_hit {T : List Nat} {i : Nat} {listed : Array Bool} (hi : i ∈ T) (hr : i ∈ Region.ready .any ops listed) : started T (listed.setIfInBounds i true) = true := by
  unfold started
  rw [List.any_eq_true]
  refine ⟨i, hi, ?_⟩
  have hlt : i < listed.size := by
    have h0 := (mem_ready.1 hr).1
    rcases Nat.lt_or_ge i listed.size with h' | h'
    · exact h'
    · simp [Array.getElem?_eq_none h'] at h0
  simp [hlt]
theorem anyC_seqB {wf : World} {Cw : World → Prop} (T0 T2 : List Nat) : ∀ (T : List Nat) (lo : List Oper) (listed : Array Bool) (a : Act) (w : World), T.map (fun t => ops[t]?) = lo.map some → (∀ t ∈ T, t ∈ T0 ∧ t ∈ T2) → seqLB ops T listed = true → (started T0 listed = false → w = wf) → (started T2 listed = false → Cw w) → wpListC P ops (fun _ => True) Q lo a w →
    anyC P ops (cls2 T0 T2 wf Cw) Q T.length listed a w
  | [], lo, listed, a, w, hm, _, hB, hs, hs2, h => by
    obtain rfl : lo = [] := by simpa using hm.symm
    exact ⟨⟨hs, hs2⟩, by simpa [seqLB] using hB, h.2⟩
  | t :: T, lo, listed, a, w, hm, hT, hB, hs, hs2, h => by
    cases lo with
    | nil => simp at hm
    | cons o lo =>
      simp only [List.map_cons, List.cons.injEq] at hm
      obtain ⟨h0, hm⟩ := hm
      simp only [seqLB, Bool.and_eq_true, decide_eq_true_eq] at hB
      obtain ⟨_, h⟩ := h
      refine ⟨⟨hs, hs2⟩, fun h1 => (by rw [hB.1] at h1; cases h1), fun i hi => ?_⟩
      have hir := hi
      rw [hB.1] at hi
      have hit : i = t := by simpa using hi
      subst hit
      have hstart : started T0 (listed.setIfInBounds i true) = true := started_hit (hT i (by simp)).1 hir
      have hstart2 : started T2 (listed.setIfInBounds i true) = true := started_hit (hT i (by simp)).2 hir
      unfold wpOp
      simp only [h0]
      have next : ∀ a w, wpListC P ops (fun _ => True) Q lo a w → anyC P ops (cls2 T0 T2 wf Cw) Q T.length (listed.setIfInBounds i true) a w := fun a w h =>
        anyC_seqB T0 T2 T lo _ a w hm (fun t ht => hT t (by simp [ht])) hB.2 (fun h1 => by rw [hstart] at h1; cases h1) (fun h1 => by rw [hstart2] at h1; cases h1) h
      split
      · rename_i hw
        rw [if_pos hw] at h
        exact .inl (Oper.wp_mono next h)
      · rename_i hw
        rw [if_neg hw] at h
        exact next _ _ h
theorem anyC_seqA {wf : World} {Cw : World → Prop} {Qm : Exit → Act → World → Prop} (hQm : ∀ c a w, ¬ Qm (.panic c) a w) (hQo : ¬ LetsOut Qm) (anyQ : ∀ {o : Oper} {a : Act} {w : World} {K : Act → World → Prop}, o.wp P a w K Qm → o.wp P a w K Q) (T0 T2 : List Nat) (l2 : List Oper) (hm2 : T2.map (fun t => ops[t]?) = l2.map some) (hq : ∀ a w, Qm .normal a w → wpListC P ops (fun _ => True) Q l2 a w) (h20 : ∀ t ∈ T2, t ∈ T0) :
    ∀ (T : List Nat) (lo : List Oper) (listed : Array Bool) (a : Act) (w : World), T.map (fun t => ops[t]?) = lo.map some → (∀ t ∈ T, t ∈ T0) → seqLB ops (T ++ T2) listed = true → (started T0 listed = false → w = wf) → wpListC P ops Cw Qm lo a w →
    anyC P ops (cls2 T0 T2 wf Cw) Q (T ++ T2).length listed a w
  | [], lo, listed, a, w, hm, _, hB, hs, h => by
    obtain rfl : lo = [] := by simpa using hm.symm
    exact anyC_seqB T0 T2 T2 l2 listed a w hm2 (fun t ht => ⟨h20 t ht, ht⟩) hB hs (fun _ => h.1) (hq _ _ h.2)
  | t :: T, lo, listed, a, w, hm, hT, hB, hs, h => by
    cases lo with
    | nil => simp at hm
    | cons o lo =>
      simp only [List.map_cons, List.cons.injEq] at hm
      obtain ⟨h0, hm⟩ := hm
      simp only [List.cons_append, seqLB, Bool.and_eq_true, decide_eq_true_eq] at hB
      obtain ⟨hcw, h⟩ := h
      refine ⟨⟨hs, fun _ => hcw⟩, fun h1 => (by rw [hB.1] at h1; cases h1), fun i hi => ?_⟩
      have hir := hi
      rw [hB.1] at hi
      have hit : i = t := by simpa using hi
      subst hit
      have hstart : started T0 (listed.setIfInBounds i true) = true := started_hit (hT i (by simp)) hir
      unfold wpOp
      simp only [h0]
      have next : ∀ a w, wpListC P ops Cw Qm lo a w → anyC P ops (cls2 T0 T2 wf Cw) Q (T ++ T2).length (listed.setIfInBounds i true) a w := fun a w h =>
        anyC_seqA hQm hQo anyQ T0 T2 l2 hm2 hq h20 T lo _ a w hm (fun t ht => hT t (by simp [ht])) hB.2 (fun h1 => by rw [hstart] at h1; cases h1) h
      split
      · rename_i hw
        rw [if_pos hw] at h
        exact .inl (Oper.wp_mono next (anyQ h))
      · rename_i hw
        rw [if_neg hw] at h
        exact next _ _ h
def chainLB2 (T T2 : List Nat) : List (Nat × Bool) → Array Bool → Bool
  | [], listed => seqLB ops T listed
  | (i, t1) :: E, listed => stepB ops T listed i && (cond t1 (T.all fun t => memN t (waiters ops i)) (T2.all fun t => memN t (waiters ops i))) && chainLB2 T T2 E (listed.setIfInBounds i true)
theorem started_none {T : List Nat} {i : Nat} {listed : Array Bool} (hall : T.all (fun t => memN t (waiters ops i)) = true) (hW : ∀ j ∈ waiters ops i, listed.getD j true = false) : started T listed = false := by
  unfold started
  rw [List.any_eq_false]
  intro t ht hb
  have h1 := hW t ((memN_iff _ _).1 (List.all_eq_true.1 hall t ht))
  rcases Nat.lt_or_ge t listed.size with h' | h'
  · simp [h'] at h1 hb; rw [h1] at hb; cases hb
  · simp [Array.getElem?_eq_none h'] at hb
theorem anyC_early2 {wf : World} {Cw : World → Prop} {Kf : Act → Prop} (T T2 : List Nat) (h20 : ∀ t ∈ T2, t ∈ T) (fin : ∀ listed a, seqLB ops T listed = true → Kf a → anyC P ops (cls2 T T2 wf Cw) Q T.length listed a wf) (hsel : Region.noSelect ops = true) (hQ : ∀ c a w, ¬ Q (.panic c) a w) :
    ∀ (E : List (Nat × Bool)) (listed : Array Bool) (a : Act), chainLB2 (ops := ops) T T2 E listed = true → started T listed = false → wpEarly P ops wf Cw Kf E a →
    anyC P ops (cls2 T T2 wf Cw) Q (E.length + T.length) listed a wf
  | [], listed, a, hB, hs, h => by
    rw [List.length_nil, Nat.zero_add]
    exact fin listed a hB h
  | (i, t1) :: E, listed, a, hB, hs, h => by
    simp only [chainLB2, stepB, Bool.and_eq_true, Bool.not_eq_true'] at hB
    obtain ⟨⟨⟨⟨⟨hr, hf⟩, hiT⟩, hW⟩, ht1⟩, hB'⟩ := hB
    obtain ⟨oi, hi, h⟩ := h
    have hr' : i ∈ Region.ready .any ops listed := by simpa using hr
    have hW' : ∀ j ∈ waiters ops i, listed.getD j true = false := fun j hj => by
      have := List.all_eq_true.1 hW j hj
      simpa using this
    have hiT2 : memN i T2 = false := by
      cases hm : memN i T2 with
      | false => rfl
      | true =>
        have := (memN_iff i T).2 (h20 i ((memN_iff i T2).1 hm))
        rw [this] at hiT; cases hiT
    have hs' : started T (listed.setIfInBounds i true) = false := by rw [started_set hiT]; exact hs
    have hC : ∀ listed w, listed.getD i true = false → cls2 T T2 wf Cw (listed.setIfInBounds i true) w → cls2 T T2 wf Cw listed w := fun listed w _ h =>
      ⟨fun h1 => h.1 (by rw [started_set hiT]; exact h1), fun h1 => h.2 (by rw [started_set hiT2]; exact h1)⟩
    rw [show (List.length ((i, t1) :: E)) + T.length = (E.length + T.length) + 1 by simp;omega]
    by_cases hw : Region.wanted oi (yielded ops a.tmps) = true
    · rw [if_pos hw] at h
      obtain ⟨v, hv, hk⟩ := h
      refine anyC_first hi (Region.noSelect_spec hsel) hQ hC _ listed a wf (Region.free_spec hi hf) hr' hW' (.inl ⟨hw, fun listed' w' hiu hWu hc => ?_⟩) (anyC_early2 T T2 h20 fin hsel hQ E _ _ hB' hs' hk)
      refine hv w' ?_
      cases t1 with
      | false => simpa using hc.2 (started_none ht1 hWu)
      | true => simpa using hc.1 (started_none ht1 hWu)
    · rw [if_neg hw] at h
      exact anyC_first hi (Region.noSelect_spec hsel) hQ hC _ listed a wf (Region.free_spec hi hf) hr' hW' (.inr ⟨by simpa using hw, rfl⟩) (anyC_early2 T T2 h20 fin hsel hQ E _ _ hB' hs' h)
def mixB2 (ops : Array Oper) (A B A' T1 T2 : List Nat) : Bool :=
  Region.noSelect ops && Nat.beq (A.length + B.length + A'.length + (T1 ++ T2).length) ops.size && chainLB2 (ops := ops) (T1 ++ T2) T2 ((A.map fun i => (i, false)) ++ ((B.map fun i => (i, true)) ++ (A'.map fun i => (i, false)))) (Array.replicate ops.size false)
theorem wp_region_mix2 {id : Nat} {a : Act} {w : World} {C Cw : World → Prop} {Qm : Exit → Act → World → Prop} (A B A' T1 T2 : List Nat) (la lb la' l1 l2 : List Oper) (hm : P.follows .mixedOrders = true) (hB : mixB2 ops A B A' T1 T2 = true)
    (h1 : A.map (fun t => ops[t]?) = la.map some) (h2 : B.map (fun t => ops[t]?) = lb.map some) (h3 : A'.map (fun t => ops[t]?) = la'.map some) (h4 : T1.map (fun t => ops[t]?) = l1.map some) (h5 : T2.map (fun t => ops[t]?) = l2.map some)
    (hQ : ∀ c a w, ¬ Q (.panic c) a w) (hQm : ∀ c a w, ¬ Qm (.panic c) a w) (hQo : ¬ LetsOut Qm) (anyQ : ∀ {o : Oper} {a : Act} {w : World} {K : Act → World → Prop}, o.wp P a w K Qm → o.wp P a w K Q) (hq : ∀ a w, Qm .normal a w → wpListC P ops (fun _ => True) Q l2 a w) (hc : C w.drew) (hcw : Cw w.drew)
    (h : wpPure P ops Cw (fun a1 => wpPure P ops C (fun a2 => wpPure P ops Cw (fun a3 => wpListC P ops Cw Qm l1 a3 w.drew) la' a2) lb a1) la a) : (Code.region id ops true).wp P Q a w := by
  simp only [mixB2, Bool.and_eq_true] at hB
  obtain ⟨⟨hsel, hsz⟩, hch⟩ := hB
  have hsz' := Nat.eq_of_beq_eq_true hsz
  refine wp_region_any hm ?_
  have e := anyC_early2 (P := P) (ops := ops) (Q := Q) (wf := w.drew) (Cw := Cw) (Kf := fun a3 => wpListC P ops Cw Qm l1 a3 w.drew) (T1 ++ T2) T2 (fun t ht => List.mem_append_right _ ht)
    (fun listed a hB h => anyC_seqA hQm hQo anyQ (T1 ++ T2) T2 l2 h5 hq (fun t ht => List.mem_append_right _ ht) T1 l1 listed a _ h4 (fun t ht => List.mem_append_left _ ht) hB (fun _ => rfl) h) hsel hQ _ (Array.replicate ops.size false) a hch (by
    unfold started
    rw [List.any_eq_false]
    intro t _
    simp only [Array.getD_eq_getD_getElem?, Array.getElem?_replicate]
    split <;> simp) (by
    refine wpEarly_append _ _ a (wpEarly_of_pure false (fun w hw => by simpa using hw) A la a h1 ?_)
    have mono : ∀ {C : World → Prop} {Q1 Q2 : Act → Prop} (hq : ∀ a, Q1 a → Q2 a) (l : List Oper) (a : Act), wpPure P ops C Q1 l a → wpPure P ops C Q2 l a := by
      intro C Q1 Q2 hq l
      induction l with
      | nil => intro a h; exact hq _ h
      | cons o l ih =>
        intro a h
        unfold wpPure at h ⊢
        split
        · rename_i hw
          rw [if_pos hw] at h
          obtain ⟨v, h1, h2⟩ := h
          exact ⟨v, h1, ih _ h2⟩
        · rename_i hw
          rw [if_neg hw] at h
          exact ih _ h
    refine mono (fun a1 h => wpEarly_append _ _ a1 (wpEarly_of_pure true (fun w' hw => by simp only [if_true] at hw; subst hw; exact hc) B lb a1 h2 (mono (fun a2 h => wpEarly_of_pure false (fun w hw => by simpa using hw) A' la' a2 h3 h) lb a1 h))) la a h)
  have hlen : (List.map (fun i => (i, false)) A ++ (List.map (fun i => (i, true)) B ++ List.map (fun i => (i, false)) A')).length + (T1 ++ T2).length = ops.size := by
    simp only [List.length_append, List.length_map] at hsz' ⊢;omega
  rw [hlen] at e
  exact anyC_any _ _ _ _ e
end
theorem OK.mk' {P : Program} {n : Nat} {w0 : World} {Q : Exit → Fm → List Res → Prop} {F : Fm} {L : List Res} {c : Code} (h : ∀ w a, Fr n a F → Hp w0.heap.size w0 w L → c.wp P (lift n w0 Q) a w) : OK P n w0 Q c F L := by unfold OK; exact h
theorem OKx.useP {P : Program} {n : Nat} {w0 : World} {K : Fm → List Res → Prop} {F : Fm} {L : List Res} {ops : Array Oper} {rest : List Oper} (h : OKx P n w0 .pure ops K rest F L) : ∀ a, Fr n a F → wpPure P ops (fun w => Hp w0.heap.size w0 w L) (fun a' => ∃ F', Fr n a' F' ∧ K F' L) rest a := by unfold OKx at h; exact h
section
variable {P : Program} {n : Nat} {w0 : World} {Q : Exit → Fm → List Res → Prop} {F : Fm} {L : List Res}
theorem OK_mix2 (A B A' T1 T2 : List Nat) (Lw : List Res) {id : Nat} {l la lb la' l1 l2 : List Oper} (hm : P.follows .mixedOrders = true) (hB : mixB2 l.toArray A B A' T1 T2 = true) (hI : ((A ++ (B ++ (A' ++ (T1 ++ T2)))).all fun i => Nat.ble (i + 1) l.length) = true) (e : Ent w0 L Lw) (hA : pickO l A = la) (hB' : pickO l B = lb) (hA' : pickO l A' = la') (hT1 : pickO l T1 = l1) (hT2 : pickO l T2 = l2)
    (h : OKx P n w0 .pure l.toArray (fun F1 _ => OKx P n w0 .pure l.toArray (fun F2 _ => OKx P n w0 .pure l.toArray (fun F3 _ => OKx P n w0 (.seq Lw) l.toArray (fun F4 L4 => OKx P n w0 (.seq []) l.toArray (Q .normal) l2 F4 L4) l1 F3 L) la' F2 Lw) lb F1 L) la F Lw) : OK P n w0 Q (.region id l.toArray true) F L := by
  subst hA hB' hA' hT1 hT2
  refine OK.mk' fun w a hf hp => ?_
  simp only [List.all_append, Bool.and_eq_true] at hI
  have key := wp_region_mix2 (id := id) (P := P) (ops := l.toArray) (a := a) (w := w) (Q := liftN n w0 (Q .normal)) (Qm := liftN n w0 (fun F4 L4 => OKx P n w0 (.seq []) l.toArray (Q .normal) (pickO l T2) F4 L4)) (C := fun w => Hp w0.heap.size w0 w L) (Cw := fun w => Hp w0.heap.size w0 w Lw) A B A' T1 T2 _ _ _ _ _ hm hB (pickO_at l A hI.1) (pickO_at l B hI.2.1) (pickO_at l A' hI.2.2.1) (pickO_at l T1 hI.2.2.2.1) (pickO_at l T2 hI.2.2.2.2)
    (fun c a w h => by cases h.1) (fun c a w h => by cases h.1) (by rintro ⟨a, w, h, _⟩; cases h) (fun h => wp_anyQ (fun c a w h => by cases h.1) (by rintro ⟨a, w, h, _⟩; cases h) h) ?_ hp.drew (e.use _ hp.drew) ?_
  · refine wp_mono key ?_
    rintro e a' w' ⟨rfl, F', L', h1, h2, h3⟩
    exact ⟨F', L', h1, h2, h3⟩
  · rintro a' w' ⟨_, F', L', h1, h2, h3⟩
    have h4 := h3.use w' a' h1 h2
    have weak : ∀ (l' : List Oper) (a : Act) (w : World), wpListC P l.toArray (fun w => Hp w0.heap.size w0 w []) (liftN n w0 (Q .normal)) l' a w → wpListC P l.toArray (fun _ => True) (liftN n w0 (Q .normal)) l' a w := by
      intro l'
      induction l' with
      | nil => intro a w h; exact ⟨trivial, h.2⟩
      | cons o l' ih =>
        intro a w h
        obtain ⟨_, h⟩ := h
        refine ⟨trivial, ?_⟩
        split
        · rename_i hw
          rw [if_pos hw] at h
          exact Oper.wp_mono (fun a w h => ih a w h) h
        · rename_i hw
          rw [if_neg hw] at h
          exact ih _ _ h
    exact weak _ _ _ h4
  · have mono : ∀ {C : World → Prop} {Q1 Q2 : Act → Prop} (hq : ∀ a, Q1 a → Q2 a) (l' : List Oper) (a : Act), wpPure P l.toArray C Q1 l' a → wpPure P l.toArray C Q2 l' a := by
      intro C Q1 Q2 hq l'
      induction l' with
      | nil => intro a h; exact hq _ h
      | cons o l' ih =>
        intro a h
        unfold wpPure at h ⊢
        split
        · rename_i hw
          rw [if_pos hw] at h
          obtain ⟨v, h1, h2⟩ := h
          exact ⟨v, h1, ih _ h2⟩
        · rename_i hw
          rw [if_neg hw] at h
          exact ih _ h
    refine mono ?_ _ a (h.useP a hf)
    rintro a1 ⟨F1, hf1, h⟩
    refine mono ?_ _ a1 (h.useP a1 hf1)
    rintro a2 ⟨F2, hf2, h⟩
    refine mono ?_ _ a2 (h.useP a2 hf2)
    rintro a3 ⟨F3, hf3, h⟩
    exact h.use _ a3 hf3 hp.drew
end
end Go.Proofs.YtpknpbeiifjmgaaDoor
namespace Go.Proofs.YtpknpbeiifjmgaaDoor
open Go.RowKit
def fen : Option Nat → Fence
  | none => Fence.wide
  | some l => Fence.wide.inRound l
section
variable {P : Program} {ops : Array Oper}
theorem fen_fn (ro : Option Nat) (f : FuncId) : (fen ro).fn f := by cases ro <;> trivial
theorem fen_depth (ro : Option Nat) : (fen ro).depth = none := by cases ro <;> rfl
theorem fen_calls {ro : Option Nat} {f : FuncId} {args : Array Value} {w : World} {R : Ending → World → Prop} (h : Calls P f args w R) : CallsIn (fen ro) 0 P f args w R := by
  cases ro with
  | none => exact callsIn_wide.2 h
  | some l => exact CallsIn.inRound l (callsIn_wide.2 h)
theorem fen_rows {ro : Option Nat} {row : String} {args : Array Value} {w : World} {R : Value → World → Prop} (h : Rows P row args w R) : RowsIn (fen ro) 0 P row args w R := by
  have h1 : RowsIn Fence.wide 0 P row args w R := fun c cs _ => let ⟨v, w', r, s⟩ := h c cs; ⟨v, w', r, stepsIn_wide.2 s⟩
  cases ro with
  | none => exact h1
  | some l => exact fun c cs hr => h1 c cs (room_wide _)
def noDef (o : Oper) : Bool := match o.op with
  | .defer _ => false
  | _ => true
theorem noDef_ne {o : Oper} (h : noDef o = true) : ∀ c, o.op ≠ .defer c := by
  intro c e
  unfold noDef at h
  rw [e] at h
  cases h
theorem oper_in {ro : Option Nat} {o : Oper} {a : Act} {w : World} {K : Act → World → Prop} {Q Q' : Exit → Act → World → Prop} (hn : noDef o = true) (hp : ∀ c a w, ¬ Q (.panic c) a w) (ho : ¬ LetsOut Q) (h : o.wp P a w K Q) : o.wpIn (fen ro) 0 P a w K Q' := by
  refine ⟨fun f _ => fen_fn ro f, ?_⟩
  rw [Oper.semAt_eq _ _ _ (noDef_ne hn)]
  unfold Oper.wp at h
  have hd : (fen ro).depth.isSome = true → 1 ≤ 0 := by rw [fen_depth]; intro h; cases h
  generalize (execOp a.eval o).run P w = r at *
  cases r with
  | ok nx w' =>
    cases nx with
    | value v => exact h
    | skip => exact h
    | defer d => exact h
    | enter f args =>
      refine ⟨hd, fen_calls (Calls.mono h fun e w'' h => ?_)⟩
      cases e with
      | returned v => exact h
      | panicked c => exact absurd h (hp _ _ _)
      | outgrown => exact absurd h ho
    | row r args => exact ⟨hd, fen_rows h⟩
    | _ => exact h.elim
  | halt x w' =>
    cases x with
    | panic v => exact absurd h (hp _ _ _)
    | _ => exact h.elim
theorem list_in {ro : Option Nat} {C : World → Prop} {Q Q' : Exit → Act → World → Prop} (hp : ∀ c a w, ¬ Q (.panic c) a w) (ho : ¬ LetsOut Q) (rest : List Oper) (hq : ∀ a w, Q .normal a w → wpListIn (fen ro) 0 P ops Q' rest a w) :
    ∀ (l : List Oper) (a : Act) (w : World), l.all noDef = true → wpListC P ops C Q l a w → wpListIn (fen ro) 0 P ops Q' (l ++ rest) a w
  | [], a, w, _, h => hq a w h.2
  | o :: l, a, w, hn, h => by
    obtain ⟨_, h⟩ := h
    simp only [List.all_cons, Bool.and_eq_true] at hn
    rw [List.cons_append]
    unfold wpListIn
    split
    · rename_i hw
      rw [if_pos hw] at h
      exact oper_in hn.1 hp ho (Oper.wp_mono (fun a w h => list_in hp ho rest hq l a w hn.2 h) h)
    · rename_i hw
      rw [if_neg hw] at h
      exact ⟨fun f _ => fen_fn ro f, list_in hp ho rest hq l _ w hn.2 h⟩
end
section
variable (P : Program) (n : Nat) (w0 : World) (l : Nat)
def OKr (Q : Exit → Fm → List Res → Prop) (c : Code) (F : Fm) (L : List Res) : Prop :=
  ∀ w a, Fr n a F → Hp w0.heap.size w0 w L → c.wpIn (fen (some l)) 0 P (lift n w0 Q) a w
end
section
variable {P : Program} {n : Nat} {w0 : World} {ro : Nat} {Q : Exit → Fm → List Res → Prop} {K : Fm → List Res → Prop} {F : Fm} {L : List Res}
theorem OKr_mono {c : Code} {Q' : Exit → Fm → List Res → Prop} (h : OKr P n w0 ro Q c F L) (hq : ∀ e F L, Q e F L → Q' e F L) : OKr P n w0 ro Q' c F L :=
  fun w a hf hp => wpIn_mono (h w a hf hp) fun e a w ⟨F, L, h1, h2, h3⟩ => ⟨F, L, h1, h2, hq _ _ _ h3⟩
theorem OKr_ent {c : Code} {L' : List Res} (e : Ent w0 L L') (h : OKr P n w0 ro Q c F L') : OKr P n w0 ro Q c F L := fun w a hf hp => h w a hf (e.use w hp)
theorem OKr_seq {a b : Code} (h : OKr P n w0 ro (thenQ (fun F L => OKr P n w0 ro Q b F L) Q) a F L) : OKr P n w0 ro Q (.seq a b) F L := by
  intro w ac hf hp
  refine wpIn_seq (wpIn_mono (h w ac hf hp) ?_)
  rintro e a' w' ⟨F', L', h1, h2, h3⟩
  unfold thenQ at h3
  cases e with
  | normal => exact h3 w' a' h1 h2
  | _ => exact ⟨F', L', h1, h2, h3⟩
theorem OKr_skip (h : Q .normal F L) : OKr P n w0 ro Q .skip F L := fun _ _ hf hp => wpIn_skip ⟨F, L, hf, hp, h⟩
theorem OKr_exit {id : Nat} (h : Q (.exit id) F L) : OKr P n w0 ro Q (.exit id) F L := fun _ _ hf hp => wpIn_exit ⟨F, L, hf, hp, h⟩
theorem OKr_ret (h : Q .ret F L) : OKr P n w0 ro Q .ret F L := fun _ _ hf hp => wpIn_ret ⟨F, L, hf, hp, h⟩
theorem OKr_condT {c : Operand} {x y : Code} (hc : rv n F c = .bool true) (h : OKr P n w0 ro Q x F L) : OKr P n w0 ro Q (.cond c x y) F L :=
  fun w a hf hp => wpIn_cond_true (by rw [hf.eval]; exact hc) (h w a hf hp)
theorem OKr_condF {c : Operand} {x y : Code} (hc : rv n F c = .bool false) (h : OKr P n w0 ro Q y F L) : OKr P n w0 ro Q (.cond c x y) F L :=
  fun w a hf hp => wpIn_cond_false (by rw [hf.eval]; exact hc) (h w a hf hp)
theorem OKr_block {id : Nat} {c : Code} (h : OKr P n w0 ro (blockQ id Q) c F L) : OKr P n w0 ro Q (.block id c) F L := by
  intro w ac hf hp
  refine wpIn_block (wpIn_mono (h w ac hf hp) ?_)
  rintro e a' w' ⟨F', L', h1, h2, h3⟩
  cases e with
  | exit id' =>
    simp only [blockQ] at h3
    simp only [Exit.inBlock]
    by_cases he : id' = id
    · subst he
      rw [if_pos rfl]
      simp only [Nat.beq_refl, cond_true] at h3
      exact ⟨F', L', h1, h2, h3⟩
    · rw [if_neg he]
      have : Nat.beq id' id = false := beq_ne he
      rw [this] at h3
      exact ⟨F', L', h1, h2, h3⟩
  | _ =>
    unfold blockQ at h3
    exact ⟨F', L', h1, h2, h3⟩
theorem liftN_noPanic : ∀ c a w, ¬ liftN n w0 K (.panic c) a w := fun c a w h => by cases h.1
theorem liftN_noOut : ¬ LetsOut (liftN n w0 K) := by rintro ⟨a, w, h, _⟩; cases h
theorem OKr_region {id : Nat} {l : List Oper} (hn : l.all noDef = true) (h : OKx P n w0 (.seq []) l.toArray (Q .normal) l F L) : OKr P n w0 ro Q (.region id l.toArray false) F L := by
  intro w a hf hp
  have h1 := list_in (P := P) (ops := l.toArray) (ro := some ro) (Q := liftN n w0 (Q .normal)) (Q' := lift n w0 Q) liftN_noPanic liftN_noOut [] (fun a w h => (by obtain ⟨_, F', L', h1, h2, h3⟩ := h; exact ⟨F', L', h1, h2, h3⟩)) l a w hn (h.use w a hf hp)
  rw [List.append_nil] at h1
  exact wpIn_region_lit h1
end
section
variable {P : Program} {n : Nat} {w0 : World} {ro : Nat} {Q : Exit → Fm → List Res → Prop} {F : Fm} {L : List Res} {c : Code}
theorem OKr.use (h : OKr P n w0 ro Q c F L) : ∀ w a, Fr n a F → Hp w0.heap.size w0 w L → c.wpIn (fen (some ro)) 0 P (lift n w0 Q) a w := h
end
attribute [irreducible] OKr
def SatY (P : Program) (l : Nat) (args : List Value) (w0 : World) (L : List Res) (R : Value → List Res → Prop) : Prop :=
  ∀ w, Hp w0.heap.size w0 w L → ∃ fn tmps assign body, (Instr.yield l args.toArray).run P w = .ok (.round l fn tmps assign body) w ∧
    RoundIn Fence.wide 0 P l fn tmps assign body w fun e w' => ∃ v L', e = .returned v ∧ Hp w0.heap.size w0 w' L' ∧ R v L'
section
variable {P : Program} {n : Nat} {w0 : World} {Q : Exit → Fm → List Res → Prop} {F : Fm} {L : List Res}
theorem OK_regionY (k : Nat) {id : Nat} {l : List Oper} (l1 l2 : List Oper) {d : Option Nat} {fo : Operand} {args : Array Operand} {tt : Array TypeId} {ty : TypeId} {pos : String} {aft : Array Edge} (hl : l = l1 ++ ⟨d, .call { callee := .value fo, args := args, argTypes := tt }, ty, pos, aft, none⟩ :: l2) (hn : (l1.all noDef && l2.all noDef) = true)
    (h : OKx P n w0 (.seq []) l.toArray (fun F1 L1 => ∃ (y : Nat) (av : List Value) (R : Value → List Res → Prop), rv n F1 fo = .func (.yield y) #[] #[] ∧ args.toList.map (rv n F1) = av ∧ SatY P y av w0 L1 R ∧
      ∀ v L', R v L' → OKx P n w0 (.seq []) l.toArray (Q .normal) l2 (updo F1 d v) L') l1 F L) : OK P n w0 Q (.region id l.toArray false) F L := by
  rw [Bool.and_eq_true] at hn
  refine OK.mk' fun w a hf hp => (wpIn_wide (n := 0)).1 (wpIn_region_lit ?_)
  have key := list_in (P := P) (ops := l.toArray) (ro := none) (C := fun w => Hp w0.heap.size w0 w []) (Q := liftN n w0 _) (Q' := lift n w0 Q) liftN_noPanic liftN_noOut (⟨d, .call { callee := .value fo, args := args, argTypes := tt }, ty, pos, aft, none⟩ :: l2) ?_ l1 a w hn.1 (h.use w a hf hp)
  · rw [← hl] at key; exact key
  · rintro a1 w1 ⟨_, F1, L1, hf1, hp1, y, av, R, h1, h2, hy, h3⟩
    obtain ⟨fn, tmps, assign, body, hrun, hround⟩ := hy w1 hp1
    unfold wpListIn
    rw [if_pos (by rfl)]
    refine ⟨fun f _ => trivial, ?_⟩
    have hexec : ((⟨d, .call { callee := .value fo, args := args, argTypes := tt }, ty, pos, aft, none⟩ : Oper).semAt (fen none).round a1.eval).run P w1 = .ok (.round y fn tmps assign body) w1 := by
      have e : Array.map (rv n F1) args = av.toArray := by rw [← Array.toList_inj, ← h2]; simp
      have hr : (fen none).round = none := rfl
      rw [hr, Oper.semAt_none, hf1.eval]
      simp only [execOp, resolve, h1, Deferred.ofValue, Sem.run_bind, Sem.run_pure, Result.andThen, invoke, Array.empty_append, Array.append_empty, e, hrun]
    rw [hexec]
    refine ⟨fun h => (by cases h), hround.mono ?_⟩
    rintro e w2 ⟨v, L', rfl, hp2, hR⟩
    have h4 := list_in (P := P) (ops := l.toArray) (ro := none) (Q := liftN n w0 (Q .normal)) (Q' := lift n w0 Q) liftN_noPanic liftN_noOut [] (fun a w h => (by obtain ⟨_, F', L', h1, h2, h3⟩ := h; exact ⟨F', L', h1, h2, h3⟩)) l2 _ w2 hn.2 ((h3 v L' hR).use w2 _ (hf1.put d v) hp2)
    rw [List.append_nil] at h4
    exact h4
end
end Go.Proofs.YtpknpbeiifjmgaaDoor
