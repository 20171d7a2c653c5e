/-
  Rules of the fast walk: results of all kinds, some of them held in variables; the sort of numbers. No statement of the seat is proved here.
-/
import Derived.Test.YtmclgfipdgmomaaFq
import Derived.Test.YtmclgfipdgmomaaFunc
import Derived.Test.YtmclgfipdgmomaaSrt
import Derived.Sort.OwnSortedInts
namespace Go.Proofs.Ytmclgfipdgmomaa
open Go.RowKit

theorem Ent.perm {w0 : World} {L L' : List Res} (p : L.Perm L') : Ent w0 L L' := Ent.mk fun _ h => h.perm p.symm
section
variable {P : Program} {n : Nat} {w0 : World} {F : Fm} {L : List Res}
/-- What one result reads as. -/
def resIs (P : Program) (n : Nat) (F : Fm) (L : List Res) : ResultVar → Value → Prop
  | .tmp t, v => rv n F (.tmp t) = v
  | .cell t tt, v => ∃ (g i e : Nat) (cs : List Value), rv n F (.tmp t) = .pointer (some ⟨g, 0, none⟩) ∧ L[i]? = some (.box e g cs) ∧ ∀ w : World, (∀ j, w.cell? ⟨g, j, none⟩ = cs[j]?) → (loadVar tt ⟨g, 0, none⟩).run P w = .ok v w
theorem resIs_tmp {t : Nat} {v : Value} (h : rv n F (.tmp t) = v) : resIs P n F L (.tmp t) v := h
theorem resIs_cellA {t tt sz g : Nat} {zs : List Value} [T : TAgg P tt sz zs] (i : Nat) {e : TypeId} {cs : List Value} (h1 : rv n F (.tmp t) = .pointer (some ⟨g, 0, none⟩)) (h2 : L[i]? = some (.box e g cs)) (h3 : cs.length = sz) : resIs P n F L (.cell t tt) (.agg cs.toArray) := by
  refine ⟨g, i, e, cs, h1, h2, fun w hc => ?_⟩
  subst h3
  have := run_cells (P := P) (a := ⟨g, 0, none⟩) (w := w) cs 0 #[] (fun j hj => by rw [Nat.zero_add, add_at, Nat.zero_add]; exact hc j)
  simp [loadVar, Sem.run_bind, T.agg, T.size, Result.andThen, loadCells, this]
def allRes (P : Program) (n : Nat) (F : Fm) (L : List Res) : List ResultVar → List Value → Prop
  | [], [] => True
  | r :: rs, v :: vs => resIs P n F L r v ∧ allRes P n F L rs vs
  | _, _ => False
def packV : List Value → Value
  | [v] => v
  | vs => .tuple vs.toArray
def bodyR (P : Program) (n : Nat) (w0 : World) (rs : List ResultVar) (R : Value → List Res → Prop) : Exit → Fm → List Res → Prop
  | .normal, F, L => marksV (F none) = [] ∧ ∃ vs L', allRes P n F L rs vs ∧ Ent w0 L L' ∧ R (packV vs) L'
  | .ret, F, L => marksV (F none) = [] ∧ ∃ vs L', allRes P n F L rs vs ∧ Ent w0 L L' ∧ R (packV vs) L'
  | _, _, _ => False
theorem mapM_run {w : World} {f : ResultVar → Sem Value} (hf : ∀ r v, resIs P n F L r v → (f r).run P w = .ok v w) : ∀ (rs : List ResultVar) (vs : List Value), allRes P n F L rs vs → (rs.mapM f).run P w = .ok vs w
  | [], [], _ => by simp
  | r :: rs, v :: vs, h => by
    have ih := mapM_run hf rs vs h.2
    rw [List.mapM_cons]
    simp only [Sem.run_bind, Sem.run_pure, Result.andThen, hf r v h.1, ih]
  | [], _ :: _, h => h.elim
  | _ :: _, [], h => h.elim
theorem SatL.ofR {f : FuncId} {fn : Func} {c : Code} {args : List Value} {R : Value → List Res → Prop} (N : Nat) (rs : List ResultVar) (hf : P.funcs[f]? = some fn) (hN : fn.ntmps = N) (hnm : (fn.name == "runtime.NumGoroutine") = false) (hb : fn.body = some c)
    (hres : fn.results = rs.toArray) (hlen : Nat.ble args.length N = true) (h : OK P N w0 (bodyR P N w0 rs R) c (argF args) L) : SatL P f args w0 L R := by
  refine ⟨⟨fn, c, hf, hnm, hb⟩, fun w hp => ?_⟩
  refine calls_of_wp hf hb ?_
  subst hN
  have hlen' : args.length ≤ fn.ntmps := by rwa [Nat.ble_eq] at hlen
  have hfr : Fr fn.ntmps { tmps := args.toArray ++ Array.replicate (fn.ntmps - args.toArray.size) undef, defers := [] } (argF args) := by
    refine ⟨rfl, by simp; omega, fun t ht => ?_⟩
    simp only [Array.getD_eq_getD_getElem?, argF, List.getD_eq_getElem?_getD]
    by_cases h : t < args.length
    · rw [Array.getElem?_append_left (by simpa using h)]
      simp
    · rw [Array.getElem?_append_right (by simpa using Nat.le_of_not_lt h), List.getElem?_eq_none (by omega)]
      simp only [List.size_toArray, Array.getElem?_replicate]
      split <;> rfl
  have key : ∀ (a' : Act) (w' : World) (F' : Fm) (L' : List Res) (vs : List Value), Fr fn.ntmps a' F' → Hp w0.heap.size w0 w' L' → allRes P fn.ntmps F' L' rs vs → (results fn a'.tmps).run P w' = .ok (packV vs) w' := by
    intro a' w' F' L' vs h1 h2 h3
    unfold results
    rw [hres, List.mapM_toArray]
    simp only [Sem.run_bind, Sem.run_map]
    rw [mapM_run (n := fn.ntmps) (F := F') (L := L') ?_ rs vs h3]
    · rcases vs with _ | ⟨v, _ | ⟨v2, vs⟩⟩ <;> simp [packV, Result.andThen]
    · intro r v h
      cases r with
      | tmp t =>
        have he : a'.tmps.getD t undef = v := (congrFun h1.eval (.tmp t)).trans h
        simp only [Sem.run_pure, he]
      | cell t tt =>
        obtain ⟨g, i, e, cs, h2', h3', h4⟩ := h
        have he : a'.tmps.getD t undef = .pointer (some ⟨g, 0, none⟩) := (congrFun h1.eval (.tmp t)).trans h2'
        have h5 := h4 w' (h2.boxAt i h3').1
        simp only [Sem.run_bind, Sem.run_pure, Result.andThen, he, asAddr, h5]
  refine wp_mono (h.use w _ hfr hp) ?_
  rintro e a' w' ⟨F', L', h1, h2, h3⟩
  cases e with
  | normal =>
    obtain ⟨hm, vs, L'', hr, hent, hR⟩ := h3
    exact ⟨h1.defers.trans hm, _, key _ _ _ _ _ h1 h2 hr, _, L'', rfl, hent.use _ h2, hR⟩
  | ret =>
    obtain ⟨hm, vs, L'', hr, hent, hR⟩ := h3
    exact ⟨h1.defers.trans hm, _, key _ _ _ _ _ h1 h2 hr, _, L'', rfl, hent.use _ h2, hR⟩
  | _ => exact h3.elim
theorem bodyR_r1 {r1 : ResultVar} {v1 : Value} {R : Value → List Res → Prop} (h1 : resIs P n F L r1 v1) (h : ∃ L', Ent w0 L L' ∧ R v1 L') (hm : marksV (F none) = [] := by exact rfl) : bodyR P n w0 [r1] R .ret F L :=
  let ⟨L', a, b⟩ := h
  ⟨hm, [v1], L', ⟨h1, trivial⟩, a, b⟩
theorem bodyR_r2 {r1 r2 : ResultVar} {v1 v2 : Value} {R : Value → List Res → Prop} (h1 : resIs P n F L r1 v1) (h2 : resIs P n F L r2 v2) (h : ∃ L', Ent w0 L L' ∧ R (.tuple #[v1, v2]) L') (hm : marksV (F none) = [] := by exact rfl) : bodyR P n w0 [r1, r2] R .ret F L :=
  let ⟨L', a, b⟩ := h
  ⟨hm, [v1, v2], L', ⟨h1, h2, trivial⟩, a, b⟩
theorem bodyR_r3 {r1 r2 r3 : ResultVar} {v1 v2 v3 : Value} {R : Value → List Res → Prop} (h1 : resIs P n F L r1 v1) (h2 : resIs P n F L r2 v2) (h3 : resIs P n F L r3 v3) (h : ∃ L', Ent w0 L L' ∧ R (.tuple #[v1, v2, v3]) L') (hm : marksV (F none) = [] := by exact rfl) : bodyR P n w0 [r1, r2, r3] R .ret F L :=
  let ⟨L', a, b⟩ := h
  ⟨hm, [v1, v2, v3], L', ⟨h1, h2, h3, trivial⟩, a, b⟩
theorem bodyR_r4 {r1 r2 r3 r4 : ResultVar} {v1 v2 v3 v4 : Value} {R : Value → List Res → Prop} (h1 : resIs P n F L r1 v1) (h2 : resIs P n F L r2 v2) (h3 : resIs P n F L r3 v3) (h4 : resIs P n F L r4 v4) (h : ∃ L', Ent w0 L L' ∧ R (.tuple #[v1, v2, v3, v4]) L') (hm : marksV (F none) = [] := by exact rfl) : bodyR P n w0 [r1, r2, r3, r4] R .ret F L :=
  let ⟨L', a, b⟩ := h
  ⟨hm, [v1, v2, v3, v4], L', ⟨h1, h2, h3, h4, trivial⟩, a, b⟩
end
attribute [irreducible] bodyR

section
variable {P : Program} {n : Nat} {w0 : World} {K : Fm → List Res → Prop} {F : Fm} {L : List Res} {Lw : List Res} {ops : Array Oper} {rest : List Oper}
  {d : Option Nat} {ty : TypeId} {pos : String} {aft : Array Edge}
/-- 'append(s, xs...)', xs a slice that came in, be it empty. -/
theorem OKx_appSl {s x : Operand} {t : TypeId} {e sz bytes : Nat} {z : Value} [T : TSlice P t e sz bytes z] [hE : Keeps w0 L Lw] (i : Nat) {v y : Value} {N M : Nat} {xs : List Value} {f : Nat → Value}
    (hs : rv n F s = v) (hx : rv n F x = y) (hi : L[i]? = some (.row e sz v N xs)) (hy : Sl w0 y sz M f) (h1 : ∀ j, j < M * sz → (f j).oneCell' = true)
    (hb : (N + M) * bytes ≤ 140737488355328) (hN : N + M ≤ 9223372036854775807)
    (kk : ∀ v', OKx P n w0 (.seq Lw) ops K rest (updo F d v') (L.set i (.row e sz v' (N + M) (xs ++ (List.range (M * sz)).map f)))) :
    OKx P n w0 (.seq Lw) ops K (⟨d, .call { callee := .builtin .append, args := #[s, x], argTypes := #[t, t] }, ty, pos, aft, none⟩ :: rest) F L := by
  refine OKx_actW hE.ent fun w a hfr hp => ?_
  have e1 : a.eval s = v := by rw [hfr.eval]; exact hs
  have e2 : a.eval x = y := by rw [hfr.eval]; exact hx
  obtain ⟨ay, cy, rfl, hc⟩ := hy.out
  by_cases hM : M = 0
  · subst hM
    obtain ⟨i0, hi0, hz0, hz1, hz2⟩ := info_parts T.ty.inf
    have ho : w.ownsRow w0.heap.size e sz v N xs := hp.ok _ (List.mem_of_getElem? hi)
    have hsh : ∃ a0 c0, v = .slice a0 N c0 ∧ N ≤ c0 := by
      rcases ho.2 with ⟨h0, h2⟩ | ⟨g, cap, cur, h0, _, _, h4, _⟩
      · exact ⟨none, 0, by rw [h0, h2], by omega⟩
      · exact ⟨_, _, h0, h4⟩
    obtain ⟨a0, c0, rfl, hle⟩ := hsh
    unfold Oper.wp
    have hrun : (execOp a.eval ⟨d, .call { callee := .builtin .append, args := #[s, x], argTypes := #[t, t] }, ty, pos, aft, none⟩).run P w = .ok (.value (.slice a0 N c0)) w := by
      cases a0 <;> cases ay <;> simp [execOp, resolve, invoke, builtin, e1, e2, Builtin.append_, run_underlying T.ty.und, sizeOf, typeInfo, hi0, Builtin.lenOf, Builtin.firstCells, hle, storeCells, Result.andThen, loadCells, loadCellsFrom]
    rw [hrun, Oper.upon_value]
    have hk := kk (.slice a0 N c0)
    have e3 : L.set i (.row e sz (.slice a0 N c0) (N + 0) (xs ++ (List.range (0 * sz)).map f)) = L := by
      rw [Nat.zero_mul, List.range_zero, List.map_nil, List.append_nil, Nat.add_zero]
      apply List.ext_getElem? 
      intro j
      rw [List.getElem?_set]
      split
      · rename_i hij
        subst hij
        rw [hi]
        have := (List.getElem?_eq_some_iff.1 hi).1
        rw [if_pos this]
      · rfl
    rw [e3] at hk
    exact hk.use w _ (hfr.put d _) hp
  · rcases hc with h0 | ⟨b, o, rfl, hc⟩
    · omega
    refine wp_of_list (ops := ops) rfl ?_
    refine wpList_append_hp rfl s x t rfl T.ty hp i hi e1 ⟨b, o, none⟩ M cy ((List.range (M * sz)).map f) e2 (by simp) (fun j u hj => ?_) (fun u hu => ?_) hb hN ?_
    · have hj2 : j < M * sz := by simpa using (List.getElem?_eq_some_iff.1 hj).1
      have h2 := hc j hj2
      rw [add_at, hp.below.cell (World.block_lt_of_cell? w0 _ h2), h2]
      simpa [hj2] using hj
    · obtain ⟨j, hj, rfl⟩ := List.mem_map.1 hu
      exact h1 j (List.mem_range.1 hj)
    · intro v' w' hp' _
      exact ⟨rfl, (kk v').use w' _ (hfr.put d _) hp'⟩
/-- 'x / y', whole numbers, neither below zero. -/
theorem OKx_quoN {m : Md} {t ut : TypeId} {x y : Operand} {a b : Nat} (hx : rv n F x = .int .i64 (a : Int)) (hy : rv n F y = .int .i64 (b : Int)) (hb : 0 < b) (ha : a ≤ 9223372036854775807)
    (k : OKx P n w0 m ops K rest (updo F d (.int .i64 ((a / b : Nat) : Int))) L) : OKx P n w0 m ops K (⟨d, .binOp .quo t x y ut, ty, pos, aft, none⟩ :: rest) F L :=
  OKx_still (fun w _ _ _ _ _ => run_int .quo t x y .i64 a b (by decide) w ut _ _ _ _ _ hx hy (by
    have e : Int.tdiv (a : Int) (b : Int) = ((a / b : Nat) : Int) := (Int.ofNat_tdiv a b).symm
    have hlt : a / b ≤ a := Nat.div_le_self _ _
    generalize a / b = q at *
    have hw : IntKind.i64.wrap (q : Int) = (q : Int) := wrapI _ ⟨by omega, by omega⟩
    have hb0 : ¬ b = 0 := by omega
    simp only [Op.intDiv]
    simp [hb0, e, hw])) k
/-- A struct literal, some of its fields named. -/
theorem run_buildG {t sz : Nat} {zs : List Value} (T : TAgg P t sz zs) {offs : List (Nat × Nat)} (S : TStruct P t offs) {parts : Array (Nat × Operand)} {ps : List (Nat × Value)} {cs : Array Value} {ρ : Operand → Value}
    (hv : parts.toList.map (fun x => (x.1, ρ x.2)) = ps) (hf : Instr.fill (offs.toArray[·]?) zs.toArray ps = some cs) (w : World) (dd : Option Nat) (p : String) (af : Array Edge) (g : Option (Nat × Bool)) :
    (execOp ρ ⟨dd, .build t parts, ty, p, af, g⟩).run P w = .ok (.value (.agg cs)) w := by
  have h0 := S.at'
  unfold structOffs at h0
  split at h0
  · rename_i fields hu
    have hund : (underlying t).run P w = .ok (.struct fields) w := by simp [underlying, program, Sem.run_bind, Sem.run, hu, Result.andThen]
    have hpl := run_places w fields.toList offs h0
    have hpl2 : (fields.mapM fun (f : Field) => (do pure (f.offset, ← sizeOf f.type) : Sem (Nat × Nat))).run P w = .ok offs.toArray w := by
      rw [Array.mapM_eq_mapM_toList]
      simp only [Sem.run_map, hpl, Result.andThen]
    have hmap : Array.map (fun x => match x with | (i, x) => (i, ρ x)) parts = parts.map fun x => (x.1, ρ x.2) := rfl
    have hfill : Instr.fill (offs.toArray[·]?) zs.toArray (parts.map fun x => (x.1, ρ x.2)).toList = some cs := by
      rw [Array.toList_map, hv]; exact hf
    simp only [execOp, hmap, Instr.build, Sem.run_bind, T.zero, Result.andThen, Value.cells, hund, hpl2, hfill, Sem.run_pure]
  · cases h0
theorem OKx_buildG {m : Md} {t sz : Nat} {zs : List Value} [T : TAgg P t sz zs] {offs : List (Nat × Nat)} [S : TStruct P t offs] {parts : Array (Nat × Operand)} (ps : List (Nat × Value)) (cs : Array Value)
    (hv : parts.toList.map (fun x => (x.1, rv n F x.2)) = ps) (hf : Instr.fill (offs.toArray[·]?) zs.toArray ps = some cs) (k : OKx P n w0 m ops K rest (updo F d (.agg cs)) L) : OKx P n w0 m ops K (⟨d, .build t parts, ty, pos, aft, none⟩ :: rest) F L :=
  OKx_still (fun w _ _ _ _ _ => run_buildG T S hv hf w _ _ _ _) k
theorem OKx_build0 {m : Md} {t sz : Nat} {zs : List Value} [T : TAgg P t sz zs] {offs : List (Nat × Nat)} [S : TStruct P t offs] (k : OKx P n w0 m ops K rest (updo F d (.agg zs.toArray)) L) : OKx P n w0 m ops K (⟨d, .build t #[], ty, pos, aft, none⟩ :: rest) F L :=
  OKx_buildG [] zs.toArray rfl rfl k
end
theorem Sl.one_ints {w : World} {v : Value} {xs : List Int} (h : Ints w v xs) : (List.range (xs.length * 1)).map (fun j => Value.int .i64 (xs.getD j 0)) = ints xs := by
  rw [Nat.mul_one]
  apply List.ext_getElem (by simp [ints])
  intro i h1 h2
  simp only [List.length_map, List.length_range] at h1
  simp [ints, h1]

/-- slices.Sort on a row of the call's own. -/
def srtL (xs : List Int) : List Int := xs.mergeSort fun x y => decide (x ≤ y)
set_option maxRecDepth 100000 in
set_option maxHeartbeats 4000000 in
theorem sort_int_sat (g cap n : Nat) (xs : List Int) (w0 : World) (L : List Res) (i : Nat) (hxn : xs.length = n) (hi : L[i]? = some (.row 3 1 (.slice (some ⟨g, 0, none⟩) n cap) n (ints xs))) (hx : n ≤ 1000000) :
    SatL Try.prog 74 [.slice (some ⟨g, 0, none⟩) n cap] w0 L (fun u L' => u = .tuple #[] ∧ L' = L.set i (.row 3 1 (.slice (some ⟨g, 0, none⟩) n cap) n (ints (srtL xs)))) := by
  subst hxn
  refine ⟨⟨_, _, Try.func74, by kernel_rfl, rfl⟩, fun w hp => ?_⟩
  have ho : w.ownsRow w0.heap.size 3 1 (.slice (some ⟨g, 0, none⟩) xs.length cap) xs.length (ints xs) := hp.ok _ (List.mem_of_getElem? hi)
  have hlt := (ho.lt g rfl).2
  rcases ho.2 with ⟨h0, _⟩ | ⟨g', cap', cur, hv, hg, hb, hn, hcap, hsz, htake⟩
  · cases h0
  cases hv
  rw [Nat.mul_one] at htake
  have hsl : (srtL xs).length = xs.length := List.length_mergeSort _
  refine (Try.slices_Sort_int g 0 cap xs w (Go.holds_of_blockI hb htake) hlt (by omega)).mono ?_
  rintro e w' ⟨rfl, n, os, rfl⟩
  refine ⟨_, _, rfl, hp.turn hi (r' := .row 3 1 (.slice (some ⟨g, 0, none⟩) xs.length cap) xs.length (ints (srtL xs))) (Go.grownBy_sortedI _) ?_ (fun k hk => .inl hk), rfl, rfl⟩
  exact Go.ownsRow_sortedI (w := w) (n := n) (os := os) (ts := srtL xs) hsl hg hb hn hcap hsz
theorem srtL_mem (xs : List Int) (x : Int) : x ∈ srtL xs ↔ x ∈ xs := (List.mergeSort_perm xs _).mem_iff
theorem srtL_perm (xs : List Int) : (srtL xs).Perm xs := List.mergeSort_perm xs _
theorem srtL_le (xs : List Int) : (srtL xs).Pairwise (· ≤ ·) := by
  have := List.pairwise_mergeSort (le := fun x y : Int => decide (x ≤ y)) (by simp; omega) (by simp; omega) xs
  simpa [srtL] using this
end Go.Proofs.Ytmclgfipdgmomaa
