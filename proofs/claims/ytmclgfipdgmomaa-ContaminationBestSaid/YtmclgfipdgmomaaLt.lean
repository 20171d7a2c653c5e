/-
  Rules: literals, max of several numbers, elements of several cells of a row that the call made; stemmata out of literals. No statement of the seat is proved here.
-/
import Derived.Test.YtmclgfipdgmomaaFs
import Derived.Test.YtmclgfipdgmomaaLs
namespace Go.Proofs.Ytmclgfipdgmomaa
open Go.RowKit

section
variable {P : Program} {n : Nat} {w0 : World} {K : Fm → List Res → Prop} {F : Fm} {L : List Res} {m : Md} {Lw : List Res} {ops : Array Oper} {rest : List Oper}
  {d : Option Nat} {ty : TypeId} {pos : String} {aft : Array Edge}
theorem OKx_slit4 {t e bytes : Nat} {z : Value} [T : TSlice P t e 1 bytes z] {x1 x2 x3 x4 : Operand} {v1 v2 v3 v4 : Value} [hE : Keeps w0 L Lw] (h1 : rv n F x1 = v1) (h2 : rv n F x2 = v2) (h3 : rv n F x3 = v3) (h4 : rv n F x4 = v4) (c1 : v1.cells = #[v1]) (c2 : v2.cells = #[v2]) (c3 : v3.cells = #[v3]) (c4 : v4.cells = #[v4])
    (kk : ∀ g, OKx P n w0 (.seq Lw) ops K rest (updo F d (.slice (some ⟨g, 0, none⟩) 4 4)) (.row e 1 (.slice (some ⟨g, 0, none⟩) 4 4) 4 [v1, v2, v3, v4] :: L)) :
    OKx P n w0 (.seq Lw) ops K (⟨d, .buildSlice t 4 #[(0, x1), (1, x2), (2, x3), (3, x4)], ty, pos, aft, none⟩ :: rest) F L :=
  OKx_slit (sz := 1) (vs := [v1, v2, v3, v4]) (cs := [[v1], [v2], [v3], [v4]]) [v1, v2, v3, v4] rfl (by simp [h1, h2, h3, h4]) (by simp [c1, c2, c3, c4]) rfl rfl rfl kk
theorem OKx_slit6 {t e bytes : Nat} {z : Value} [T : TSlice P t e 1 bytes z] {x1 x2 x3 x4 x5 x6 : Operand} {v1 v2 v3 v4 v5 v6 : Value} [hE : Keeps w0 L Lw] (h1 : rv n F x1 = v1) (h2 : rv n F x2 = v2) (h3 : rv n F x3 = v3) (h4 : rv n F x4 = v4) (h5 : rv n F x5 = v5) (h6 : rv n F x6 = v6) (c1 : v1.cells = #[v1]) (c2 : v2.cells = #[v2]) (c3 : v3.cells = #[v3]) (c4 : v4.cells = #[v4]) (c5 : v5.cells = #[v5]) (c6 : v6.cells = #[v6])
    (kk : ∀ g, OKx P n w0 (.seq Lw) ops K rest (updo F d (.slice (some ⟨g, 0, none⟩) 6 6)) (.row e 1 (.slice (some ⟨g, 0, none⟩) 6 6) 6 [v1, v2, v3, v4, v5, v6] :: L)) :
    OKx P n w0 (.seq Lw) ops K (⟨d, .buildSlice t 6 #[(0, x1), (1, x2), (2, x3), (3, x4), (4, x5), (5, x6)], ty, pos, aft, none⟩ :: rest) F L :=
  OKx_slit (sz := 1) (vs := [v1, v2, v3, v4, v5, v6]) (cs := [[v1], [v2], [v3], [v4], [v5], [v6]]) [v1, v2, v3, v4, v5, v6] rfl (by simp [h1, h2, h3, h4, h5, h6]) (by simp [c1, c2, c3, c4, c5, c6]) rfl rfl rfl kk
theorem max2_run {k : IntKind} {a b : Int} {w : World} : (Builtin.max2 (.int k a) (.int k b)).run P w = .ok (.int k (max a b)) w := by
  have e : (if b > a then b else a) = max a b := by split <;> omega
  simp [Builtin.max2, e]
theorem OKx_max3 {x1 x2 x3 : Operand} {tt : Array TypeId} {k : IntKind} {a b c r : Int} (h1 : rv n F x1 = .int k a) (h2 : rv n F x2 = .int k b) (h3 : rv n F x3 = .int k c) (hr : max (max a b) c = r)
    (kk : OKx P n w0 m ops K rest (updo F d (.int k r)) L) : OKx P n w0 m ops K (⟨d, .call { callee := .builtin .max, args := #[x1, x2, x3], argTypes := tt }, ty, pos, aft, none⟩ :: rest) F L := by
  subst hr
  refine OKx_still (fun w _ _ _ _ _ => ?_) kk
  simp [execOp, resolve, invoke, builtin, h1, h2, h3, Builtin.max_, max2_run, Sem.run_bind, Result.andThen]
theorem OKx_max4 {x1 x2 x3 x4 : Operand} {tt : Array TypeId} {k : IntKind} {a b c e r : Int} (h1 : rv n F x1 = .int k a) (h2 : rv n F x2 = .int k b) (h3 : rv n F x3 = .int k c) (h4 : rv n F x4 = .int k e) (hr : max (max (max a b) c) e = r)
    (kk : OKx P n w0 m ops K rest (updo F d (.int k r)) L) : OKx P n w0 m ops K (⟨d, .call { callee := .builtin .max, args := #[x1, x2, x3, x4], argTypes := tt }, ty, pos, aft, none⟩ :: rest) F L := by
  subst hr
  refine OKx_still (fun w _ _ _ _ _ => ?_) kk
  simp [execOp, resolve, invoke, builtin, h1, h2, h3, h4, Builtin.max_, max2_run, Sem.run_bind, Result.andThen]
theorem OKx_max5 {x1 x2 x3 x4 x5 : Operand} {tt : Array TypeId} {k : IntKind} {a b c e f r : Int} (h1 : rv n F x1 = .int k a) (h2 : rv n F x2 = .int k b) (h3 : rv n F x3 = .int k c) (h4 : rv n F x4 = .int k e) (h5 : rv n F x5 = .int k f) (hr : max (max (max (max a b) c) e) f = r)
    (kk : OKx P n w0 m ops K rest (updo F d (.int k r)) L) : OKx P n w0 m ops K (⟨d, .call { callee := .builtin .max, args := #[x1, x2, x3, x4, x5], argTypes := tt }, ty, pos, aft, none⟩ :: rest) F L := by
  subst hr
  refine OKx_still (fun w _ _ _ _ _ => ?_) kk
  simp [execOp, resolve, invoke, builtin, h1, h2, h3, h4, h5, Builtin.max_, max2_run, Sem.run_bind, Result.andThen]

/-- An element of several cells: where it lies. -/
theorem OKx_idxOn {t e sz bytes : Nat} {z : Value} [T : TSlice P t e sz bytes z] {x ix : Operand} {g N cap : Nat} {k : IntKind} {i : Nat} (hx : rv n F x = .slice (some ⟨g, 0, none⟩) N cap) (hix : rv n F ix = .int k (i : Int)) (h1 : i < N)
    (kk : OKx P n w0 m ops K rest (updo F d (.pointer (some ⟨g, i * sz, none⟩))) L) : OKx P n w0 m ops K (⟨d, .indexAddr t x ix, ty, pos, aft, none⟩ :: rest) F L :=
  OKx_still (fun w _ _ _ _ _ => by
    have := run_index T hx hix (by omega) (by omega) w (ty := ty)
    simp only [Int.toNat_natCast, Nat.zero_add] at this
    exact this _ _ _ _) kk
/-- A cell of an element of several cells. -/
theorem OKx_ldWs {t : TypeId} {z : Value} [T : TOne P t z] {x : Operand} {g k : Nat} (i : Nat) {e sz : Nat} {N cap : Nat} {cs : List Value} {v : Value} (hx : rv n F x = .pointer (some ⟨g, k, none⟩)) (hi : L[i]? = some (.row e sz (.slice (some ⟨g, 0, none⟩) N cap) N cs)) (hk : k < N * sz) (hc : cs[k]? = some v)
    (kk : OKx P n w0 m ops K rest (updo F d v) L) : OKx P n w0 m ops K (⟨d, .load t x, ty, pos, aft, none⟩ :: rest) F L :=
  OKx_still (fun w hp _ _ _ _ => run_load1 T hx (((hp.rowAt i hi).1 k hk).trans hc) _ _ _ _) kk
/-- An element of several cells, whole. -/
theorem OKx_ldWA {t sz : Nat} {zs : List Value} [T : TAgg P t sz zs] {x : Operand} {g k : Nat} (i : Nat) {e : TypeId} {N cap : Nat} {cs vs : List Value} (hx : rv n F x = .pointer (some ⟨g, k, none⟩)) (hi : L[i]? = some (.row e sz (.slice (some ⟨g, 0, none⟩) N cap) N cs)) (hk : k + sz ≤ N * sz) (hl : vs.length = sz) (hv : ∀ j, j < sz → cs[k + j]? = vs[j]?)
    (kk : OKx P n w0 m ops K rest (updo F d (.agg vs.toArray)) L) : OKx P n w0 m ops K (⟨d, .load t x, ty, pos, aft, none⟩ :: rest) F L :=
  OKx_still (fun w hp _ _ _ _ => run_loadA T hx hl (fun j hj => by
    rw [(hp.rowAt i hi).1 (k + j) (by omega)]
    exact hv j (by omega)) _ _ _ _) kk
end

section
variable {B : Nat} {w0 w : World} {L : List Res}
def strs (xs : List ByteArray) : List Value := xs.map Value.string
theorem Hp.strs (h : Hp B w0 w L) (i : Nat) {e : TypeId} {n : Nat} {v : Value} {xs : List ByteArray} (hi : L[i]? = some (.row e 1 v n (strs xs))) (hn : n ≤ 140737488355328) (hs : ∀ s ∈ xs, s.size ≤ 140737488355328) : Strs w v xs := by
  have ho : w.ownsRow B e 1 v n (Go.Proofs.Ytmclgfipdgmomaa.strs xs) := h.ok _ (List.mem_of_getElem? hi)
  have hl := ho.1
  simp only [Go.Proofs.Ytmclgfipdgmomaa.strs, List.length_map, Nat.mul_one] at hl
  subst hl
  refine ⟨h.sl i hi hn fun j hj => ?_, hs⟩
  have hj' : j < xs.length := by omega
  simp [Go.Proofs.Ytmclgfipdgmomaa.strs, hj']
theorem Hp.tabs (h : Hp B w0 w L) (i : Nat) {e : TypeId} {n : Nat} {v : Value} {vs : List Value} {xs : List (List Int)} (hi : L[i]? = some (.row e 1 v n vs)) (hn : n ≤ 140737488355328) (hl : xs.length = n) (hv : ∀ j, j < n → Ints w (vs.getD j undef) (xs.getD j [])) : Tabs w v xs := by
  have ho : w.ownsRow B e 1 v n vs := h.ok _ (List.mem_of_getElem? hi)
  have hvl := ho.1
  rw [Nat.mul_one] at hvl
  subst hl
  refine ⟨vs, h.sl i hi hn fun j hj => ?_, hvl, fun j hj => ?_⟩
  · have hj' : j < vs.length := by omega
    simp [hj']
  · have := hv j hj
    rwa [getD_lt _ _ _ hj] at this
/-- A stemma out of three rows. -/
theorem Hp.stm (h : Hp B w0 w L) (i j k : Nat) {e1 e2 e3 : TypeId} {n1 n2 n3 : Nat} {nv ev pv : Value} {ns : List ByteArray} {es : List Bool} {vs : List Value} {ps : List (List Int)} (hi : L[i]? = some (.row e1 1 nv n1 (Go.Proofs.Ytmclgfipdgmomaa.strs ns))) (hj : L[j]? = some (.row e2 1 ev n2 (Go.Proofs.Ytmclgfipdgmomaa.bools es))) (hk : L[k]? = some (.row e3 1 pv n3 vs))
    (b1 : n1 ≤ 1000) (b2 : n2 ≤ 1000) (b3 : n3 ≤ 1000) (hs : (ns.all fun s => decide (s.size ≤ 1000)) = true) (hl : ps.length = n3) (hv : ∀ j, j < n3 → Ints w (vs.getD j undef) (ps.getD j [])) : Stm w (.agg #[nv, ev, pv]) ⟨ns, es, ps⟩ :=
  ⟨nv, ev, pv, rfl, h.strs i hi (by omega) (fun s hm => by have := List.all_eq_true.1 hs s hm; have := of_decide_eq_true this; omega), h.bools j hj (by omega), h.tabs k hk (by omega) hl hv⟩
theorem ltn2 {p : Nat → Prop} (h0 : p 0) (h1 : p 1) : ∀ j, j < 2 → p j
  | 0, _ => h0
  | 1, _ => h1
  | j + 2, h => absurd h (by omega)
theorem ltn3 {p : Nat → Prop} (h0 : p 0) (h1 : p 1) (h2 : p 2) : ∀ j, j < 3 → p j
  | 0, _ => h0
  | 1, _ => h1
  | 2, _ => h2
  | j + 3, h => absurd h (by omega)
theorem ltn4 {p : Nat → Prop} (h0 : p 0) (h1 : p 1) (h2 : p 2) (h3 : p 3) : ∀ j, j < 4 → p j
  | 0, _ => h0
  | 1, _ => h1
  | 2, _ => h2
  | 3, _ => h3
  | j + 4, h => absurd h (by omega)
theorem ltn6 {p : Nat → Prop} (h0 : p 0) (h1 : p 1) (h2 : p 2) (h3 : p 3) (h4 : p 4) (h5 : p 5) : ∀ j, j < 6 → p j
  | 0, _ => h0
  | 1, _ => h1
  | 2, _ => h2
  | 3, _ => h3
  | 4, _ => h4
  | 5, _ => h5
  | j + 6, h => absurd h (by omega)
end
set_option maxRecDepth 100000 in
set_option maxHeartbeats 4000000 in
theorem equalT_sat (v u : Value) (xs ys : List Int) (w : World) (h : Ints w v xs) (k : Ints w u ys) (e : xs = ys) : SatV Try.prog 25 [v, u] w (.bool true) := by
  have := equal_int_sat v u xs ys w h k
  rwa [show (xs == ys) = true by rw [e]; simp] at this
end Go.Proofs.Ytmclgfipdgmomaa
