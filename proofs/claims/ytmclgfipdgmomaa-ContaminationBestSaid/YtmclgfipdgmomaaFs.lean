/-
  More rules of the fast walk: slice expressions, append where there is room, clear, rem, conversions, maps. No statement of the seat is proved here.
-/
import Derived.Test.YtmclgfipdgmomaaFr
import Derived.Test.YtmclgfipdgmomaaMap
import Derived.Lib.SliceRun
import Derived.ArgAppend
namespace Go.Proofs.Ytmclgfipdgmomaa
open Go.RowKit

/-- Some cells of a list, written over. -/
def lays {α : Type} (xs : List α) (off : Nat) : List α → List α
  | [] => xs
  | v :: r => lays (xs.set off v) (off + 1) r
theorem lays_len {α : Type} (vs : List α) : ∀ (xs : List α) (off : Nat), (lays xs off vs).length = xs.length := by
  induction vs with
  | nil => intro xs off; rfl
  | cons v r ih => intro xs off; rw [lays, ih, List.length_set]
theorem lays_eq {α : Type} (vs : List α) : ∀ (xs : List α) (off : Nat), off + vs.length ≤ xs.length → lays xs off vs = xs.take off ++ vs ++ xs.drop (off + vs.length) := by
  induction vs with
  | nil => intro xs off _; simp [lays]
  | cons v r ih =>
    intro xs off h
    simp only [List.length_cons] at h
    rw [lays, ih _ _ (by rw [List.length_set]; omega)]
    apply List.ext_getElem?
    intro i
    simp only [List.getElem?_append, List.getElem?_drop, List.getElem?_take, List.getElem?_set, List.length_append, List.length_take, List.length_set, List.length_cons]
    by_cases h1 : i < off
    · rw [if_pos (by omega), if_pos (by omega), if_pos (by omega), if_neg (by omega), if_pos (by omega), if_pos (by omega), if_pos (by omega)]
    · by_cases h2 : i = off
      · subst h2
        rw [if_pos (by omega), if_pos (by omega), if_pos (by omega), if_pos rfl, if_pos (by omega), if_pos (by omega), if_neg (by omega), Nat.min_eq_left (by omega), Nat.sub_self]
        rfl
      · by_cases h3 : i < off + 1 + r.length
        · rw [if_pos (by omega), if_neg (by omega), if_pos (by omega), if_neg (by omega), Nat.min_eq_left (by omega), Nat.min_eq_left (by omega)]
          rw [show i - off = (i - (off + 1)) + 1 by omega]
          rfl
        · rw [if_neg (by omega), if_neg (by omega), Nat.min_eq_left (by omega), Nat.min_eq_left (by omega), if_neg (by omega)]
          congr 1
          omega

section
variable {B : Nat} {w0 w : World} {L : List Res}
theorem Hp.setRowMany {e : TypeId} {sz g n cap : Nat} (vs : List Value) : ∀ {w : World} {L : List Res} {i : Nat} {xs : List Value} (off : Nat) (_ : Hp B w0 w L) (_ : L[i]? = some (.row e sz (.slice (some ⟨g, 0, .none⟩) n cap) n xs)),
    Hp B w0 (w.setCells g off vs) (L.set i (.row e sz (.slice (some ⟨g, 0, .none⟩) n cap) n (lays xs off vs))) := by
  induction vs with
  | nil =>
    intro w L i xs off h hi
    have : L.set i (.row e sz (.slice (some ⟨g, 0, .none⟩) n cap) n xs) = L := by
      apply List.ext_getElem?
      intro j
      rw [List.getElem?_set]
      split
      · rename_i e; subst e
        split
        · exact hi.symm
        · rw [List.getElem?_eq_none (by omega)]
      · rfl
    rw [lays, this]
    exact h
  | cons v r ih =>
    intro w L i xs off h hi
    have h1 := h.setRow hi off v
    have hlt : i < L.length := (List.getElem?_eq_some_iff.1 hi).1
    have h2 := ih (off + 1) h1 (i := i) (xs := xs.set off v) (by rw [List.getElem?_set, if_pos rfl, if_pos hlt])
    rw [List.set_set] at h2
    exact h2
/-- A row, cut short. -/
theorem Hp.cut (h : Hp B w0 w L) (i : Nat) {e : TypeId} {sz g n cap : Nat} {xs : List Value} (hi : L[i]? = some (.row e sz (.slice (some ⟨g, 0, .none⟩) n cap) n xs)) (k : Nat) (hk : k ≤ n) :
    Hp B w0 w (L.set i (.row e sz (.slice (some ⟨g, 0, .none⟩) k cap) k (xs.take (k * sz)))) := by
  have ho : w.ownsRow B e sz (.slice (some ⟨g, 0, .none⟩) n cap) n xs := h.ok _ (List.mem_of_getElem? hi)
  refine h.turn hi (r' := .row e sz (.slice (some ⟨g, 0, .none⟩) k cap) k (xs.take (k * sz))) ⟨rfl, rfl, rfl, Nat.le_refl _, fun _ _ _ => rfl⟩ ?_ (fun j hj => .inl hj)
  have hl := ho.1
  have hkz : k * sz ≤ n * sz := Nat.mul_le_mul_right _ hk
  refine ⟨by rw [List.length_take, hl, Nat.min_eq_left hkz], ?_⟩
  rcases ho.2 with ⟨h0, _⟩ | ⟨g', cap', cur, h0, h1, h2, h3, h4, h5, h6⟩
  · cases h0
  · cases h0
    exact .inr ⟨_, _, cur, rfl, h1, h2, by omega, h4, h5, by rw [← h6, List.take_take, Nat.min_eq_left hkz]⟩
end
theorem Ent.cut {w0 : World} {L : List Res} (i : Nat) {e : TypeId} {sz g n cap : Nat} {xs : List Value} (hi : L[i]? = some (.row e sz (.slice (some ⟨g, 0, .none⟩) n cap) n xs)) (k : Nat) (hk : k ≤ n) :
    Ent w0 L (L.set i (.row e sz (.slice (some ⟨g, 0, .none⟩) k cap) k (xs.take (k * sz)))) := Ent.mk fun w h => h.cut i hi k hk

section
variable {P : Program} {n : Nat} {w0 : World} {Q : Exit → Fm → List Res → Prop} {K : Fm → List Res → Prop} {F : Fm} {L : List Res} {m : Md} {Lw : List Res} {ops : Array Oper} {rest : List Oper}
  {d : Option Nat} {ty : TypeId} {pos : String} {aft : Array Edge}

/-! ### Slice expressions -/
theorem TSlice.elem {t e sz bytes : Nat} {z : Value} (T : TSlice P t e sz bytes z) : P.elem t = e := by simp [Program.elem, T.ty.und]
theorem TSlice.und' {t e sz bytes : Nat} {z : Value} (T : TSlice P t e sz bytes z) : P.underlying t = some (.slice (P.elem t)) := by rw [T.elem]; exact T.ty.und
theorem run_sl {t e sz bytes : Nat} {z : Value} (T : TSlice P t e sz bytes z) {ρ : Operand → Value} {x : Operand} {lo hi mx : Option Operand} {v u : Value} (hx : ρ x = v) (w : World) (dd : Option Nat) (p : String) (af : Array Edge) (g : Option (Nat × Bool))
    (h : (Instr.slice t v (lo.map ρ) (hi.map ρ) (mx.map ρ)).run P w = .ok u w) : (execOp ρ ⟨dd, .slice t x lo hi mx, ty, p, af, g⟩).run P w = .ok (.value u) w := by
  subst hx
  have := run_sliceAt_slice (P := P) (w := w) t (ρ x) (lo.map ρ) (hi.map ρ) (mx.map ρ) T.und'
  simp [execOp, this, h, Result.andThen]

/-- 's[:h]'. -/
theorem OKx_slH {t e sz bytes : Nat} {z : Value} [T : TSlice P t e sz bytes z] {x hi : Operand} {a : Addr} {len cap h : Nat} {k : IntKind} (hx : rv n F x = .slice (some a) len cap) (hh : rv n F hi = .int k (h : Int)) (h1 : h ≤ cap)
    (kk : OKx P n w0 m ops K rest (updo F d (.slice (some a) h cap)) L) : OKx P n w0 m ops K (⟨d, .slice t x none (some hi) none, ty, pos, aft, none⟩ :: rest) F L :=
  OKx_still (fun w _ _ _ _ _ => run_sl T hx w _ _ _ _ (by
    have := run_slice_h (P := P) (w := w) t (some a) len cap T.und' k (h : Int) (by omega) (by omega)
    rw [T.elem, T.size] at this
    simp only [Option.map_none, Option.map_some, hh, this, Result.andThen, sliced, Int.toNat_natCast, Nat.zero_mul, Nat.sub_zero, Addr.add, if_true]
    simp)) kk
/-- 's[l:]'. -/
theorem OKx_slL {t e sz bytes : Nat} {z : Value} [T : TSlice P t e sz bytes z] {x lo : Operand} {g o len cap l : Nat} {k : IntKind} (hx : rv n F x = .slice (some ⟨g, o, none⟩) len cap) (hl : rv n F lo = .int k (l : Int)) (h1 : l ≤ len)
    (kk : ∀ o', (l < cap → o' = o + l * sz) → OKx P n w0 m ops K rest (updo F d (.slice (some ⟨g, o', none⟩) (len - l) (cap - l))) L) : OKx P n w0 m ops K (⟨d, .slice t x (some lo) none none, ty, pos, aft, none⟩ :: rest) F L :=
  OKx_still (fun w _ _ _ _ _ => run_sl T hx w _ _ _ _ (by
    have := run_slice_l (P := P) (w := w) t (some (⟨g, o, none⟩ : Addr)) len cap T.und' k (l : Int) (by omega) (by omega)
    rw [T.elem, T.size] at this
    simp only [Option.map_none, Option.map_some, hl, this, Result.andThen, sliced, Int.toNat_natCast]
    have e : (if cap = l then (⟨g, o, none⟩ : Addr) else (⟨g, o, none⟩ : Addr).add (l * sz)) = ⟨g, if cap = l then o else o + l * sz, none⟩ := by
      split
      · rfl
      · rw [add_at]
    rw [← e]
    split <;> rfl)) (kk (if cap = l then o else o + l * sz) (fun h => by rw [if_neg (by omega)]))
/-- 's[l:h]'. -/
theorem OKx_slLH {t e sz bytes : Nat} {z : Value} [T : TSlice P t e sz bytes z] {x lo hi : Operand} {g o len cap l h : Nat} {k k' : IntKind} (hx : rv n F x = .slice (some ⟨g, o, none⟩) len cap) (hl : rv n F lo = .int k (l : Int)) (hh : rv n F hi = .int k' (h : Int)) (h1 : l ≤ h) (h2 : h ≤ cap)
    (kk : ∀ o', (l < cap → o' = o + l * sz) → OKx P n w0 m ops K rest (updo F d (.slice (some ⟨g, o', none⟩) (h - l) (cap - l))) L) : OKx P n w0 m ops K (⟨d, .slice t x (some lo) (some hi) none, ty, pos, aft, none⟩ :: rest) F L :=
  OKx_still (fun w _ _ _ _ _ => run_sl T hx w _ _ _ _ (by
    have := run_slice_lh (P := P) (w := w) t (some (⟨g, o, none⟩ : Addr)) len cap T.und' k k' (l : Int) (h : Int) (by omega) (by omega) (by omega)
    rw [T.elem, T.size] at this
    simp only [Option.map_none, Option.map_some, hl, hh, this, Result.andThen, sliced, Int.toNat_natCast]
    have e : (if cap = l then (⟨g, o, none⟩ : Addr) else (⟨g, o, none⟩ : Addr).add (l * sz)) = ⟨g, if cap = l then o else o + l * sz, none⟩ := by
      split
      · rfl
      · rw [add_at]
    rw [← e]
    split <;> rfl)) (kk (if cap = l then o else o + l * sz) (fun h => by rw [if_neg (by omega)]))
/-- 's[l:h:mx]', whose value is not read. -/
theorem OKx_slLHM {t e sz bytes : Nat} {z : Value} [T : TSlice P t e sz bytes z] {x lo hi mx : Operand} {a : Option Addr} {len cap l h c : Nat} {k k' k2 : IntKind} (hx : rv n F x = .slice a len cap) (hl : rv n F lo = .int k (l : Int)) (hh : rv n F hi = .int k' (h : Int)) (hm : rv n F mx = .int k2 (c : Int)) (h1 : l ≤ h) (h2 : h ≤ c) (h3 : c ≤ cap)
    (kk : ∀ v, OKx P n w0 m ops K rest (updo F d v) L) : OKx P n w0 m ops K (⟨d, .slice t x (some lo) (some hi) (some mx), ty, pos, aft, none⟩ :: rest) F L :=
  OKx_still (fun w _ _ _ _ _ => run_sl T hx w _ _ _ _ (by
    have := run_slice_lhm (P := P) (w := w) t a len cap T.und' k k' k2 (l : Int) (h : Int) (c : Int) (by omega) (by omega) (by omega) (by omega)
    rw [T.elem, T.size] at this
    simp only [Option.map_some, hl, hh, hm, this, Result.andThen]; rfl)) (kk _)

/-- 'append(s[:i], xs...)' where there is room: cells of the call's own row are written over. -/
theorem OKx_appRoom {s x : Operand} {t : TypeId} {e sz bytes : Nat} {z : Value} [T : TSlice P t e sz bytes z] [hE : Keeps w0 L Lw] (i : Nat) {g N c b o M k cap : Nat} {xs ys : List Value}
    (hs : rv n F s = .slice (some ⟨g, 0, none⟩) k cap) (hx : rv n F x = .slice (some ⟨b, o, none⟩) M c) (hi : L[i]? = some (.row e sz (.slice (some ⟨g, 0, none⟩) N cap) N xs)) (hl : ys.length = M * sz) (hy : ∀ w, Hp w0.heap.size w0 w L → ∀ j u, ys[j]? = some u → w.cell? ⟨b, o + j, none⟩ = some u) (h1 : ∀ u ∈ ys, u.oneCell' = true)
    (hk : k + M ≤ N) (hN : N ≤ cap)
    (kk : OKx P n w0 (.seq Lw) ops K rest (updo F d (.slice (some ⟨g, 0, none⟩) (k + M) cap)) (L.set i (.row e sz (.slice (some ⟨g, 0, none⟩) N cap) N (lays xs (k * sz) ys)))) :
    OKx P n w0 (.seq Lw) ops K (⟨d, .call { callee := .builtin .append, args := #[s, x], argTypes := #[t, t] }, ty, pos, aft, none⟩ :: rest) F L := by
  refine OKx_actW hE.ent fun w a hfr hp => wp_of_list (ops := ops) rfl ?_
  obtain ⟨i0, hi0, hz0, hz1, hz2⟩ := info_parts T.ty.inf
  obtain ⟨hc, hf, _, _⟩ := hp.rowAt i hi
  have ho : w.ownsRow w0.heap.size e sz (.slice (some ⟨g, 0, none⟩) N cap) N xs := hp.ok _ (List.mem_of_getElem? hi)
  have hxl := ho.1
  have hfit : k * sz + ys.length ≤ N * sz := by rw [hl, ← Nat.add_mul]; exact Nat.mul_le_mul_right _ hk
  refine wpList_plain rfl fun K' hK' => ?_
  have hrun := run_append_room_cells (P := P) (w := w) t ty e i0 T.ty.und hi0 g 0 k cap ⟨b, o, none⟩ M c ys (by rw [hz1]; exact hl) (fun j u hj => by rw [add_at]; exact hy w hp j u hj) h1 (by omega)
    (fun j hj => by rw [hz1, Nat.zero_add, hc _ (by omega), List.getElem?_eq_getElem (by omega)]; rfl) (fun j hj => hf _)
  unfold Oper.wp
  have e1 : a.eval s = .slice (some ⟨g, 0, none⟩) k cap := by rw [hfr.eval]; exact hs
  have e2 : a.eval x = .slice (some ⟨b, o, none⟩) M c := by rw [hfr.eval]; exact hx
  rw [hz1, Nat.zero_add] at hrun
  simp [execOp, resolve, invoke, builtin, e1, e2, hrun, Result.andThen]
  exact hK' _ _ ⟨rfl, kk.use _ _ (hfr.put d _) (Hp.setRowMany ys (k * sz) hp hi)⟩

/-- 's == nil', s a slice that lies somewhere. -/
theorem OKx_eqNilF {t ut e sz bytes : Nat} {z : Value} [T : TSlice P t e sz bytes z] {x y : Operand} {a : Addr} {k c : Nat} (hx : rv n F x = .slice (some a) k c) (hy : rv n F y = .slice none 0 0)
    (kk : OKx P n w0 m ops K rest (updo F d (.bool false)) L) : OKx P n w0 m ops K (⟨d, .binOp .eql t x y ut, ty, pos, aft, none⟩ :: rest) F L :=
  OKx_still (fun w _ _ _ _ _ => by
    have h := Lib.run_eql_slice_nil (P := P) w t e (some a) k c 0 0 T.ty.und
    have hg : (eqGuard .eql t x y (.slice (some a) k c) (.slice none 0 0)).run P w = .ok () w := by simp [eqGuard]
    simp [execOp, hx, hy, Sem.run_bind, hg, h, Result.andThen]) kk

theorem zero_one {z : Array Value} (h : ∀ v ∈ z.toList, v.oneCell' = true) (hz : 0 < z.size) (k : Nat) : ∀ v ∈ (Builtin.zeroCells z k).toList, v.oneCell' = true := by
  intro v hv
  simp only [Builtin.zeroCells, Array.toList_map, Array.toList_range, List.mem_map, List.mem_range] at hv
  obtain ⟨i, hi, rfl⟩ := hv
  have : i % z.size < z.size := Nat.mod_lt _ hz
  refine h _ ?_
  simp [this]
/-- 'clear(s)', s a part of a row of the call's own. -/
theorem OKx_clear {t e sz bytes : Nat} {z : Value} [T : TSlice P t e sz bytes z] [hE : Keeps w0 L Lw] (i : Nat) {x : Operand} {g o k c N cap : Nat} {xs : List Value} (hx : rv n F x = .slice (some ⟨g, o, none⟩) k c) (hi : L[i]? = some (.row e sz (.slice (some ⟨g, 0, none⟩) N cap) N xs))
    (hz : ∀ w, (zeroValue e).run P w = .ok z w) (h1 : ∀ v ∈ z.cells.toList, v.oneCell' = true) (hk : 0 < k) (ho : o + k * sz ≤ N * sz)
    (kk : ∀ zs, zs.length = k * sz → OKx P n w0 (.seq Lw) ops K rest (updo F d (.tuple #[])) (L.set i (.row e sz (.slice (some ⟨g, 0, none⟩) N cap) N (lays xs o zs)))) :
    OKx P n w0 (.seq Lw) ops K (⟨d, .call { callee := .builtin .clear, args := #[x], argTypes := #[t] }, ty, pos, aft, none⟩ :: rest) F L := by
  refine OKx_actW hE.ent fun w a hfr hp => ?_
  obtain ⟨hc, hf, _, _⟩ := hp.rowAt i hi
  have hown : w.ownsRow w0.heap.size e sz (.slice (some ⟨g, 0, none⟩) N cap) N xs := hp.ok _ (List.mem_of_getElem? hi)
  have hxl := hown.1
  have hzs : z.cells.size = sz := T.ty.zs
  have hl : (Builtin.zeroCells z.cells k).toList.length = k * sz := by rw [Array.length_toList, size_zeroCells, hzs]
  have hst := run_storeCells_cells (P := P) g o (Builtin.zeroCells z.cells k).toList 0 w (fun j hj => by rw [Nat.add_zero, hc _ (by omega), List.getElem?_eq_getElem (by omega)]; rfl) (fun j hj => hf _) (zero_one h1 (by rw [hzs]; exact T.ty.pos) k)
  simp only [Nat.add_zero] at hst
  obtain ⟨k', rfl⟩ : ∃ m, k = m + 1 := ⟨k - 1, by omega⟩
  have hrun : (Builtin.clear_ #[t] ty #[.slice (some ⟨g, o, none⟩) (k' + 1) c]).run P w = .ok (.tuple #[]) (w.setCells g o (Builtin.zeroCells z.cells (k' + 1)).toList) := by
    simp [Builtin.clear_, run_underlying T.ty.und, hz, hst]
  have e1 : a.eval x = .slice (some ⟨g, o, none⟩) (k' + 1) c := by rw [hfr.eval]; exact hx
  unfold Oper.wp
  simp [execOp, resolve, invoke, builtin, e1, hrun, Result.andThen]
  exact (kk _ hl).use _ _ (hfr.put d _) (Hp.setRowMany _ o hp hi)

/-- 'x % y', whole numbers, neither below zero. -/
theorem OKx_remN {t ut : TypeId} {x y : Operand} {a b : Nat} (hx : rv n F x = .int .i64 (a : Int)) (hy : rv n F y = .int .i64 (b : Int)) (hb : 0 < b) (ha : a ≤ 9223372036854775807)
    (k : OKx P n w0 m ops K rest (updo F d (.int .i64 ((a % b : Nat) : Int))) L) : OKx P n w0 m ops K (⟨d, .binOp .rem t x y ut, ty, pos, aft, none⟩ :: rest) F L :=
  OKx_still (fun w _ _ _ _ _ => run_int .rem t x y .i64 a b (by decide) w ut _ _ _ _ _ hx hy (by
    have hb' : (b : Int) ≠ 0 := by omega
    have e : Int.tmod (a : Int) (b : Int) = ((a % b : Nat) : Int) := by rw [Int.tmod_eq_emod_of_nonneg (by omega)]; simp
    have hlt : a % b ≤ a := Nat.mod_le _ _
    have hw : IntKind.i64.wrap ((a % b : Nat) : Int) = ((a % b : Nat) : Int) := wrapI _ ⟨by omega, by omega⟩
    have hb0 : ¬ b = 0 := by omega
    simp only [Op.intDiv]
    simp [hb0, e]
    first | done | exact hw | (rw [← Int.natCast_emod]; exact hw))) k

/-- A small whole number as an int. -/
theorem OKx_conv {src dst : TypeId} {x : Operand} {k : IntKind} {a : Int} (hx : rv n F x = .int k a) (hs : (P.underlying src).isSome = true) (hd : P.underlying dst = some (.int .i64)) (h1 : -9223372036854775808 ≤ a) (h2 : a ≤ 9223372036854775807)
    (kk : OKx P n w0 m ops K rest (updo F d (.int .i64 a)) L) : OKx P n w0 m ops K (⟨d, .convert src dst x, ty, pos, aft, none⟩ :: rest) F L :=
  OKx_still (fun w _ _ _ _ _ => by
    have hk : P.intKind dst = .i64 := by simp [Program.intKind, hd]
    have h := run_convert_int (P := P) (w := w) src dst k a hs (by rw [hk]; exact hd)
    have hw : IntKind.i64.wrap a = a := wrapI _ ⟨h1, h2⟩
    rw [hk, hw] at h
    simp [execOp, hx, h, Result.andThen]) kk
end
end Go.Proofs.Ytmclgfipdgmomaa
