/-
  Part 6 of the proof: Fs, Fi, List, Ls, Fq. No statement of the seat is proved here.
-/
import Derived.Test.YtpfemholpigdeaaDoorMHRe365
import Derived.Lib.SliceRun
import Derived.ArgAppend
import Derived.Test.YtpfemholpigdeaaDoorRows
namespace Go.Proofs.YtpfemholpigdeaaDoor
open Go.RowKit
def lays {α : Type} (xs : List α) (off : Nat) : List α → List α
  | [] => xs
  | v :: r => lays (xs.set off v) (off + 1) r
theorem lays_len {α : Type} (vs : List α) : ∀ (xs : List α) (off : Nat), (lays xs off vs).length = xs.length := by
  induction vs with
  | nil => intro xs off; rfl
  | cons v r ih => intro xs off; rw [lays, ih, List.length_set]
theorem lays_eq {α : Type} (vs : List α) : ∀ (xs : List α) (off : Nat), off + vs.length ≤ xs.length → lays xs off vs = xs.take off ++ vs ++ xs.drop (off + vs.length) := by
  induction vs with
  | nil => intro xs off _; simp [lays]
  | cons v r ih =>
    intro xs off h
    simp only [List.length_cons] at h
    rw [lays, ih _ _ (by rw [List.length_set];omega)]
    apply List.ext_getElem?
    intro i
    simp only [List.getElem?_append, List.getElem?_drop, List.getElem?_take, List.getElem?_set, List.length_append, List.length_take, List.length_set, List.length_cons]
    by_cases h1 : i < off
    · rw [if_pos (by omega), if_pos (by omega), if_pos (by omega), if_neg (by omega), if_pos (by omega), if_pos (by omega), if_pos (by omega)]
    · by_cases h2 : i = off
      · subst h2
        rw [if_pos (by omega), if_pos (by omega), if_pos (by omega), if_pos rfl, if_pos (by omega), if_pos (by omega), if_neg (by omega), Nat.min_eq_left (by omega), Nat.sub_self]
        rfl
      · by_cases h3 : i < off + 1 + r.length
        · rw [if_pos (by omega), if_neg (by omega), if_pos (by omega), if_neg (by omega), Nat.min_eq_left (by omega), Nat.min_eq_left (by omega)]
          rw [show i - off = (i - (off + 1)) + 1 by omega]
          rfl
        · rw [if_neg (by omega), if_neg (by omega), Nat.min_eq_left (by omega), Nat.min_eq_left (by omega), if_neg (by omega)]
          congr 1
          omega
section
variable {B : Nat} {w0 w : World} {L : List Res}
theorem Hp.setRowMany {e : TypeId} {sz g n cap : Nat} (vs : List Value) : ∀ {w : World} {L : List Res} {i : Nat} {xs : List Value} (off : Nat) (_ : Hp B w0 w L) (_ : L[i]? = some (.row e sz (.slice (some ⟨g, 0, .none⟩) n cap) n xs)),
    Hp B w0 (w.setCells g off vs) (L.set i (.row e sz (.slice (some ⟨g, 0, .none⟩) n cap) n (lays xs off vs))) := by
  induction vs with
  | nil =>
    intro w L i xs off h hi
    have : L.set i (.row e sz (.slice (some ⟨g, 0, .none⟩) n cap) n xs) = L := by
      apply List.ext_getElem?
      intro j
      rw [List.getElem?_set]
      split
      · rename_i e; subst e
        split
        · exact hi.symm
        · rw [List.getElem?_eq_none (by omega)]
      · rfl
    rw [lays, this]
    exact h
  | cons v r ih =>
    intro w L i xs off h hi
    have h1 := h.setRow hi off v
    have hlt : i < L.length := (List.getElem?_eq_some_iff.1 hi).1
    have h2 := ih (off + 1) h1 (i := i) (xs := xs.set off v) (by rw [List.getElem?_set, if_pos rfl, if_pos hlt])
    rw [List.set_set] at h2
    exact h2
theorem Hp.cut (h : Hp B w0 w L) (i : Nat) {e : TypeId} {sz g n cap : Nat} {xs : List Value} (hi : L[i]? = some (.row e sz (.slice (some ⟨g, 0, .none⟩) n cap) n xs)) (k : Nat) (hk : k ≤ n) :
    Hp B w0 w (L.set i (.row e sz (.slice (some ⟨g, 0, .none⟩) k cap) k (xs.take (k * sz)))) := by
  have ho : w.ownsRow B e sz (.slice (some ⟨g, 0, .none⟩) n cap) n xs := h.ok _ (List.mem_of_getElem? hi)
  refine h.turn hi (r' := .row e sz (.slice (some ⟨g, 0, .none⟩) k cap) k (xs.take (k * sz))) ⟨rfl, rfl, rfl, Nat.le_refl _, fun _ _ _ => rfl⟩ ?_ (fun j hj => .inl hj)
  have hl := ho.1
  have hkz : k * sz ≤ n * sz := Nat.mul_le_mul_right _ hk
  refine ⟨by rw [List.length_take, hl, Nat.min_eq_left hkz], ?_⟩
  rcases ho.2 with ⟨h0, _⟩ | ⟨g', cap', cur, h0, h1, h2, h3, h4, h5, h6⟩
  · cases h0
  · cases h0
    exact .inr ⟨_, _, cur, rfl, h1, h2, by omega, h4, h5, by rw [← h6, List.take_take, Nat.min_eq_left hkz]⟩
end
theorem Ent.cut {w0 : World} {L : List Res} (i : Nat) {e : TypeId} {sz g n cap : Nat} {xs : List Value} (hi : L[i]? = some (.row e sz (.slice (some ⟨g, 0, .none⟩) n cap) n xs)) (k : Nat) (hk : k ≤ n) :
    Ent w0 L (L.set i (.row e sz (.slice (some ⟨g, 0, .none⟩) k cap) k (xs.take (k * sz)))) := Ent.mk fun w h => h.cut i hi k hk
section
variable {P : Program} {n : Nat} {w0 : World} {Q : Exit → Fm → List Res → Prop} {K : Fm → List Res → Prop} {F : Fm} {L : List Res} {m : Md} {Lw : List Res} {ops : Array Oper} {rest : List Oper}
  {d : Option Nat} {ty : TypeId} {pos : String} {aft : Array Edge}
theorem TSlice.elem {t e sz bytes : Nat} {z : Value} (T : TSlice P t e sz bytes z) : P.elem t = e := by simp [Program.elem, T.ty.und]
theorem TSlice.und' {t e sz bytes : Nat} {z : Value} (T : TSlice P t e sz bytes z) : P.underlying t = some (.slice (P.elem t)) := by rw [T.elem]; exact T.ty.und
theorem run_sl {t e sz bytes : Nat} {z : Value} (T : TSlice P t e sz bytes z) {ρ : Operand → Value} {x : Operand} {lo hi mx : Option Operand} {v u : Value} (hx : ρ x = v) (w : World) (dd : Option Nat) (p : String) (af : Array Edge) (g : Option (Nat × Bool))
    (h : (Instr.slice t v (lo.map ρ) (hi.map ρ) (mx.map ρ)).run P w = .ok u w) : (execOp ρ ⟨dd, .slice t x lo hi mx, ty, p, af, g⟩).run P w = .ok (.value u) w := by
  subst hx
  have := run_sliceAt_slice (P := P) (w := w) t (ρ x) (lo.map ρ) (hi.map ρ) (mx.map ρ) T.und'
  simp [execOp, this, h, Result.andThen]
theorem OKx_slH {t e sz bytes : Nat} {z : Value} [T : TSlice P t e sz bytes z] {x hi : Operand} {a : Addr} {len cap h : Nat} {k : IntKind} (hx : rv n F x = .slice (some a) len cap) (hh : rv n F hi = .int k (h : Int)) (h1 : h ≤ cap)
    (kk : OKx P n w0 m ops K rest (updo F d (.slice (some a) h cap)) L) : OKx P n w0 m ops K (⟨d, .slice t x none (some hi) none, ty, pos, aft, none⟩ :: rest) F L :=
  OKx_still (fun w _ _ _ _ _ => run_sl T hx w _ _ _ _ (by
    have := run_slice_h (P := P) (w := w) t (some a) len cap T.und' k (h : Int) (by omega) (by omega)
    rw [T.elem, T.size] at this
    simp only [Option.map_none, Option.map_some, hh, this, Result.andThen, sliced, Int.toNat_natCast, Nat.zero_mul, Nat.sub_zero, Addr.add, if_true]
    simp)) kk
theorem OKx_slL {t e sz bytes : Nat} {z : Value} [T : TSlice P t e sz bytes z] {x lo : Operand} {g o len cap l : Nat} {k : IntKind} (hx : rv n F x = .slice (some ⟨g, o, none⟩) len cap) (hl : rv n F lo = .int k (l : Int)) (h1 : l ≤ len)
    (kk : ∀ o', (l < cap → o' = o + l * sz) → OKx P n w0 m ops K rest (updo F d (.slice (some ⟨g, o', none⟩) (len - l) (cap - l))) L) : OKx P n w0 m ops K (⟨d, .slice t x (some lo) none none, ty, pos, aft, none⟩ :: rest) F L :=
  OKx_still (fun w _ _ _ _ _ => run_sl T hx w _ _ _ _ (by
    have := run_slice_l (P := P) (w := w) t (some (⟨g, o, none⟩ : Addr)) len cap T.und' k (l : Int) (by omega) (by omega)
    rw [T.elem, T.size] at this
    simp only [Option.map_none, Option.map_some, hl, this, Result.andThen, sliced, Int.toNat_natCast]
    have e : (if cap = l then (⟨g, o, none⟩ : Addr) else (⟨g, o, none⟩ : Addr).add (l * sz)) = ⟨g, if cap = l then o else o + l * sz, none⟩ := by
      split
      · rfl
      · rw [add_at]
    rw [← e]
    split <;> rfl)) (kk (if cap = l then o else o + l * sz) (fun h => by rw [if_neg (by omega)]))
theorem OKx_slLH {t e sz bytes : Nat} {z : Value} [T : TSlice P t e sz bytes z] {x lo hi : Operand} {g o len cap l h : Nat} {k k' : IntKind} (hx : rv n F x = .slice (some ⟨g, o, none⟩) len cap) (hl : rv n F lo = .int k (l : Int)) (hh : rv n F hi = .int k' (h : Int)) (h1 : l ≤ h) (h2 : h ≤ cap)
    (kk : ∀ o', (l < cap → o' = o + l * sz) → OKx P n w0 m ops K rest (updo F d (.slice (some ⟨g, o', none⟩) (h - l) (cap - l))) L) : OKx P n w0 m ops K (⟨d, .slice t x (some lo) (some hi) none, ty, pos, aft, none⟩ :: rest) F L :=
  OKx_still (fun w _ _ _ _ _ => run_sl T hx w _ _ _ _ (by
    have := run_slice_lh (P := P) (w := w) t (some (⟨g, o, none⟩ : Addr)) len cap T.und' k k' (l : Int) (h : Int) (by omega) (by omega) (by omega)
    rw [T.elem, T.size] at this
    simp only [Option.map_none, Option.map_some, hl, hh, this, Result.andThen, sliced, Int.toNat_natCast]
    have e : (if cap = l then (⟨g, o, none⟩ : Addr) else (⟨g, o, none⟩ : Addr).add (l * sz)) = ⟨g, if cap = l then o else o + l * sz, none⟩ := by
      split
      · rfl
      · rw [add_at]
    rw [← e]
    split <;> rfl)) (kk (if cap = l then o else o + l * sz) (fun h => by rw [if_neg (by omega)]))
theorem OKx_slLHM {t e sz bytes : Nat} {z : Value} [T : TSlice P t e sz bytes z] {x lo hi mx : Operand} {a : Option Addr} {len cap l h c : Nat} {k k' k2 : IntKind} (hx : rv n F x = .slice a len cap) (hl : rv n F lo = .int k (l : Int)) (hh : rv n F hi = .int k' (h : Int)) (hm : rv n F mx = .int k2 (c : Int)) (h1 : l ≤ h) (h2 : h ≤ c) (h3 : c ≤ cap)
    (kk : ∀ v, OKx P n w0 m ops K rest (updo F d v) L) : OKx P n w0 m ops K (⟨d, .slice t x (some lo) (some hi) (some mx), ty, pos, aft, none⟩ :: rest) F L :=
  OKx_still (fun w _ _ _ _ _ => run_sl T hx w _ _ _ _ (by
    have := run_slice_lhm (P := P) (w := w) t a len cap T.und' k k' k2 (l : Int) (h : Int) (c : Int) (by omega) (by omega) (by omega) (by omega)
    rw [T.elem, T.size] at this
    simp only [Option.map_some, hl, hh, hm, this, Result.andThen]; rfl)) (kk _)
theorem OKx_appRoom {s x : Operand} {t : TypeId} {e sz bytes : Nat} {z : Value} [T : TSlice P t e sz bytes z] [hE : Keeps w0 L Lw] (i : Nat) {g N c b o M k cap : Nat} {xs ys : List Value}
    (hs : rv n F s = .slice (some ⟨g, 0, none⟩) k cap) (hx : rv n F x = .slice (some ⟨b, o, none⟩) M c) (hi : L[i]? = some (.row e sz (.slice (some ⟨g, 0, none⟩) N cap) N xs)) (hl : ys.length = M * sz) (hy : ∀ w, Hp w0.heap.size w0 w L → ∀ j u, ys[j]? = some u → w.cell? ⟨b, o + j, none⟩ = some u) (h1 : ∀ u ∈ ys, u.oneCell' = true)
    (hk : k + M ≤ N) (hN : N ≤ cap)
    (kk : OKx P n w0 (.seq Lw) ops K rest (updo F d (.slice (some ⟨g, 0, none⟩) (k + M) cap)) (L.set i (.row e sz (.slice (some ⟨g, 0, none⟩) N cap) N (lays xs (k * sz) ys)))) :
    OKx P n w0 (.seq Lw) ops K (⟨d, .call { callee := .builtin .append, args := #[s, x], argTypes := #[t, t] }, ty, pos, aft, none⟩ :: rest) F L := by
  refine OKx_actW hE.ent fun w a hfr hp => wp_of_list (ops := ops) rfl ?_
  obtain ⟨i0, hi0, hz0, hz1, hz2⟩ := info_parts T.ty.inf
  obtain ⟨hc, hf, _, _⟩ := hp.rowAt i hi
  have ho : w.ownsRow w0.heap.size e sz (.slice (some ⟨g, 0, none⟩) N cap) N xs := hp.ok _ (List.mem_of_getElem? hi)
  have hxl := ho.1
  have hfit : k * sz + ys.length ≤ N * sz := by rw [hl, ← Nat.add_mul]; exact Nat.mul_le_mul_right _ hk
  refine wpList_plain rfl fun K' hK' => ?_
  have hrun := run_append_room_cells (P := P) (w := w) t ty e i0 T.ty.und hi0 g 0 k cap ⟨b, o, none⟩ M c ys (by rw [hz1]; exact hl) (fun j u hj => by rw [add_at]; exact hy w hp j u hj) h1 (by omega)
    (fun j hj => by rw [hz1, Nat.zero_add, hc _ (by omega), List.getElem?_eq_getElem (by omega)]; rfl) (fun j hj => hf _)
  unfold Oper.wp
  have e1 : a.eval s = .slice (some ⟨g, 0, none⟩) k cap := by rw [hfr.eval]; exact hs
  have e2 : a.eval x = .slice (some ⟨b, o, none⟩) M c := by rw [hfr.eval]; exact hx
  rw [hz1, Nat.zero_add] at hrun
  simp [execOp, resolve, invoke, builtin, e1, e2, hrun, Result.andThen]
  exact hK' _ _ ⟨rfl, kk.use _ _ (hfr.put d _) (Hp.setRowMany ys (k * sz) hp hi)⟩
theorem OKx_eqNilF {t ut e sz bytes : Nat} {z : Value} [T : TSlice P t e sz bytes z] {x y : Operand} {a : Addr} {k c : Nat} (hx : rv n F x = .slice (some a) k c) (hy : rv n F y = .slice none 0 0)
    (kk : OKx P n w0 m ops K rest (updo F d (.bool false)) L) : OKx P n w0 m ops K (⟨d, .binOp .eql t x y ut, ty, pos, aft, none⟩ :: rest) F L :=
  OKx_still (fun w _ _ _ _ _ => by
    have h := Lib.run_eql_slice_nil (P := P) w t e (some a) k c 0 0 T.ty.und
    have hg : (eqGuard .eql t x y (.slice (some a) k c) (.slice none 0 0)).run P w = .ok () w := by simp [eqGuard]
    simp [execOp, hx, hy, Sem.run_bind, hg, h, Result.andThen]) kk
theorem zero_one {z : Array Value} (h : ∀ v ∈ z.toList, v.oneCell' = true) (hz : 0 < z.size) (k : Nat) : ∀ v ∈ (Builtin.zeroCells z k).toList, v.oneCell' = true := by
  intro v hv
  simp only [Builtin.zeroCells, Array.toList_map, Array.toList_range, List.mem_map, List.mem_range] at hv
  obtain ⟨i, hi, rfl⟩ := hv
  have : i % z.size < z.size := Nat.mod_lt _ hz
  refine h _ ?_
  simp [this]
theorem OKx_clear {t e sz bytes : Nat} {z : Value} [T : TSlice P t e sz bytes z] [hE : Keeps w0 L Lw] (i : Nat) {x : Operand} {g o k c N cap : Nat} {xs : List Value} (hx : rv n F x = .slice (some ⟨g, o, none⟩) k c) (hi : L[i]? = some (.row e sz (.slice (some ⟨g, 0, none⟩) N cap) N xs))
    (hz : ∀ w, (zeroValue e).run P w = .ok z w) (h1 : ∀ v ∈ z.cells.toList, v.oneCell' = true) (hk : 0 < k) (ho : o + k * sz ≤ N * sz)
    (kk : ∀ zs, zs.length = k * sz → OKx P n w0 (.seq Lw) ops K rest (updo F d (.tuple #[])) (L.set i (.row e sz (.slice (some ⟨g, 0, none⟩) N cap) N (lays xs o zs)))) :
    OKx P n w0 (.seq Lw) ops K (⟨d, .call { callee := .builtin .clear, args := #[x], argTypes := #[t] }, ty, pos, aft, none⟩ :: rest) F L := by
  refine OKx_actW hE.ent fun w a hfr hp => ?_
  obtain ⟨hc, hf, _, _⟩ := hp.rowAt i hi
  have hown : w.ownsRow w0.heap.size e sz (.slice (some ⟨g, 0, none⟩) N cap) N xs := hp.ok _ (List.mem_of_getElem? hi)
  have hxl := hown.1
  have hzs : z.cells.size = sz := T.ty.zs
  have hl : (Builtin.zeroCells z.cells k).toList.length = k * sz := by rw [Array.length_toList, size_zeroCells, hzs]
  have hst := run_storeCells_cells (P := P) g o (Builtin.zeroCells z.cells k).toList 0 w (fun j hj => by rw [Nat.add_zero, hc _ (by omega), List.getElem?_eq_getElem (by omega)]; rfl) (fun j hj => hf _) (zero_one h1 (by rw [hzs]; exact T.ty.pos) k)
  simp only [Nat.add_zero] at hst
  obtain ⟨k', rfl⟩ : ∃ m, k = m + 1 := ⟨k - 1, by omega⟩
  have hrun : (Builtin.clear_ #[t] ty #[.slice (some ⟨g, o, none⟩) (k' + 1) c]).run P w = .ok (.tuple #[]) (w.setCells g o (Builtin.zeroCells z.cells (k' + 1)).toList) := by
    simp [Builtin.clear_, run_underlying T.ty.und, hz, hst]
  have e1 : a.eval x = .slice (some ⟨g, o, none⟩) (k' + 1) c := by rw [hfr.eval]; exact hx
  unfold Oper.wp
  simp [execOp, resolve, invoke, builtin, e1, hrun, Result.andThen]
  exact (kk _ hl).use _ _ (hfr.put d _) (Hp.setRowMany _ o hp hi)
theorem OKx_remN {t ut : TypeId} {x y : Operand} {a b : Nat} (hx : rv n F x = .int .i64 (a : Int)) (hy : rv n F y = .int .i64 (b : Int)) (hb : 0 < b) (ha : a ≤ 9223372036854775807)
    (k : OKx P n w0 m ops K rest (updo F d (.int .i64 ((a % b : Nat) : Int))) L) : OKx P n w0 m ops K (⟨d, .binOp .rem t x y ut, ty, pos, aft, none⟩ :: rest) F L :=
  OKx_still (fun w _ _ _ _ _ => run_int .rem t x y .i64 a b (by decide) w ut _ _ _ _ _ hx hy (by
    have hb' : (b : Int) ≠ 0 := by omega
    have e : Int.tmod (a : Int) (b : Int) = ((a % b : Nat) : Int) := by rw [Int.tmod_eq_emod_of_nonneg (by omega)]; simp
    have hlt : a % b ≤ a := Nat.mod_le _ _
    have hw : IntKind.i64.wrap ((a % b : Nat) : Int) = ((a % b : Nat) : Int) := wrapI _ ⟨by omega, by omega⟩
    have hb0 : ¬ b = 0 := by omega
    simp only [Op.intDiv]
    simp [hb0, e]
    first | done | exact hw | (rw [← Int.natCast_emod]; exact hw))) k
theorem OKx_conv {src dst : TypeId} {x : Operand} {k : IntKind} {a : Int} (hx : rv n F x = .int k a) (hs : (P.underlying src).isSome = true) (hd : P.underlying dst = some (.int .i64)) (h1 : -9223372036854775808 ≤ a) (h2 : a ≤ 9223372036854775807)
    (kk : OKx P n w0 m ops K rest (updo F d (.int .i64 a)) L) : OKx P n w0 m ops K (⟨d, .convert src dst x, ty, pos, aft, none⟩ :: rest) F L :=
  OKx_still (fun w _ _ _ _ _ => by
    have hk : P.intKind dst = .i64 := by simp [Program.intKind, hd]
    have h := run_convert_int (P := P) (w := w) src dst k a hs (by rw [hk]; exact hd)
    have hw : IntKind.i64.wrap a = a := wrapI _ ⟨h1, h2⟩
    rw [hk, hw] at h
    simp [execOp, hx, h, Result.andThen]) kk
end
end Go.Proofs.YtpfemholpigdeaaDoor
namespace Go.Proofs.YtpfemholpigdeaaDoor
instance : TOne Tryd.prog 1 (.nilFunc) := ⟨fun w => by kernel_rfl, fun w => by kernel_rfl, fun w => by kernel_rfl, rfl⟩
instance : TOne Tryd.prog 2 (.int .i64 0) := ⟨fun w => by kernel_rfl, fun w => by kernel_rfl, fun w => by kernel_rfl, rfl⟩
instance : TOne Tryd.prog 3 (.int .i64 0) := ⟨fun w => by kernel_rfl, fun w => by kernel_rfl, fun w => by kernel_rfl, rfl⟩
instance : TOne Tryd.prog 4 (.bool false) := ⟨fun w => by kernel_rfl, fun w => by kernel_rfl, fun w => by kernel_rfl, rfl⟩
instance : TOne Tryd.prog 5 (.int .u8 0) := ⟨fun w => by kernel_rfl, fun w => by kernel_rfl, fun w => by kernel_rfl, rfl⟩
instance : TOne Tryd.prog 9 (.string ⟨#[]⟩) := ⟨fun w => by kernel_rfl, fun w => by kernel_rfl, fun w => by kernel_rfl, rfl⟩
instance : TStr Tryd.prog 9 := ⟨by kernel_rfl⟩
instance : TOne Tryd.prog 12 (.int .u64 0) := ⟨fun w => by kernel_rfl, fun w => by kernel_rfl, fun w => by kernel_rfl, rfl⟩
instance : TAgg Tryd.prog 13 2 [.string ⟨#[]⟩, .int .u64 0] := ⟨fun w => by kernel_rfl, fun w => by kernel_rfl, fun w => by kernel_rfl⟩
instance : TFld Tryd.prog 13 0 0 9 := ⟨by kernel_rfl, by kernel_rfl⟩
instance : TFld Tryd.prog 13 1 1 12 := ⟨by kernel_rfl, by kernel_rfl⟩
instance : TStruct Tryd.prog 13 [(0, 1), (1, 1)] := ⟨by kernel_rfl⟩
instance : TOne Tryd.prog 20 (.nilIface) := ⟨fun w => by kernel_rfl, fun w => by kernel_rfl, fun w => by kernel_rfl, rfl⟩
instance : TOne Tryd.prog 21 (.int .i32 0) := ⟨fun w => by kernel_rfl, fun w => by kernel_rfl, fun w => by kernel_rfl, rfl⟩
instance : TOne Tryd.prog 22 (.slice none 0 0) := ⟨fun w => by kernel_rfl, fun w => by kernel_rfl, fun w => by kernel_rfl, rfl⟩
instance : TSlice Tryd.prog 22 9 1 16 (.string ⟨#[]⟩) := ⟨⟨by kernel_rfl, by kernel_rfl, rfl, by decide⟩⟩
instance : TOne Tryd.prog 23 (.slice none 0 0) := ⟨fun w => by kernel_rfl, fun w => by kernel_rfl, fun w => by kernel_rfl, rfl⟩
instance : TSlice Tryd.prog 23 4 1 1 (.bool false) := ⟨⟨by kernel_rfl, by kernel_rfl, rfl, by decide⟩⟩
instance : TOne Tryd.prog 24 (.slice none 0 0) := ⟨fun w => by kernel_rfl, fun w => by kernel_rfl, fun w => by kernel_rfl, rfl⟩
instance : TSlice Tryd.prog 24 38 1 24 (.slice none 0 0) := ⟨⟨by kernel_rfl, by kernel_rfl, rfl, by decide⟩⟩
instance : TAgg Tryd.prog 25 3 [.slice none 0 0, .slice none 0 0, .slice none 0 0] := ⟨fun w => by kernel_rfl, fun w => by kernel_rfl, fun w => by kernel_rfl⟩
instance : TFld Tryd.prog 25 0 0 22 := ⟨by kernel_rfl, by kernel_rfl⟩
instance : TFld Tryd.prog 25 1 1 23 := ⟨by kernel_rfl, by kernel_rfl⟩
instance : TFld Tryd.prog 25 2 2 24 := ⟨by kernel_rfl, by kernel_rfl⟩
instance : TStruct Tryd.prog 25 [(0, 1), (1, 1), (2, 1)] := ⟨by kernel_rfl⟩
instance : TAgg Tryd.prog 26 3 [.slice none 0 0, .slice none 0 0, .slice none 0 0] := ⟨fun w => by kernel_rfl, fun w => by kernel_rfl, fun w => by kernel_rfl⟩
instance : TFld Tryd.prog 26 0 0 22 := ⟨by kernel_rfl, by kernel_rfl⟩
instance : TFld Tryd.prog 26 1 1 23 := ⟨by kernel_rfl, by kernel_rfl⟩
instance : TFld Tryd.prog 26 2 2 24 := ⟨by kernel_rfl, by kernel_rfl⟩
instance : TStruct Tryd.prog 26 [(0, 1), (1, 1), (2, 1)] := ⟨by kernel_rfl⟩
instance : TOne Tryd.prog 27 (.nilFunc) := ⟨fun w => by kernel_rfl, fun w => by kernel_rfl, fun w => by kernel_rfl, rfl⟩
instance : TOne Tryd.prog 28 (.int .i64 0) := ⟨fun w => by kernel_rfl, fun w => by kernel_rfl, fun w => by kernel_rfl, rfl⟩
instance : TOne Tryd.prog 30 (.nilFunc) := ⟨fun w => by kernel_rfl, fun w => by kernel_rfl, fun w => by kernel_rfl, rfl⟩
instance : TOne Tryd.prog 32 (.nilFunc) := ⟨fun w => by kernel_rfl, fun w => by kernel_rfl, fun w => by kernel_rfl, rfl⟩
instance : TOne Tryd.prog 33 (.nilFunc) := ⟨fun w => by kernel_rfl, fun w => by kernel_rfl, fun w => by kernel_rfl, rfl⟩
instance : TOne Tryd.prog 34 (.nilFunc) := ⟨fun w => by kernel_rfl, fun w => by kernel_rfl, fun w => by kernel_rfl, rfl⟩
instance : TOne Tryd.prog 35 (.nilFunc) := ⟨fun w => by kernel_rfl, fun w => by kernel_rfl, fun w => by kernel_rfl, rfl⟩
instance : TOne Tryd.prog 36 (.nilFunc) := ⟨fun w => by kernel_rfl, fun w => by kernel_rfl, fun w => by kernel_rfl, rfl⟩
instance : TOne Tryd.prog 37 (.nilFunc) := ⟨fun w => by kernel_rfl, fun w => by kernel_rfl, fun w => by kernel_rfl, rfl⟩
instance : TOne Tryd.prog 38 (.slice none 0 0) := ⟨fun w => by kernel_rfl, fun w => by kernel_rfl, fun w => by kernel_rfl, rfl⟩
instance : TSlice Tryd.prog 38 3 1 8 (.int .i64 0) := ⟨⟨by kernel_rfl, by kernel_rfl, rfl, by decide⟩⟩
instance : TOne Tryd.prog 40 (.nilFunc) := ⟨fun w => by kernel_rfl, fun w => by kernel_rfl, fun w => by kernel_rfl, rfl⟩
instance : TOne Tryd.prog 41 (.nilFunc) := ⟨fun w => by kernel_rfl, fun w => by kernel_rfl, fun w => by kernel_rfl, rfl⟩
instance : TOne Tryd.prog 42 (.nilFunc) := ⟨fun w => by kernel_rfl, fun w => by kernel_rfl, fun w => by kernel_rfl, rfl⟩
instance : TOne Tryd.prog 43 (.nilFunc) := ⟨fun w => by kernel_rfl, fun w => by kernel_rfl, fun w => by kernel_rfl, rfl⟩
instance : TOne Tryd.prog 44 (.nilFunc) := ⟨fun w => by kernel_rfl, fun w => by kernel_rfl, fun w => by kernel_rfl, rfl⟩
instance : TOne Tryd.prog 45 (.nilFunc) := ⟨fun w => by kernel_rfl, fun w => by kernel_rfl, fun w => by kernel_rfl, rfl⟩
instance : TOne Tryd.prog 46 (.nilFunc) := ⟨fun w => by kernel_rfl, fun w => by kernel_rfl, fun w => by kernel_rfl, rfl⟩
instance : TOne Tryd.prog 47 (.nilFunc) := ⟨fun w => by kernel_rfl, fun w => by kernel_rfl, fun w => by kernel_rfl, rfl⟩
instance : TOne Tryd.prog 48 (.nilFunc) := ⟨fun w => by kernel_rfl, fun w => by kernel_rfl, fun w => by kernel_rfl, rfl⟩
instance : TOne Tryd.prog 49 (.nilFunc) := ⟨fun w => by kernel_rfl, fun w => by kernel_rfl, fun w => by kernel_rfl, rfl⟩
instance : TOne Tryd.prog 50 (.nilFunc) := ⟨fun w => by kernel_rfl, fun w => by kernel_rfl, fun w => by kernel_rfl, rfl⟩
instance : TOne Tryd.prog 51 (.nilFunc) := ⟨fun w => by kernel_rfl, fun w => by kernel_rfl, fun w => by kernel_rfl, rfl⟩
instance : TOne Tryd.prog 52 (.nilFunc) := ⟨fun w => by kernel_rfl, fun w => by kernel_rfl, fun w => by kernel_rfl, rfl⟩
instance : TOne Tryd.prog 53 (.nilFunc) := ⟨fun w => by kernel_rfl, fun w => by kernel_rfl, fun w => by kernel_rfl, rfl⟩
instance : TOne Tryd.prog 54 (.slice none 0 0) := ⟨fun w => by kernel_rfl, fun w => by kernel_rfl, fun w => by kernel_rfl, rfl⟩
instance : TSlice Tryd.prog 54 62 3 24 (.agg #[.int .i64 0, .int .i64 0, .int .i64 0]) := ⟨⟨by kernel_rfl, by kernel_rfl, rfl, by decide⟩⟩
instance : TOne Tryd.prog 55 (.nilFunc) := ⟨fun w => by kernel_rfl, fun w => by kernel_rfl, fun w => by kernel_rfl, rfl⟩
instance : TOne Tryd.prog 56 (.nilFunc) := ⟨fun w => by kernel_rfl, fun w => by kernel_rfl, fun w => by kernel_rfl, rfl⟩
instance : TOne Tryd.prog 57 (.nilFunc) := ⟨fun w => by kernel_rfl, fun w => by kernel_rfl, fun w => by kernel_rfl, rfl⟩
instance : TOne Tryd.prog 59 (.nilFunc) := ⟨fun w => by kernel_rfl, fun w => by kernel_rfl, fun w => by kernel_rfl, rfl⟩
instance : TOne Tryd.prog 60 (.nilFunc) := ⟨fun w => by kernel_rfl, fun w => by kernel_rfl, fun w => by kernel_rfl, rfl⟩
instance : TAgg Tryd.prog 61 3 [.int .i64 0, .int .i64 0, .int .i64 0] := ⟨fun w => by kernel_rfl, fun w => by kernel_rfl, fun w => by kernel_rfl⟩
instance : TFld Tryd.prog 61 0 0 3 := ⟨by kernel_rfl, by kernel_rfl⟩
instance : TFld Tryd.prog 61 1 1 3 := ⟨by kernel_rfl, by kernel_rfl⟩
instance : TFld Tryd.prog 61 2 2 3 := ⟨by kernel_rfl, by kernel_rfl⟩
instance : TStruct Tryd.prog 61 [(0, 1), (1, 1), (2, 1)] := ⟨by kernel_rfl⟩
instance : TAgg Tryd.prog 62 3 [.int .i64 0, .int .i64 0, .int .i64 0] := ⟨fun w => by kernel_rfl, fun w => by kernel_rfl, fun w => by kernel_rfl⟩
instance : TFld Tryd.prog 62 0 0 3 := ⟨by kernel_rfl, by kernel_rfl⟩
instance : TFld Tryd.prog 62 1 1 3 := ⟨by kernel_rfl, by kernel_rfl⟩
instance : TFld Tryd.prog 62 2 2 3 := ⟨by kernel_rfl, by kernel_rfl⟩
instance : TStruct Tryd.prog 62 [(0, 1), (1, 1), (2, 1)] := ⟨by kernel_rfl⟩
instance : TOne Tryd.prog 63 (.nilFunc) := ⟨fun w => by kernel_rfl, fun w => by kernel_rfl, fun w => by kernel_rfl, rfl⟩
instance : TOne Tryd.prog 64 (.slice none 0 0) := ⟨fun w => by kernel_rfl, fun w => by kernel_rfl, fun w => by kernel_rfl, rfl⟩
instance : TSlice Tryd.prog 64 22 1 24 (.slice none 0 0) := ⟨⟨by kernel_rfl, by kernel_rfl, rfl, by decide⟩⟩
instance : TOne Tryd.prog 65 (.map none) := ⟨fun w => by kernel_rfl, fun w => by kernel_rfl, fun w => by kernel_rfl, rfl⟩
instance : TOne Tryd.prog 66 (.nilFunc) := ⟨fun w => by kernel_rfl, fun w => by kernel_rfl, fun w => by kernel_rfl, rfl⟩
instance : TOne Tryd.prog 67 (.nilFunc) := ⟨fun w => by kernel_rfl, fun w => by kernel_rfl, fun w => by kernel_rfl, rfl⟩
instance : TOne Tryd.prog 68 (.nilFunc) := ⟨fun w => by kernel_rfl, fun w => by kernel_rfl, fun w => by kernel_rfl, rfl⟩
instance : TOne Tryd.prog 69 (.nilFunc) := ⟨fun w => by kernel_rfl, fun w => by kernel_rfl, fun w => by kernel_rfl, rfl⟩
instance : TOne Tryd.prog 71 (.pointer none) := ⟨fun w => by kernel_rfl, fun w => by kernel_rfl, fun w => by kernel_rfl, rfl⟩
instance : TOne Tryd.prog 72 (.slice none 0 0) := ⟨fun w => by kernel_rfl, fun w => by kernel_rfl, fun w => by kernel_rfl, rfl⟩
instance : TSlice Tryd.prog 72 5 1 1 (.int .u8 0) := ⟨⟨by kernel_rfl, by kernel_rfl, rfl, by decide⟩⟩
instance : TAgg Tryd.prog 73 2 [.pointer none, .slice none 0 0] := ⟨fun w => by kernel_rfl, fun w => by kernel_rfl, fun w => by kernel_rfl⟩
instance : TFld Tryd.prog 73 0 0 71 := ⟨by kernel_rfl, by kernel_rfl⟩
instance : TFld Tryd.prog 73 1 1 72 := ⟨by kernel_rfl, by kernel_rfl⟩
instance : TStruct Tryd.prog 73 [(0, 1), (1, 1)] := ⟨by kernel_rfl⟩
instance : TAgg Tryd.prog 74 2 [.pointer none, .slice none 0 0] := ⟨fun w => by kernel_rfl, fun w => by kernel_rfl, fun w => by kernel_rfl⟩
instance : TFld Tryd.prog 74 0 0 71 := ⟨by kernel_rfl, by kernel_rfl⟩
instance : TFld Tryd.prog 74 1 1 72 := ⟨by kernel_rfl, by kernel_rfl⟩
instance : TStruct Tryd.prog 74 [(0, 1), (1, 1)] := ⟨by kernel_rfl⟩
instance : TOne Tryd.prog 75 (.nilIface) := ⟨fun w => by kernel_rfl, fun w => by kernel_rfl, fun w => by kernel_rfl, rfl⟩
instance : TOne Tryd.prog 76 (.nilIface) := ⟨fun w => by kernel_rfl, fun w => by kernel_rfl, fun w => by kernel_rfl, rfl⟩
instance : TOne Tryd.prog 78 (.nilFunc) := ⟨fun w => by kernel_rfl, fun w => by kernel_rfl, fun w => by kernel_rfl, rfl⟩
instance : TOne Tryd.prog 79 (.nilFunc) := ⟨fun w => by kernel_rfl, fun w => by kernel_rfl, fun w => by kernel_rfl, rfl⟩
instance : TOne Tryd.prog 80 (.nilFunc) := ⟨fun w => by kernel_rfl, fun w => by kernel_rfl, fun w => by kernel_rfl, rfl⟩
instance : TOne Tryd.prog 81 (.nilFunc) := ⟨fun w => by kernel_rfl, fun w => by kernel_rfl, fun w => by kernel_rfl, rfl⟩
instance : TOne Tryd.prog 82 (.nilFunc) := ⟨fun w => by kernel_rfl, fun w => by kernel_rfl, fun w => by kernel_rfl, rfl⟩
instance : TOne Tryd.prog 83 (.nilFunc) := ⟨fun w => by kernel_rfl, fun w => by kernel_rfl, fun w => by kernel_rfl, rfl⟩
instance : TOne Tryd.prog 84 (.nilFunc) := ⟨fun w => by kernel_rfl, fun w => by kernel_rfl, fun w => by kernel_rfl, rfl⟩
instance : TOne Tryd.prog 85 (.nilFunc) := ⟨fun w => by kernel_rfl, fun w => by kernel_rfl, fun w => by kernel_rfl, rfl⟩
instance : TOne Tryd.prog 86 (.nilFunc) := ⟨fun w => by kernel_rfl, fun w => by kernel_rfl, fun w => by kernel_rfl, rfl⟩
instance : TOne Tryd.prog 87 (.nilFunc) := ⟨fun w => by kernel_rfl, fun w => by kernel_rfl, fun w => by kernel_rfl, rfl⟩
instance : TOne Tryd.prog 88 (.nilFunc) := ⟨fun w => by kernel_rfl, fun w => by kernel_rfl, fun w => by kernel_rfl, rfl⟩
instance : TOne Tryd.prog 89 (.nilFunc) := ⟨fun w => by kernel_rfl, fun w => by kernel_rfl, fun w => by kernel_rfl, rfl⟩
instance : TOne Tryd.prog 90 (.nilFunc) := ⟨fun w => by kernel_rfl, fun w => by kernel_rfl, fun w => by kernel_rfl, rfl⟩
instance : TAgg Tryd.prog 91 64 [.bool false, .bool false, .bool false, .bool false, .bool false, .bool false, .bool false, .bool false, .bool false, .bool false, .bool false, .bool false, .bool false, .bool false, .bool false, .bool false, .bool false, .bool false, .bool false, .bool false, .bool false, .bool false, .bool false, .bool false, .bool false, .bool false, .bool false, .bool false, .bool false, .bool false, .bool false, .bool false, .bool false, .bool false, .bool false, .bool false, .bool false, .bool false, .bool false, .bool false, .bool false, .bool false, .bool false, .bool false, .bool false, .bool false, .bool false, .bool false, .bool false, .bool false, .bool false, .bool false, .bool false, .bool false, .bool false, .bool false, .bool false, .bool false, .bool false, .bool false, .bool false, .bool false, .bool false, .bool false] := ⟨fun w => by kernel_rfl, fun w => by kernel_rfl, fun w => by kernel_rfl⟩
instance : TOne Tryd.prog 92 (.nilFunc) := ⟨fun w => by kernel_rfl, fun w => by kernel_rfl, fun w => by kernel_rfl, rfl⟩
instance : TOne Tryd.prog 93 (.nilFunc) := ⟨fun w => by kernel_rfl, fun w => by kernel_rfl, fun w => by kernel_rfl, rfl⟩
instance : TOne Tryd.prog 94 (.nilFunc) := ⟨fun w => by kernel_rfl, fun w => by kernel_rfl, fun w => by kernel_rfl, rfl⟩
instance : TOne Tryd.prog 95 (.nilFunc) := ⟨fun w => by kernel_rfl, fun w => by kernel_rfl, fun w => by kernel_rfl, rfl⟩
instance : TOne Tryd.prog 96 (.nilFunc) := ⟨fun w => by kernel_rfl, fun w => by kernel_rfl, fun w => by kernel_rfl, rfl⟩
instance : TOne Tryd.prog 97 (.int .u64 0) := ⟨fun w => by kernel_rfl, fun w => by kernel_rfl, fun w => by kernel_rfl, rfl⟩
instance : TOne Tryd.prog 99 (.nilFunc) := ⟨fun w => by kernel_rfl, fun w => by kernel_rfl, fun w => by kernel_rfl, rfl⟩
instance : TOne Tryd.prog 101 (.nilFunc) := ⟨fun w => by kernel_rfl, fun w => by kernel_rfl, fun w => by kernel_rfl, rfl⟩
instance : TOne Tryd.prog 103 (.nilFunc) := ⟨fun w => by kernel_rfl, fun w => by kernel_rfl, fun w => by kernel_rfl, rfl⟩
instance : TOne Tryd.prog 104 (.nilFunc) := ⟨fun w => by kernel_rfl, fun w => by kernel_rfl, fun w => by kernel_rfl, rfl⟩
instance : TOne Tryd.prog 106 (.nilFunc) := ⟨fun w => by kernel_rfl, fun w => by kernel_rfl, fun w => by kernel_rfl, rfl⟩
instance : TOne Tryd.prog 107 (.nilFunc) := ⟨fun w => by kernel_rfl, fun w => by kernel_rfl, fun w => by kernel_rfl, rfl⟩
instance : TOne Tryd.prog 108 (.nilFunc) := ⟨fun w => by kernel_rfl, fun w => by kernel_rfl, fun w => by kernel_rfl, rfl⟩
instance : TOne Tryd.prog 109 (.nilFunc) := ⟨fun w => by kernel_rfl, fun w => by kernel_rfl, fun w => by kernel_rfl, rfl⟩
instance : TOne Tryd.prog 110 (.pointer none) := ⟨fun w => by kernel_rfl, fun w => by kernel_rfl, fun w => by kernel_rfl, rfl⟩
instance : TOne Tryd.prog 111 (.nilFunc) := ⟨fun w => by kernel_rfl, fun w => by kernel_rfl, fun w => by kernel_rfl, rfl⟩
instance : TOne Tryd.prog 112 (.nilFunc) := ⟨fun w => by kernel_rfl, fun w => by kernel_rfl, fun w => by kernel_rfl, rfl⟩
instance : TOne Tryd.prog 113 (.int .i64 0) := ⟨fun w => by kernel_rfl, fun w => by kernel_rfl, fun w => by kernel_rfl, rfl⟩
instance : TOne Tryd.prog 115 (.nilFunc) := ⟨fun w => by kernel_rfl, fun w => by kernel_rfl, fun w => by kernel_rfl, rfl⟩
instance : TOne Tryd.prog 116 (.nilFunc) := ⟨fun w => by kernel_rfl, fun w => by kernel_rfl, fun w => by kernel_rfl, rfl⟩
instance : TOne Tryd.prog 117 (.nilFunc) := ⟨fun w => by kernel_rfl, fun w => by kernel_rfl, fun w => by kernel_rfl, rfl⟩
instance : TOne Tryd.prog 118 (.nilFunc) := ⟨fun w => by kernel_rfl, fun w => by kernel_rfl, fun w => by kernel_rfl, rfl⟩
instance : TOne Tryd.prog 119 (.nilFunc) := ⟨fun w => by kernel_rfl, fun w => by kernel_rfl, fun w => by kernel_rfl, rfl⟩
instance : TOne Tryd.prog 120 (.nilFunc) := ⟨fun w => by kernel_rfl, fun w => by kernel_rfl, fun w => by kernel_rfl, rfl⟩
instance : TOne Tryd.prog 121 (.int .u32 0) := ⟨fun w => by kernel_rfl, fun w => by kernel_rfl, fun w => by kernel_rfl, rfl⟩
instance : TOne Tryd.prog 122 (.nilFunc) := ⟨fun w => by kernel_rfl, fun w => by kernel_rfl, fun w => by kernel_rfl, rfl⟩
instance : TOne Tryd.prog 123 (.int .u64 0) := ⟨fun w => by kernel_rfl, fun w => by kernel_rfl, fun w => by kernel_rfl, rfl⟩
instance : TOne Tryd.prog 125 (.nilFunc) := ⟨fun w => by kernel_rfl, fun w => by kernel_rfl, fun w => by kernel_rfl, rfl⟩
instance : TOne Tryd.prog 126 (.map none) := ⟨fun w => by kernel_rfl, fun w => by kernel_rfl, fun w => by kernel_rfl, rfl⟩
instance : TOne Tryd.prog 127 (.map none) := ⟨fun w => by kernel_rfl, fun w => by kernel_rfl, fun w => by kernel_rfl, rfl⟩
instance : TOne Tryd.prog 128 (.nilFunc) := ⟨fun w => by kernel_rfl, fun w => by kernel_rfl, fun w => by kernel_rfl, rfl⟩
instance : TOne Tryd.prog 129 (.nilFunc) := ⟨fun w => by kernel_rfl, fun w => by kernel_rfl, fun w => by kernel_rfl, rfl⟩
instance : TOne Tryd.prog 132 (.int .u64 0) := ⟨fun w => by kernel_rfl, fun w => by kernel_rfl, fun w => by kernel_rfl, rfl⟩
instance : TOne Tryd.prog 133 (.nilFunc) := ⟨fun w => by kernel_rfl, fun w => by kernel_rfl, fun w => by kernel_rfl, rfl⟩
instance : TOne Tryd.prog 134 (.nilFunc) := ⟨fun w => by kernel_rfl, fun w => by kernel_rfl, fun w => by kernel_rfl, rfl⟩
instance : TOne Tryd.prog 135 (.nilFunc) := ⟨fun w => by kernel_rfl, fun w => by kernel_rfl, fun w => by kernel_rfl, rfl⟩
instance : TOne Tryd.prog 136 (.pointer none) := ⟨fun w => by kernel_rfl, fun w => by kernel_rfl, fun w => by kernel_rfl, rfl⟩
instance : TOne Tryd.prog 137 (.nilFunc) := ⟨fun w => by kernel_rfl, fun w => by kernel_rfl, fun w => by kernel_rfl, rfl⟩
instance : TOne Tryd.prog 138 (.nilFunc) := ⟨fun w => by kernel_rfl, fun w => by kernel_rfl, fun w => by kernel_rfl, rfl⟩
instance : TOne Tryd.prog 140 (.nilFunc) := ⟨fun w => by kernel_rfl, fun w => by kernel_rfl, fun w => by kernel_rfl, rfl⟩
instance : TOne Tryd.prog 141 (.nilFunc) := ⟨fun w => by kernel_rfl, fun w => by kernel_rfl, fun w => by kernel_rfl, rfl⟩
instance : TOne Tryd.prog 142 (.nilFunc) := ⟨fun w => by kernel_rfl, fun w => by kernel_rfl, fun w => by kernel_rfl, rfl⟩
instance : TOne Tryd.prog 143 (.nilFunc) := ⟨fun w => by kernel_rfl, fun w => by kernel_rfl, fun w => by kernel_rfl, rfl⟩
instance : TOne Tryd.prog 145 (.nilFunc) := ⟨fun w => by kernel_rfl, fun w => by kernel_rfl, fun w => by kernel_rfl, rfl⟩
instance : TOne Tryd.prog 146 (.pointer none) := ⟨fun w => by kernel_rfl, fun w => by kernel_rfl, fun w => by kernel_rfl, rfl⟩
instance : TOne Tryd.prog 148 (.nilFunc) := ⟨fun w => by kernel_rfl, fun w => by kernel_rfl, fun w => by kernel_rfl, rfl⟩
instance : TOne Tryd.prog 149 (.nilFunc) := ⟨fun w => by kernel_rfl, fun w => by kernel_rfl, fun w => by kernel_rfl, rfl⟩
instance : TOne Tryd.prog 151 (.nilFunc) := ⟨fun w => by kernel_rfl, fun w => by kernel_rfl, fun w => by kernel_rfl, rfl⟩
instance : TOne Tryd.prog 153 (.nilFunc) := ⟨fun w => by kernel_rfl, fun w => by kernel_rfl, fun w => by kernel_rfl, rfl⟩
instance : TOne Tryd.prog 154 (.nilFunc) := ⟨fun w => by kernel_rfl, fun w => by kernel_rfl, fun w => by kernel_rfl, rfl⟩
instance : TOne Tryd.prog 155 (.nilFunc) := ⟨fun w => by kernel_rfl, fun w => by kernel_rfl, fun w => by kernel_rfl, rfl⟩
instance : TAgg Tryd.prog 157 2 [.int .u8 0, .int .u8 0] := ⟨fun w => by kernel_rfl, fun w => by kernel_rfl, fun w => by kernel_rfl⟩
instance : TFld Tryd.prog 157 0 0 5 := ⟨by kernel_rfl, by kernel_rfl⟩
instance : TFld Tryd.prog 157 1 1 5 := ⟨by kernel_rfl, by kernel_rfl⟩
instance : TStruct Tryd.prog 157 [(0, 1), (1, 1)] := ⟨by kernel_rfl⟩
instance : TAgg Tryd.prog 158 2 [.int .u8 0, .int .u8 0] := ⟨fun w => by kernel_rfl, fun w => by kernel_rfl, fun w => by kernel_rfl⟩
instance : TFld Tryd.prog 158 0 0 5 := ⟨by kernel_rfl, by kernel_rfl⟩
instance : TFld Tryd.prog 158 1 1 5 := ⟨by kernel_rfl, by kernel_rfl⟩
instance : TStruct Tryd.prog 158 [(0, 1), (1, 1)] := ⟨by kernel_rfl⟩
instance : TAgg Tryd.prog 159 32 [.int .u8 0, .int .u8 0, .int .u8 0, .int .u8 0, .int .u8 0, .int .u8 0, .int .u8 0, .int .u8 0, .int .u8 0, .int .u8 0, .int .u8 0, .int .u8 0, .int .u8 0, .int .u8 0, .int .u8 0, .int .u8 0, .int .u8 0, .int .u8 0, .int .u8 0, .int .u8 0, .int .u8 0, .int .u8 0, .int .u8 0, .int .u8 0, .int .u8 0, .int .u8 0, .int .u8 0, .int .u8 0, .int .u8 0, .int .u8 0, .int .u8 0, .int .u8 0] := ⟨fun w => by kernel_rfl, fun w => by kernel_rfl, fun w => by kernel_rfl⟩
end Go.Proofs.YtpfemholpigdeaaDoor
namespace Go.Proofs.YtpfemholpigdeaaDoor
open Go.RowKit
theorem str_beq (a b : ByteArray) : (a.toList == b.toList) = true ↔ a = b := by
  rw [beq_iff_eq, ByteArray.toList_eq, ByteArray.toList_eq]
  exact ⟨fun h => Go.WideShapes.bytes_inj h, fun h => by rw [h]⟩
theorem str_bne (a b : ByteArray) : (a.toList == b.toList) = false ↔ a ≠ b := by
  rw [← Bool.not_eq_true, str_beq]
set_option maxHeartbeats 1000000 in
theorem place_any (v : Value) (xs : List ByteArray) (s : ByteArray) (w : World) (h : Strs w v xs) :
    Calls Tryd.prog 75 #[v, .string s] w fun e w' => e = .returned (.int .i64 (Lib.idxOfS xs s)) ∧ w = w' := by
  obtain ⟨a, cap, rfl, hl, hc⟩ := h.at
  have HC := Lib.hid hc; clear hc
  go_enter Tryd.func75, Tryd.ntmps75
  go_wp2
  go_loop [5] (fun i => ∃ k : Nat, k ≤ xs.length ∧ i = .int .i64 k ∧ Hid (∀ j, j < k → xs.getD j ByteArray.empty ≠ s)) (fun i => xs.length - (intOf i).toNat)
  case atStart => exact ⟨0, Nat.zero_le _, rfl, fun j hj => absurd hj (by omega)⟩
  case round =>
    obtain ⟨k, hk, rfl, H⟩ := hrel
    by_cases hlt : k < xs.length
    · obtain ⟨hsz, b, off, rfl, hcell⟩ := HC.out k hlt
      have hx : xs.getD k ByteArray.empty = xs[k] := by simp [hlt]
      have HX := Lib.hid hx; clear hx
      generalize xs[k] = x at *
      cases he : (x.toList == s.toList) with
      | true =>
        go_wp2
        go_ret
        refine ⟨ret_int ?_, rfl⟩
        have := Lib.idxOfS_hit xs xs.length k s hlt (Nat.le_refl _) (by rw [HX.out]; exact (str_beq x s).1 he) H.out
        rw [List.take_length] at this
        exact this.symm
      | false =>
        go_wp2
        go_round
        case rel =>
          refine ⟨k + 1, by omega, by go_num, fun j hj => ?_⟩
          rcases Nat.lt_or_ge j k with h1 | h1
          · exact H.out j h1
          · obtain rfl : j = k := by omega
            rw [HX.out]; exact (str_bne x s).1 he
        case measure => simp [intOf];omega
    · obtain rfl : k = xs.length := by omega
      go_wp2
      go_ret
      refine ⟨ret_int ?_, rfl⟩
      have := Lib.idxOfS_miss xs xs.length s H.out
      rw [List.take_length] at this
      exact this.symm
end Go.Proofs.YtpfemholpigdeaaDoor
namespace Go.Proofs.YtpfemholpigdeaaDoor
open Go.RowKit
theorem Sl.bound {w : World} {v : Value} {sz n : Nat} {f : Nat → Value} (h : Sl w v sz n f) : n ≤ 140737488355328 := h.len
theorem bool_eq {a b : Bool} (h : a = b) : Value.bool a = Value.bool b := by rw [h]
theorem int_eq {k : IntKind} {a b : Int} (h : a = b) : Value.int k a = Value.int k b := by rw [h]
theorem getD_lt {α : Type} (xs : List α) (k : Nat) (d : α) (h : k < xs.length) : xs.getD k d = xs[k] := by simp [h]
theorem getD_ge {α : Type} (xs : List α) (k : Nat) (d : α) (h : xs.length ≤ k) : xs.getD k d = d := by simp [List.getD_eq_getElem?_getD, List.getElem?_eq_none h]
theorem Sl.congr {w : World} {v : Value} {sz n : Nat} {f g : Nat → Value} (h : Sl w v sz n f) (e : ∀ j, j < n * sz → f j = g j) : Sl w v sz n g := by
  refine ⟨h.len, ?_, h.room⟩
  obtain ⟨a, cap, hv, hc⟩ := h.out
  refine ⟨a, cap, hv, ?_⟩
  rcases hc with h0 | ⟨b, off, ha, hc⟩
  · exact .inl h0
  · exact .inr ⟨b, off, ha, fun j hj => by rw [hc j hj, e j hj]⟩
theorem Ints.sl {w : World} {v : Value} {xs : List Int} (h : Ints w v xs) : Sl w v 1 xs.length (fun j => .int .i64 (xs.getD j 0)) := h
theorem Bools.sl {w : World} {v : Value} {xs : List Bool} (h : Bools w v xs) : Sl w v 1 xs.length (fun j => .bool (xs.getD j false)) := h
theorem Strs.sl {w : World} {v : Value} {xs : List ByteArray} (h : Strs w v xs) : Sl w v 1 xs.length (fun j => .string (xs.getD j ByteArray.empty)) := h.1
theorem Strs.le {w : World} {v : Value} {xs : List ByteArray} (h : Strs w v xs) (j : Nat) : (xs.getD j ByteArray.empty).size ≤ 140737488355328 := by
  by_cases hj : j < xs.length
  · rw [getD_lt _ _ _ hj]; exact h.2 _ (List.getElem_mem hj)
  · rw [getD_ge _ _ _ (by omega)]; exact Nat.zero_le _
theorem Ints.nil (w : World) : Ints w (.slice none 0 0) [] := ⟨by simp, ⟨_, _, rfl, .inl rfl⟩, fun a m c h => by simp only [Value.slice.injEq] at h;omega⟩
theorem Tabs.rows {w : World} {v : Value} {xs : List (List Int)} (h : Tabs w v xs) : ∃ fv : Nat → Value, Sl w v 1 xs.length fv ∧ ∀ j, Ints w (fv j) (xs.getD j []) := by
  obtain ⟨vs, h1, h2, h3⟩ := h
  refine ⟨fun j => if j < xs.length then vs.getD j undef else .slice none 0 0, h1.congr fun j hj => by rw [if_pos (by omega)], fun j => ?_⟩
  by_cases hj : j < xs.length
  · simp only [if_pos hj]; rw [getD_lt xs j [] hj]; exact h3 j hj
  · simp only [if_neg hj]; rw [getD_ge xs j [] (by omega)]; exact Ints.nil w
set_option maxRecDepth 100000 in
set_option maxHeartbeats 4000000 in
theorem equal_int_sat (v u : Value) (xs ys : List Int) (w : World) (h : Ints w v xs) (k : Ints w u ys) : SatV Tryd.prog 26 [v, u] w (.bool (xs == ys)) :=
  Sat.lib ⟨_, _, Tryd.func26, by kernel_rfl, rfl⟩ fun w1 hb => (equal_int v u xs ys w1 (h.below hb) (k.below hb)).mono fun e w' ⟨h1, h2⟩ => ⟨_, [], h1, h2.hp, rfl, rfl⟩
end Go.Proofs.YtpfemholpigdeaaDoor
namespace Go.Proofs.YtpfemholpigdeaaDoor
open Go.RowKit Go.Maps
section
variable {P : Program} {n : Nat} {w0 : World} {Q : Exit → Fm → List Res → Prop} {K : Fm → List Res → Prop} {F : Fm} {L : List Res} {m : Md} {Lw : List Res} {ops : Array Oper} {rest : List Oper}
  {d : Option Nat} {ty : TypeId} {pos : String} {aft : Array Edge}
theorem OKx_mkMap {t : TypeId} (k : TypeId) [hE : Keeps w0 L Lw] (kk : ∀ g, OKx P n w0 (.seq Lw) ops K rest (updo F d (.map (some g))) (.obj g (MapIs P k 0 fun _ => .none) :: L)) :
    OKx P n w0 (.seq Lw) ops K (⟨d, .makeMap t none, ty, pos, aft, none⟩ :: rest) F L := by
  refine OKx_act hE.ent fun w hp => ⟨_, w.alloc (.map #[] 0), _, ?_, hp.mapMade P k, kk w.heap.size⟩
  simp [execOp, run_makeMap, Result.andThen]
theorem OKx_mapSet {t k e : TypeId} {x y u : Operand} {g c : Nat} {Fk : Lit → Option Value} {key val : Value} {kl : Lit} [hE : Keeps w0 L Lw] (i : Nat) (hx : rv n F x = .map (some g)) (hy : rv n F y = key) (hu : rv n F u = val) (hi : L[i]? = some (.obj g (MapIs P k c Fk)))
    (Ky : Keyed P k) (ht : P.underlying t = some (.map k e)) (hn : c < 9223372036854775807) (hkey : keyOf P k key = some kl) (hl : WideAt.IsKeyLit kl)
    (kk : OKx P n w0 (.seq Lw) ops K rest (updo F d undef) (L.set i (.obj g (MapIs P k (c + 1) (putF Fk kl val))))) : OKx P n w0 (.seq Lw) ops K (⟨d, .mapUpdate t x y u, ty, pos, aft, none⟩ :: rest) F L := by
  refine OKx_act0 hE.ent fun w hp => ?_
  obtain ⟨w', hrun, hp'⟩ := hp.store i hi Ky ht hn (val := val) hkey hl
  refine ⟨w', _, ?_, hp', kk⟩
  simp [execOp, hx, hy, hu, hrun, Result.andThen]
end
end Go.Proofs.YtpfemholpigdeaaDoor
