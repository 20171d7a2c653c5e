/-
  Part 3 of the proof: De39, Pl38, Idx, C38, D38, Mx, Rf. No statement of the seat is proved here.
-/
import Derived.Test.YtmclgfipdgmomaaMHUndecided2
import Derived.RangeFuncRecord
import Derived.RangeFuncLeaves
import Derived.RangeFuncCalls
import Derived.Sort.LoopGhostIn
namespace Go.Proofs.Ytmclgfipdgmomaa
open Go.RowKit
section
variable {P : Program} {n : Nat} {w0 : World} {K : Fm → List Res → Prop} {F : Fm} {L : List Res} {m : Md} {Lw : List Res} {ops : Array Oper} {rest : List Oper}
  {d : Option Nat} {ty : TypeId} {pos : String} {aft : Array Edge}
theorem OKx_app0 {s x : Operand} {t : TypeId} {e sz bytes : Nat} {z : Value} [T : TSlice P t e sz bytes z] (i : Nat) {a0 ay : Option Addr} {N c0 cy : Nat} {xs : List Value} (hs : rv n F s = .slice a0 N c0) (hx : rv n F x = .slice ay 0 cy) (hi : L[i]? = some (.row e sz (.slice a0 N c0) N xs))
    (kk : OKx P n w0 m ops K rest (updo F d (.slice a0 N c0)) L) : OKx P n w0 m ops K (⟨d, .call { callee := .builtin .append, args := #[s, x], argTypes := #[t, t] }, ty, pos, aft, none⟩ :: rest) F L :=
  OKx_still (fun w hp _ _ _ _ => by
    obtain ⟨i0, hi0, hz0, hz1, hz2⟩ := info_parts T.ty.inf
    have ho : w.ownsRow w0.heap.size e sz (.slice a0 N c0) N xs := hp.ok _ (List.mem_of_getElem? hi)
    have hle : N ≤ c0 := by
      rcases ho.2 with ⟨h0, h2⟩ | ⟨g, cap, cur, h0, _, _, h4, _⟩
      · omega
      · simp only [Value.slice.injEq] at h0
        omega
    cases a0 <;> cases ay <;> simp [execOp, resolve, invoke, builtin, hs, hx, Builtin.append_, run_underlying T.ty.und, sizeOf, typeInfo, hi0, Builtin.lenOf, Builtin.firstCells, hle, storeCells, Result.andThen, loadCells, loadCellsFrom]) kk
theorem OKx_allocE {e sz : Nat} {zs : List Value} [T : TAgg P e sz zs] [hE : Keeps w0 L Lw] (xs : List Value) (hx : zs = xs) (kk : ∀ g, OKx P n w0 (.seq Lw) ops K rest (updo F d (.pointer (some ⟨g, 0, none⟩))) (.box e g xs :: L)) :
    OKx P n w0 (.seq Lw) ops K (⟨d, .alloc e, ty, pos, aft, none⟩ :: rest) F L := by
  subst hx
  exact OKx_allocA kk
theorem OKx_stBg {t : TypeId} {z : Value} [T : TOne P t z] {x y : Operand} {g k : Nat} {v : Value} [hE : Keeps w0 L Lw] (i : Nat) {e : TypeId} {cs cs' : List Value} {L' : List Res} (hx : rv n F x = .pointer (some ⟨g, k, none⟩)) (hy : rv n F y = v) (h1 : v.oneCell' = true) (hv : v.cells = #[v]) (hi : L[i]? = some (.box e g cs)) (hk : k < cs.length)
    (hs : cs.set k v = cs') (hL : L.set i (.box e g cs') = L') (kk : OKx P n w0 (.seq Lw) ops K rest (updo F d undef) L') : OKx P n w0 (.seq Lw) ops K (⟨d, .store t x y, ty, pos, aft, none⟩ :: rest) F L := by
  subst hs; subst hL
  refine OKx_act0 hE.ent fun w hp => ⟨_, _, ?_, hp.setBox hi k v, kk⟩
  obtain ⟨hc, hf, _, _⟩ := hp.boxAt i hi
  exact run_store1 T hx hy h1 hv ((hc k).trans (List.getElem?_eq_getElem hk)) (hf k) _ _ _ _
end
def frmC (f : Nat → Bool) : List Value := (List.range 64).map fun j => Value.bool (f j)
theorem frmC_len (f : Nat → Bool) : (frmC f).length = 64 := by simp [frmC]
theorem frmC_at (f : Nat → Bool) (j : Nat) (h : j < 64) : (frmC f)[j]? = some (.bool (f j)) := by simp [frmC, h]
theorem frmC_set (f f' : Nat → Bool) (k : Nat) (b : Bool) (h : ∀ j, j < 64 → f' j = if j = k then b else f j) : (frmC f).set k (.bool b) = frmC f' := by
  apply List.ext_getElem
  · simp [frmC]
  · intro j h1 h2
    have hj : j < 64 := by simpa [frmC] using h2
    rw [List.getElem_set]
    simp only [frmC, List.getElem_map, List.getElem_range, h j hj]
    by_cases e : k = j
    · rw [if_pos e, if_pos e.symm]
    · rw [if_neg e, if_neg (fun e2 => e e2.symm)]
def dscL (par : List (List Int)) (i : Nat) : Nat → List Bool
  | 0 => []
  | k + 1 => dscL par i k ++ [if k < i then false else if k = i then true else (par.getD k []).any fun p => (dscL par i k).getD p.toNat false]
theorem dscL_len (par : List (List Int)) (i : Nat) : ∀ k, (dscL par i k).length = k
  | 0 => rfl
  | k + 1 => by rw [dscL, List.length_append, dscL_len par i k]; rfl
theorem dscL_old (par : List (List Int)) (i j : Nat) : ∀ k, j < k → (dscL par i (k + 1)).getD j false = (dscL par i k).getD j false := fun k h => by
  rw [dscL, List.getD_eq_getElem?_getD, List.getElem?_append_left (by rw [dscL_len]; exact h), List.getD_eq_getElem?_getD]
theorem dscL_new (par : List (List Int)) (i k : Nat) : (dscL par i (k + 1)).getD k false = if k < i then false else if k = i then true else (par.getD k []).any fun p => (dscL par i k).getD p.toNat false := by
  rw [dscL, List.getD_eq_getElem?_getD, List.getElem?_append_right (by rw [dscL_len]; exact Nat.le_refl _), dscL_len, Nat.sub_self]
  rfl
theorem dscL_low (par : List (List Int)) (i j : Nat) (hj : j < i) : ∀ k, (dscL par i k).getD j false = false
  | 0 => rfl
  | k + 1 => by
    by_cases h : j < k
    · rw [dscL_old par i j k h]; exact dscL_low par i j hj k
    · by_cases h2 : j = k
      · subst h2; rw [dscL_new, if_pos hj]
      · exact getD_ge _ _ _ (by rw [dscL_len]; omega)
def dscF (par : List (List Int)) (i k j : Nat) : Bool := (dscL par i k).getD j false
def dsnL (par : List (List Int)) (i k : Nat) : List Int := ((List.range k).filter (fun j => decide (i < j) && dscF par i k j)).map (fun j : Nat => (j : Int))
theorem dsnL_step (par : List (List Int)) (i k : Nat) : dsnL par i (k + 1) = dsnL par i k ++ if i < k ∧ dscF par i (k + 1) k = true then [(k : Int)] else [] := by
  unfold dsnL
  rw [List.range_succ, List.filter_append, List.map_append]
  congr 1
  · congr 1
    apply List.filter_congr
    intro j hj
    have hj := List.mem_range.1 hj
    unfold dscF
    rw [dscL_old par i j k hj]
  · by_cases h : i < k ∧ dscF par i (k + 1) k = true
    · rw [if_pos h, List.filter_cons_of_pos (by simp [h.1, h.2])]; rfl
    · rw [if_neg h, List.filter_cons_of_neg (by simpa using h)]; rfl
theorem dsnL_start (par : List (List Int)) (i : Nat) : dsnL par i (i + 1) = [] := by
  unfold dsnL
  rw [List.filter_eq_nil_iff.2]
  · rfl
  · intro j hj
    have := List.mem_range.1 hj
    rw [decide_eq_false (by omega)]; simp
theorem dsnL_len (par : List (List Int)) (i k : Nat) : (dsnL par i k).length ≤ k := by
  unfold dsnL
  rw [List.length_map]
  exact Nat.le_trans (List.length_filter_le _ _) (by simp)
theorem dsnL_nat (par : List (List Int)) (i k : Nat) : ∀ u ∈ dsnL par i k, 0 ≤ u ∧ u.toNat < k := by
  intro u hu
  unfold dsnL at hu
  simp only [List.mem_map, List.mem_filter, List.mem_range] at hu
  obtain ⟨j, ⟨h1, _⟩, rfl⟩ := hu
  omega
theorem getD_mem39 {α : Type} (l : List α) (i : Nat) (d : α) (h : i < l.length) : l.getD i d ∈ l := by
  rw [getD_lt _ _ _ h]
  exact List.getElem_mem h
theorem anyN_any39 (xs : List Int) (P : Int → Bool) : anyN (fun j => P (xs.getD j 0)) xs.length = xs.any P := by
  cases h : xs.any P with
  | true =>
    obtain ⟨x, hx, hp⟩ := List.any_eq_true.1 h
    obtain ⟨j, hj, rfl⟩ := List.getElem_of_mem hx
    exact anyN_hit hj (by rw [getD_lt _ _ _ hj]; exact hp)
  | false =>
    rw [List.any_eq_false] at h
    exact anyN_none fun j hj => by
      have := h _ (List.getElem_mem hj)
      rw [getD_lt _ _ _ hj]
      simpa using this
set_option maxRecDepth 100000 in
set_option maxHeartbeats 4000000 in
theorem dsc1_sat (g : Nat) (f : Nat → Bool) (p : Int) (w : World) (h : ∀ j, j < 64 → w.cell? ⟨g, j, none⟩ = some (.bool (f j))) (h0 : 0 ≤ p) (h1 : p.toNat < 64) : SatV Try.prog 129 [.int .i64 p, .pointer (some ⟨g, 0, none⟩)] w (.bool (f p.toNat)) := by
  have hc := h p.toNat h1
  refine SatL.of 7 [3] Try.func129 (by kernel_rfl) (by kernel_rfl) rfl rfl rfl rfl ?_
  repeat' (first | (apply OK_seq) | (apply thenQ_n) | (apply OK_region) | (refine OKx_idxAz Try.underlying128 rfl rfl h0 (by omega) ?_) | (refine OKx_ldR rfl ⟨_, _, rfl, by rw [Nat.zero_add]; exact hc⟩ ?_) | (apply OKx_nilK) | (apply OK_block) | (apply blockQ_n) | (apply blockQ_s) | (apply thenQ_e) | (apply blockQ_e; exact rfl) | (apply thenQ_r) | (apply blockQ_r) | (apply OK_condT; exact rfl) | (apply OK_condF; exact rfl) | (apply OK_skip) | (apply OK_exit) | (apply OK_ret) | (apply OKx_move; ((conv => lhs; whnf) <;> exact rfl)) | (apply OKx_assign; ((conv => lhs; whnf) <;> exact rfl)) | (apply OKx_ldB; exact rfl; (first | exact at0 | exact at1 | exact at2 | exact at3 | exact at4 | exact at5 | exact at6 | exact at7); exact rfl) | (apply OKx_ldR; ((conv => lhs; whnf) <;> exact rfl); (with_reducible assumption)) | (apply OKx_idxR2; ((conv => lhs; whnf) <;> exact rfl); (with_reducible assumption); exact rfl; omega; intro _ _) | (apply OKx_ldBo; exact rfl; (first | exact at0 | exact at1 | exact at2 | exact at3 | exact at4 | exact at5 | exact at6 | exact at7); omega))
  first | refine bodyQ_r1 (by ((conv => lhs; whnf) <;> exact rfl)) ?_ | refine bodyQ_r2 (by ((conv => lhs; whnf) <;> exact rfl)) (by ((conv => lhs; whnf) <;> exact rfl)) ?_ | refine bodyQ_r3 (by ((conv => lhs; whnf) <;> exact rfl)) (by ((conv => lhs; whnf) <;> exact rfl)) (by ((conv => lhs; whnf) <;> exact rfl)) ?_ | refine bodyQ_r0 ?_ | refine bodyQ_n0 ?_
  exact ⟨_, Ent.nil, rfl, rfl⟩
def DscR (s : Stem) (i : Int) (u : Value) (L : List Res) : Prop :=
  (chkI s i ≠ 0 ∧ u = .tuple #[.slice none 0 0, .int .i64 (chkI s i)] ∧ L = []) ∨
  (chkI s i = 0 ∧ ∃ a n c, n = (dsnL s.par i.toNat s.par.length).length ∧ u = .tuple #[.slice a n c, .int .i64 0] ∧ (0 < n → ∃ g, a = some ⟨g, 0, none⟩) ∧ L = [.row 3 1 (.slice a n c) n (ints (dsnL s.par i.toNat s.par.length))])
set_option maxRecDepth 100000 in
set_option maxHeartbeats 4000000 in
theorem Desc_sat (v : Value) (s : Stem) (i : Int) (w : World) (h : Stm w v s) : Sat Try.prog 110 [v, .int .i64 i] w (DscR s i) := by
  have hst := h
  obtain ⟨nv, ev, pv, rfl, hS, _, hP⟩ := h
  obtain ⟨fv, hpv, hrow⟩ := hP.rows
  have hnv := hS.sl
  have hpb := hpv.bound
  by_cases hc : chkI s i = 0
  rotate_left
  · refine SatL.of 44 [4, 5] Try.func110 (by kernel_rfl) (by kernel_rfl) rfl rfl rfl rfl ?_
    repeat' (first | (apply OK_seq) | (apply thenQ_n) | (apply OK_region) | (refine OKx_callV (f := 73) rfl rfl rfl (fun w1 hp => chk36_sat _ s i w1 (hst.below hp.below)) ?_) | (apply OKx_nilK) | (apply OK_block) | (apply blockQ_n) | (apply blockQ_s) | (apply thenQ_e) | (apply blockQ_e; exact rfl) | (apply thenQ_r) | (apply blockQ_r) | (apply OK_condT; exact rfl) | (apply OK_condF; exact rfl) | (apply OK_skip) | (apply OK_exit) | (apply OK_ret) | (apply OKx_move; ((conv => lhs; whnf) <;> exact rfl)) | (apply OKx_assign; ((conv => lhs; whnf) <;> exact rfl)) | (apply OKx_ldB; exact rfl; (first | exact at0 | exact at1 | exact at2 | exact at3 | exact at4 | exact at5 | exact at6 | exact at7); exact rfl) | (apply OKx_ldR; ((conv => lhs; whnf) <;> exact rfl); (with_reducible assumption)) | (apply OKx_len; exact rfl) | (apply OKx_lenR; ((conv => lhs; whnf) <;> exact rfl); (with_reducible assumption)) | (apply OKx_lenR2; ((conv => lhs; whnf) <;> exact rfl); (with_reducible assumption)) | (apply OKx_lenO; ((conv => lhs; whnf) <;> exact rfl); (first | exact at0 | exact at1 | exact at2 | exact at3 | exact at4 | exact at5 | exact at6 | exact at7)) | (apply OKx_lss; exact rfl; exact rfl; all_goals (intro _; try (exfalso; omega))) | (apply OKx_neq; exact rfl; exact rfl; all_goals (intro _; try (exfalso; omega))) | (apply OKx_idxO; exact rfl; exact rfl; omega) | (apply OKx_idxR; ((conv => lhs; whnf) <;> exact rfl); (with_reducible assumption); exact rfl; omega; intro _ _) | (apply OKx_idxR2; ((conv => lhs; whnf) <;> exact rfl); (with_reducible assumption); exact rfl; omega; intro _ _) | (apply OKx_idxOz; exact rfl; exact rfl; omega; omega) | (apply OKx_idxRz; ((conv => lhs; whnf) <;> exact rfl); (with_reducible assumption); exact rfl; omega; omega; intro _ _) | (apply OKx_fldO; exact rfl; exact rfl) | (apply OKx_fldR; ((conv => lhs; whnf) <;> exact rfl); (with_reducible assumption); decide; intro _ _) | (apply OKx_inc; exact rfl; exact rfl; omega) | (apply OKx_addN; exact rfl; exact rfl; omega) | (apply OKx_add; exact rfl; exact rfl; omega; omega) | (apply OKx_boxA; exact rfl; intro _) | (apply OKx_allocA; intro _) | (apply OKx_ldBA; exact rfl; (first | exact at0 | exact at1 | exact at2 | exact at3 | exact at4 | exact at5 | exact at6 | exact at7); exact rfl) | (apply OKx_ldRA; ((conv => lhs; whnf) <;> exact rfl); (with_reducible assumption)) | (apply OKx_stB; exact rfl; ((conv => lhs; whnf) <;> exact rfl); exact rfl; exact rfl; (first | exact at0 | exact at1 | exact at2 | exact at3 | exact at4 | exact at5 | exact at6 | exact at7); exact rfl; exact rfl; exact rfl) | (apply OKx_ldBo; exact rfl; (first | exact at0 | exact at1 | exact at2 | exact at3 | exact at4 | exact at5 | exact at6 | exact at7); omega) | (apply OKx_stBo; exact rfl; exact rfl; (first | exact at0 | exact at1 | exact at2 | exact at3 | exact at4 | exact at5 | exact at6 | exact at7); omega; exact rfl) | (apply OKx_slit1; ((conv => lhs; whnf) <;> exact rfl); exact rfl; intro _) | (apply OKx_func; exact rfl; exact rfl))
    first | refine bodyQ_r1 (by ((conv => lhs; whnf) <;> exact rfl)) ?_ | refine bodyQ_r2 (by ((conv => lhs; whnf) <;> exact rfl)) (by ((conv => lhs; whnf) <;> exact rfl)) ?_ | refine bodyQ_r3 (by ((conv => lhs; whnf) <;> exact rfl)) (by ((conv => lhs; whnf) <;> exact rfl)) (by ((conv => lhs; whnf) <;> exact rfl)) ?_ | refine bodyQ_r0 ?_ | refine bodyQ_n0 ?_
    exact ⟨_, Ent.nil, .inl ⟨hc, rfl, rfl⟩⟩
  obtain ⟨h0, h1, h2⟩ := chkI_zero hc
  obtain ⟨_, hn64, _, hpl, _⟩ := stCheck_len s h0
  have hok := stCheck_okPar s h0
  obtain ⟨j, rfl⟩ := Int.eq_ofNat_of_zero_le h1
  unfold DscR
  rw [Int.toNat_natCast]
  have hset0 := frmC_set (fun _ => false) (dscF s.par j (j + 1)) j true (fun q hq => by
    unfold dscF
    by_cases e : q = j
    · subst e; rw [if_pos rfl, dscL_new, if_neg (by omega), if_pos rfl]
    · rw [if_neg e]
      by_cases e2 : q < j
      · exact dscL_low s.par j q e2 _
      · exact getD_ge _ _ _ (by rw [dscL_len]; omega))
  have hfl := fun f => frmC_len f
  refine SatL.of 44 [4, 5] Try.func110 (by kernel_rfl) (by kernel_rfl) rfl rfl rfl rfl ?_
  repeat' (first | (apply OK_seq) | (apply thenQ_n) | (apply OK_region) | (refine OKx_callV (f := 73) (v := .int .i64 0) rfl rfl rfl (fun w1 hp => by rw [← hc]; exact chk36_sat _ s j w1 (hst.below hp.below)) ?_) | (refine OKx_allocE (frmC fun _ => false) (by rfl) ?_; intro g7) | (refine OKx_idxA Try.underlying128 rfl rfl (by omega) ?_; rw [Nat.zero_add]) | (refine OKx_stBg 0 rfl rfl rfl rfl rfl (by rw [hfl]; omega) hset0 rfl ?_) | (apply OKx_nilK) | (apply OK_block) | (apply blockQ_n) | (apply blockQ_s) | (apply thenQ_e) | (apply blockQ_e; exact rfl) | (apply thenQ_r) | (apply blockQ_r) | (apply OK_condT; exact rfl) | (apply OK_condF; exact rfl) | (apply OK_skip) | (apply OK_exit) | (apply OK_ret) | (apply OKx_move; ((conv => lhs; whnf) <;> exact rfl)) | (apply OKx_assign; ((conv => lhs; whnf) <;> exact rfl)) | (apply OKx_ldB; exact rfl; (first | exact at0 | exact at1 | exact at2 | exact at3 | exact at4 | exact at5 | exact at6 | exact at7); exact rfl) | (apply OKx_ldR; ((conv => lhs; whnf) <;> exact rfl); (with_reducible assumption)) | (apply OKx_len; exact rfl) | (apply OKx_lenR; ((conv => lhs; whnf) <;> exact rfl); (with_reducible assumption)) | (apply OKx_lenR2; ((conv => lhs; whnf) <;> exact rfl); (with_reducible assumption)) | (apply OKx_lenO; ((conv => lhs; whnf) <;> exact rfl); (first | exact at0 | exact at1 | exact at2 | exact at3 | exact at4 | exact at5 | exact at6 | exact at7)) | (apply OKx_lss; exact rfl; exact rfl; all_goals (intro _; try (exfalso; omega))) | (apply OKx_neq; exact rfl; exact rfl; all_goals (intro _; try (exfalso; omega))) | (apply OKx_idxO; exact rfl; exact rfl; omega) | (apply OKx_idxR; ((conv => lhs; whnf) <;> exact rfl); (with_reducible assumption); exact rfl; omega; intro _ _) | (apply OKx_idxR2; ((conv => lhs; whnf) <;> exact rfl); (with_reducible assumption); exact rfl; omega; intro _ _) | (apply OKx_idxOz; exact rfl; exact rfl; omega; omega) | (apply OKx_idxRz; ((conv => lhs; whnf) <;> exact rfl); (with_reducible assumption); exact rfl; omega; omega; intro _ _) | (apply OKx_fldO; exact rfl; exact rfl) | (apply OKx_fldR; ((conv => lhs; whnf) <;> exact rfl); (with_reducible assumption); decide; intro _ _) | (apply OKx_inc; exact rfl; exact rfl; omega) | (apply OKx_addN; exact rfl; exact rfl; omega) | (apply OKx_add; exact rfl; exact rfl; omega; omega) | (apply OKx_boxA; exact rfl; intro _) | (apply OKx_allocA; intro _) | (apply OKx_ldBA; exact rfl; (first | exact at0 | exact at1 | exact at2 | exact at3 | exact at4 | exact at5 | exact at6 | exact at7); exact rfl) | (apply OKx_ldRA; ((conv => lhs; whnf) <;> exact rfl); (with_reducible assumption)) | (apply OKx_stB; exact rfl; ((conv => lhs; whnf) <;> exact rfl); exact rfl; exact rfl; (first | exact at0 | exact at1 | exact at2 | exact at3 | exact at4 | exact at5 | exact at6 | exact at7); exact rfl; exact rfl; exact rfl) | (apply OKx_ldBo; exact rfl; (first | exact at0 | exact at1 | exact at2 | exact at3 | exact at4 | exact at5 | exact at6 | exact at7); omega) | (apply OKx_stBo; exact rfl; exact rfl; (first | exact at0 | exact at1 | exact at2 | exact at3 | exact at4 | exact at5 | exact at6 | exact at7); omega; exact rfl) | (apply OKx_slit1; ((conv => lhs; whnf) <;> exact rfl); exact rfl; intro _) | (apply OKx_func; exact rfl; exact rfl))
  rename_i g2 _
  refine OK_loop2 8 9 [8, 9, 20, 21, 22, 23, 24, 25, 26, 27, 28, 29, 30, 31, 32, 33, 34, 35, 36, 37, 38, 39, 40, 41, 42] (fun m u v L => ∃ (k n : Nat) (a : Option Addr) (c : Nat), k + m = s.par.length ∧ j < k ∧ n = (dsnL s.par j k).length ∧ u = .slice a n c ∧ (0 < n → ∃ g, a = some ⟨g, 0, none⟩) ∧ v = .int .i64 (k : Int) ∧
    L = [.row 3 1 (.slice a n c) n (ints (dsnL s.par j k)), .box 128 g7 (frmC (dscF s.par j k)), .box 26 g2 [nv, ev, pv]]) (s.par.length - (j + 1)) _ (Ent.mk fun w1 hp => hp.nil 3 1) ⟨j + 1, 0, none, 0, by omega, by omega, by rw [dsnL_start]; rfl, rfl, fun h => absurd h (by omega), rfl, by rw [dsnL_start]; rfl⟩ ?_
  rintro m u v L G ⟨k, n, a, c, hm, hjk, hn, rfl, ha, rfl, rfl⟩
  by_cases hk : k < s.par.length
  rotate_left
  · obtain rfl : k = s.par.length := by omega
    repeat' (first | (apply OK_seq) | (apply thenQ_n) | (apply OK_region) | (apply OKx_nilK) | (apply OK_block) | (apply blockQ_n) | (apply blockQ_s) | (apply thenQ_e) | (apply blockQ_e; exact rfl) | (apply thenQ_r) | (apply blockQ_r) | (apply OK_condT; exact rfl) | (apply OK_condF; exact rfl) | (apply OK_skip) | (apply OK_exit) | (apply OK_ret) | (apply OKx_move; ((conv => lhs; whnf) <;> exact rfl)) | (apply OKx_assign; ((conv => lhs; whnf) <;> exact rfl)) | (apply OKx_ldB; exact rfl; (first | exact at0 | exact at1 | exact at2 | exact at3 | exact at4 | exact at5 | exact at6 | exact at7); exact rfl) | (apply OKx_ldR; ((conv => lhs; whnf) <;> exact rfl); (with_reducible assumption)) | (apply OKx_len; exact rfl) | (apply OKx_lenR; ((conv => lhs; whnf) <;> exact rfl); (with_reducible assumption)) | (apply OKx_lenR2; ((conv => lhs; whnf) <;> exact rfl); (with_reducible assumption)) | (apply OKx_lenO; ((conv => lhs; whnf) <;> exact rfl); (first | exact at0 | exact at1 | exact at2 | exact at3 | exact at4 | exact at5 | exact at6 | exact at7)) | (apply OKx_lss; exact rfl; exact rfl; all_goals (intro _; try (exfalso; omega))) | (apply OKx_neq; exact rfl; exact rfl; all_goals (intro _; try (exfalso; omega))) | (apply OKx_idxO; exact rfl; exact rfl; omega) | (apply OKx_idxR; ((conv => lhs; whnf) <;> exact rfl); (with_reducible assumption); exact rfl; omega; intro _ _) | (apply OKx_idxR2; ((conv => lhs; whnf) <;> exact rfl); (with_reducible assumption); exact rfl; omega; intro _ _) | (apply OKx_idxOz; exact rfl; exact rfl; omega; omega) | (apply OKx_idxRz; ((conv => lhs; whnf) <;> exact rfl); (with_reducible assumption); exact rfl; omega; omega; intro _ _) | (apply OKx_fldO; exact rfl; exact rfl) | (apply OKx_fldR; ((conv => lhs; whnf) <;> exact rfl); (with_reducible assumption); decide; intro _ _) | (apply OKx_inc; exact rfl; exact rfl; omega) | (apply OKx_addN; exact rfl; exact rfl; omega) | (apply OKx_add; exact rfl; exact rfl; omega; omega) | (apply OKx_boxA; exact rfl; intro _) | (apply OKx_allocA; intro _) | (apply OKx_ldBA; exact rfl; (first | exact at0 | exact at1 | exact at2 | exact at3 | exact at4 | exact at5 | exact at6 | exact at7); exact rfl) | (apply OKx_ldRA; ((conv => lhs; whnf) <;> exact rfl); (with_reducible assumption)) | (apply OKx_stB; exact rfl; ((conv => lhs; whnf) <;> exact rfl); exact rfl; exact rfl; (first | exact at0 | exact at1 | exact at2 | exact at3 | exact at4 | exact at5 | exact at6 | exact at7); exact rfl; exact rfl; exact rfl) | (apply OKx_ldBo; exact rfl; (first | exact at0 | exact at1 | exact at2 | exact at3 | exact at4 | exact at5 | exact at6 | exact at7); omega) | (apply OKx_stBo; exact rfl; exact rfl; (first | exact at0 | exact at1 | exact at2 | exact at3 | exact at4 | exact at5 | exact at6 | exact at7); omega; exact rfl) | (apply OKx_slit1; ((conv => lhs; whnf) <;> exact rfl); exact rfl; intro _) | (apply OKx_func; exact rfl; exact rfl))
    first | refine bodyQ_r1 (by ((conv => lhs; whnf) <;> exact rfl)) ?_ | refine bodyQ_r2 (by ((conv => lhs; whnf) <;> exact rfl)) (by ((conv => lhs; whnf) <;> exact rfl)) ?_ | refine bodyQ_r3 (by ((conv => lhs; whnf) <;> exact rfl)) (by ((conv => lhs; whnf) <;> exact rfl)) (by ((conv => lhs; whnf) <;> exact rfl)) ?_ | refine bodyQ_r0 ?_ | refine bodyQ_n0 ?_
    exact ⟨_, Ent.pick [0] rfl, .inr ⟨hc, a, n, c, hn, rfl, ha, rfl⟩⟩
  have hr : ∀ q, q < (s.par.getD k []).length → 0 ≤ (s.par.getD k []).getD q 0 ∧ (s.par.getD k []).getD q 0 < k := fun q hq => by
    have hg : s.par.getD k [] = s.par[k] := getD_lt _ _ _ hk
    exact hok k hk _ (by rw [getD_lt _ _ _ hq]; exact hg ▸ List.getElem_mem hq)
  have hs := dsnL_step s.par j k
  have hle := dsnL_len s.par j k
  have hnew : dscF s.par j (k + 1) k = (s.par.getD k []).any fun p => dscF s.par j k p.toNat := by
    unfold dscF
    rw [dscL_new, if_neg (by omega), if_neg (by omega)]
  have hset := frmC_set (dscF s.par j k) (dscF s.par j (k + 1)) k (dscF s.par j (k + 1) k) (fun q hq => by
    by_cases e : q = k
    · subst e; rw [if_pos rfl]
    · rw [if_neg e]
      unfold dscF
      by_cases e2 : q < k
      · exact dscL_old s.par j q k e2
      · rw [getD_ge _ _ _ (by rw [dscL_len]; omega), getD_ge _ _ _ (by rw [dscL_len]; omega)])
  have hxi := (hrow k).sl
  have hget := frmC_at (dscF s.par j (k + 1)) k (by omega)
  generalize hys : dsnL s.par j k = ys at *
  generalize hxs : s.par.getD k [] = xs at *
  generalize hbb : dscF s.par j (k + 1) k = b at *
  have hcall : ∀ (w1 : World) (L : List Res) (f : Nat → Bool), f = dscF s.par j k → Hp w.heap.size w w1 L → L[1]? = some (.box 128 g7 (frmC f)) → SatV Try.prog 45 [fv k, .func (.func 129) #[] #[.pointer (some ⟨g7, 0, none⟩)]] w1 (.bool b) := fun w1 L f hf hp hL => by
    rw [hnew, ← anyN_any39 xs, ← hf]
    exact containsF_int_sat _ _ _ (fun q => f (xs.getD q 0).toNat) _ _ w1 (hxi.below hp.below) (fun q hq w2 hb2 => dsc1_sat g7 f _ w2 (fun y hy => by
      have h3 := (hp.boxAt 1 hL).1 y
      rw [frmC_at f y hy] at h3
      exact (hb2.cell (World.block_lt_of_cell? w1 _ h3)).trans h3) (hr q hq).1 (by have := hr q hq; omega))
  repeat' (first | (apply OK_seq) | (apply thenQ_n) | (apply OK_region) | (refine OKx_callV (f := 45) rfl rfl rfl (fun w1 hp => hcall w1 _ _ rfl hp rfl) ?_) | (refine OKx_idxA Try.underlying128 rfl rfl (by omega) ?_; rw [Nat.zero_add]) | (refine OKx_stBg 1 rfl rfl rfl rfl rfl (by rw [hfl]; omega) hset rfl ?_) | (refine OKx_ldB 1 rfl rfl hget ?_; cases hb2 : b) | (refine OKx_appI 1 0 rfl rfl rfl rfl (by omega) (by omega) ?_; intro g5 c5) | (apply OKx_nilK) | (apply OK_block) | (apply blockQ_n) | (apply blockQ_s) | (apply thenQ_e) | (apply blockQ_e; exact rfl) | (apply thenQ_r) | (apply blockQ_r) | (apply OK_condT; exact rfl) | (apply OK_condF; exact rfl) | (apply OK_skip) | (apply OK_exit) | (apply OK_ret) | (apply OKx_move; ((conv => lhs; whnf) <;> exact rfl)) | (apply OKx_assign; ((conv => lhs; whnf) <;> exact rfl)) | (apply OKx_ldB; exact rfl; (first | exact at0 | exact at1 | exact at2 | exact at3 | exact at4 | exact at5 | exact at6 | exact at7); exact rfl) | (apply OKx_ldR; ((conv => lhs; whnf) <;> exact rfl); (with_reducible assumption)) | (apply OKx_len; exact rfl) | (apply OKx_lenR; ((conv => lhs; whnf) <;> exact rfl); (with_reducible assumption)) | (apply OKx_lenR2; ((conv => lhs; whnf) <;> exact rfl); (with_reducible assumption)) | (apply OKx_lenO; ((conv => lhs; whnf) <;> exact rfl); (first | exact at0 | exact at1 | exact at2 | exact at3 | exact at4 | exact at5 | exact at6 | exact at7)) | (apply OKx_lss; exact rfl; exact rfl; all_goals (intro _; try (exfalso; omega))) | (apply OKx_neq; exact rfl; exact rfl; all_goals (intro _; try (exfalso; omega))) | (apply OKx_idxO; exact rfl; exact rfl; omega) | (apply OKx_idxR; ((conv => lhs; whnf) <;> exact rfl); (with_reducible assumption); exact rfl; omega; intro _ _) | (apply OKx_idxR2; ((conv => lhs; whnf) <;> exact rfl); (with_reducible assumption); exact rfl; omega; intro _ _) | (apply OKx_idxOz; exact rfl; exact rfl; omega; omega) | (apply OKx_idxRz; ((conv => lhs; whnf) <;> exact rfl); (with_reducible assumption); exact rfl; omega; omega; intro _ _) | (apply OKx_fldO; exact rfl; exact rfl) | (apply OKx_fldR; ((conv => lhs; whnf) <;> exact rfl); (with_reducible assumption); decide; intro _ _) | (apply OKx_inc; exact rfl; exact rfl; omega) | (apply OKx_addN; exact rfl; exact rfl; omega) | (apply OKx_add; exact rfl; exact rfl; omega; omega) | (apply OKx_boxA; exact rfl; intro _) | (apply OKx_allocA; intro _) | (apply OKx_ldBA; exact rfl; (first | exact at0 | exact at1 | exact at2 | exact at3 | exact at4 | exact at5 | exact at6 | exact at7); exact rfl) | (apply OKx_ldRA; ((conv => lhs; whnf) <;> exact rfl); (with_reducible assumption)) | (apply OKx_stB; exact rfl; ((conv => lhs; whnf) <;> exact rfl); exact rfl; exact rfl; (first | exact at0 | exact at1 | exact at2 | exact at3 | exact at4 | exact at5 | exact at6 | exact at7); exact rfl; exact rfl; exact rfl) | (apply OKx_ldBo; exact rfl; (first | exact at0 | exact at1 | exact at2 | exact at3 | exact at4 | exact at5 | exact at6 | exact at7); omega) | (apply OKx_stBo; exact rfl; exact rfl; (first | exact at0 | exact at1 | exact at2 | exact at3 | exact at4 | exact at5 | exact at6 | exact at7); omega; exact rfl) | (apply OKx_slit1; ((conv => lhs; whnf) <;> exact rfl); exact rfl; intro _) | (apply OKx_func; exact rfl; exact rfl))
  · rw [if_neg (by rw [hb2]; simp), List.append_nil] at hs
    refine ⟨by (repeat' (first | refine agree_upd rfl ?_ | exact agree_over | exact agree_refl _ _ | refine agree_over2 rfl ?_)), m - 1, _, by omega, Ent.refl _ _, ?_⟩
    exact ⟨k + 1, n, a, c, by omega, by omega, by rw [hs]; exact hn, rfl, ha, rfl, by rw [hs]; rfl⟩
  · rw [if_pos ⟨hjk, hb2⟩] at hs
    refine ⟨by (repeat' (first | refine agree_upd rfl ?_ | exact agree_over | exact agree_refl _ _ | refine agree_over2 rfl ?_)), m - 1, _, by omega, Ent.pick [1, 2, 3] rfl, ?_⟩
    exact ⟨k + 1, n + 1, _, c5, by omega, by omega, by rw [hs, List.length_append, hn]; rfl, rfl, fun _ => ⟨_, rfl⟩, rfl, by rw [hs]; rfl⟩
def brK (st l : List Int) (k : Nat) : List Int := ((l.take k).map fun n => st.getD n.toNat 0).filter fun x => decide (0 ≤ x)
theorem brK_step (st l : List Int) (k : Nat) (h : k < l.length) : brK st l (k + 1) = brK st l k ++ if 0 ≤ st.getD (l.getD k 0).toNat 0 then [st.getD (l.getD k 0).toNat 0] else [] := by
  unfold brK
  rw [List.take_succ_eq_append_getElem h, List.map_append, List.filter_append, getD_lt l _ _ h]
  congr 1
  by_cases h0 : 0 ≤ st.getD l[k].toNat 0
  · rw [if_pos h0]
    simp only [List.map_cons, List.map_nil]
    rw [List.filter_cons_of_pos (by simpa using h0)]; rfl
  · rw [if_neg h0]
    simp only [List.map_cons, List.map_nil]
    rw [List.filter_cons_of_neg (by simpa using h0)]; rfl
def brOne (xs : List Int) : Int × Bool := match xs with | [] => (0, false) | x :: r => if r.all (fun y => y == x) then (x, true) else (0, false)
def braL (s : Stem) (i : Nat) : List Int := (i : Int) :: dsnL s.par i s.par.length
def braV (s : Stem) (st : List Int) (i : Nat) : Int × Bool := brOne (brK st (braL s i) (braL s i).length)
theorem brOne_same (x : Int) (r : List Int) (h : ∀ y ∈ r, y = x) : brOne (x :: r) = (x, true) := by
  show (if (r.all fun y => y == x) = true then (x, true) else ((0 : Int), false)) = _
  rw [if_pos]
  rw [List.all_eq_true]
  intro y hy
  rw [h y hy]; simp
theorem brOne_diff (x y : Int) (r : List Int) (h : y ∈ r) (hn : y ≠ x) : brOne (x :: r) = (0, false) := by
  show (if (r.all fun y => y == x) = true then (x, true) else ((0 : Int), false)) = _
  rw [if_neg]
  rw [List.all_eq_true]
  intro h2
  have := h2 y h
  simp at this
  exact hn this
theorem brK_pre (st l : List Int) (k : Nat) : brK st l k <+: brK st l l.length := by
  unfold brK
  rw [List.take_length]
  exact ((List.take_prefix k l).map _).filter _
def brInv (xs : List Int) (state : Int) (is : Bool) : Prop := (is = false ∧ state = 0 ∧ xs = []) ∨ (is = true ∧ ∃ r, xs = state :: r ∧ ∀ y ∈ r, y = state)
theorem brInv_one {xs : List Int} {state : Int} {is : Bool} (h : brInv xs state is) : brOne xs = (state, is) := by
  rcases h with ⟨rfl, rfl, rfl⟩ | ⟨rfl, r, rfl, h⟩
  · rfl
  · exact brOne_same _ _ h
set_option maxRecDepth 100000 in
set_option maxHeartbeats 4000000 in
theorem bra_sat (v sv : Value) (s : Stem) (st : List Int) (i : Nat) (w : World) (h : Stm w v s) (hs : Ints w sv st) (hc : stCheck s = 0) (hi : i < s.par.length) (hl : st.length = s.par.length) : SatV Try.prog 89 [v, sv, .int .i64 (i : Int)] w (.tuple #[.int .i64 (braV s st i).1, .bool (braV s st i).2]) := by
  have hst := h
  obtain ⟨nv, ev, pv, rfl, _, _, _⟩ := h
  have hsv := hs.sl
  have hlen := stCheck_len s hc
  have hck : chkI s i = 0 := by unfold chkI; rw [if_neg (by omega), if_neg (by omega)]
  have hnat : ∀ j, j < (braL s i).length → 0 ≤ (braL s i).getD j 0 ∧ ((braL s i).getD j 0).toNat < st.length := fun j hj => by
    have hm := getD_mem39 (braL s i) j 0 hj
    unfold braL at hm ⊢
    rcases List.mem_cons.1 hm with e | e
    · rw [e]; omega
    · have := dsnL_nat s.par i s.par.length _ e
      omega
  have hbl : (braL s i).length = 1 + (dsnL s.par i s.par.length).length := by unfold braL; rw [List.length_cons]; omega
  have hdl := dsnL_len s.par i s.par.length
  have hstep := brK_step st (braL s i)
  have hpre := brK_pre st (braL s i)
  have hres : ∀ state is, brInv (brK st (braL s i) (braL s i).length) state is → braV s st i = (state, is) := fun state is h => brInv_one h
  have hbad : ∀ k x y r, brK st (braL s i) k = x :: r → y ∈ r → y ≠ x → braV s st i = (0, false) := fun k x y r h1 h2 h3 => by
    obtain ⟨t, ht⟩ := hpre k
    unfold braV
    rw [← ht, h1, List.cons_append]
    exact brOne_diff x y _ (List.mem_append_left _ h2) h3
  have hcons : (braL s i) = [(i : Int)] ++ dsnL s.par i s.par.length := rfl
  generalize hbr : braV s st i = br at *
  refine SatL.of 48 [6, 7] Try.func89 (by kernel_rfl) (by kernel_rfl) rfl rfl rfl rfl ?_
  repeat' (first | (apply OK_seq) | (apply thenQ_n) | (apply OK_region) | (refine OKx_call (f := 110) rfl rfl (fun w1 hp => Desc_sat _ s i w1 (hst.below hp.below)) ?_; rintro _ _ (⟨h1, _⟩ | ⟨h1, a, n, c, hn, rfl, ha, rfl⟩) <;> first | exact absurd hck h1 | (rw [Int.toNat_natCast] at hn ⊢; rw [List.cons_append, List.nil_append])) | (apply OKx_nilK) | (apply OK_block) | (apply blockQ_n) | (apply blockQ_s) | (apply thenQ_e) | (apply blockQ_e; exact rfl) | (apply thenQ_r) | (apply blockQ_r) | (apply OK_condT; exact rfl) | (apply OK_condF; exact rfl) | (apply OK_skip) | (apply OK_exit) | (apply OK_ret) | (apply OKx_move; ((conv => lhs; whnf) <;> exact rfl)) | (apply OKx_assign; ((conv => lhs; whnf) <;> exact rfl)) | (apply OKx_ldB; exact rfl; (first | exact at0 | exact at1 | exact at2 | exact at3 | exact at4 | exact at5 | exact at6 | exact at7); exact rfl) | (apply OKx_ldR; ((conv => lhs; whnf) <;> exact rfl); (with_reducible assumption)) | (apply OKx_ldI; exact rfl; (first | exact at0 | exact at1 | exact at2 | exact at3 | exact at4 | exact at5 | exact at6 | exact at7); omega) | (apply OKx_len; exact rfl) | (apply OKx_lenR; ((conv => lhs; whnf) <;> exact rfl); (with_reducible assumption)) | (apply OKx_lenR2; ((conv => lhs; whnf) <;> exact rfl); (with_reducible assumption)) | (apply OKx_lenO; ((conv => lhs; whnf) <;> exact rfl); (first | exact at0 | exact at1 | exact at2 | exact at3 | exact at4 | exact at5 | exact at6 | exact at7)) | (apply OKx_lss; exact rfl; exact rfl; all_goals (intro _; try (exfalso; omega))) | (apply OKx_neq; exact rfl; exact rfl; all_goals (intro _; try (exfalso; omega))) | (apply OKx_idxO; exact rfl; exact rfl; omega) | (apply OKx_idxR; ((conv => lhs; whnf) <;> exact rfl); (with_reducible assumption); exact rfl; omega; intro _ _) | (apply OKx_idxOz; exact rfl; exact rfl; omega; omega) | (apply OKx_idxRz; ((conv => lhs; whnf) <;> exact rfl); (with_reducible assumption); exact rfl; omega; omega; intro _ _) | (apply OKx_inc; exact rfl; exact rfl; omega) | (apply OKx_addN; exact rfl; exact rfl; omega) | (apply OKx_add; exact rfl; exact rfl; omega; omega) | (apply OKx_notT; exact rfl) | (apply OKx_notF; exact rfl) | (apply OKx_extract; exact rfl; ((conv => lhs; whnf) <;> exact rfl)) | (apply OKx_boxA; exact rfl; intro _) | (apply OKx_ldBA; exact rfl; (first | exact at0 | exact at1 | exact at2 | exact at3 | exact at4 | exact at5 | exact at6 | exact at7); exact rfl) | (apply OKx_ldRA; ((conv => lhs; whnf) <;> exact rfl); (with_reducible assumption)) | (apply OKx_slit1; ((conv => lhs; whnf) <;> exact rfl); exact rfl; intro _))
  have hsw : ∀ nb, nb = (braL s i).length → nb ≤ 100 := fun nb h => by omega
  rename_i g2 g22
  have hone : ∀ u ∈ ints (dsnL s.par i s.par.length), u.oneCell' = true := fun u hu => by
    simp only [ints, List.mem_map] at hu
    obtain ⟨z, _, rfl⟩ := hu
    rfl
  have hlen2 : (ints (dsnL s.par i s.par.length)).length = n := by simp [ints, hn]
  by_cases hn0 : n = 0
  · subst hn0
    have hb1 : dsnL s.par i s.par.length = [] := List.eq_nil_of_length_eq_zero hn.symm
    have hbi : ints (braL s i) = [.int .i64 (i : Int)] := by unfold braL; rw [hb1]; rfl
    have hbl2 : (braL s i).length = 1 := by omega
    repeat' (first | (apply OK_seq) | (apply thenQ_n) | (apply OK_region) | (refine OKx_app0 0 rfl rfl rfl ?_) | (apply OKx_nilK) | (apply OK_block) | (apply blockQ_n) | (apply blockQ_s) | (apply thenQ_e) | (apply blockQ_e; exact rfl) | (apply thenQ_r) | (apply blockQ_r) | (apply OK_condT; exact rfl) | (apply OK_condF; exact rfl) | (apply OK_skip) | (apply OK_exit) | (apply OK_ret) | (apply OKx_move; ((conv => lhs; whnf) <;> exact rfl)) | (apply OKx_assign; ((conv => lhs; whnf) <;> exact rfl)) | (apply OKx_ldB; exact rfl; (first | exact at0 | exact at1 | exact at2 | exact at3 | exact at4 | exact at5 | exact at6 | exact at7); exact rfl) | (apply OKx_ldR; ((conv => lhs; whnf) <;> exact rfl); (with_reducible assumption)) | (apply OKx_ldI; exact rfl; (first | exact at0 | exact at1 | exact at2 | exact at3 | exact at4 | exact at5 | exact at6 | exact at7); omega) | (apply OKx_len; exact rfl) | (apply OKx_lenR; ((conv => lhs; whnf) <;> exact rfl); (with_reducible assumption)) | (apply OKx_lenR2; ((conv => lhs; whnf) <;> exact rfl); (with_reducible assumption)) | (apply OKx_lenO; ((conv => lhs; whnf) <;> exact rfl); (first | exact at0 | exact at1 | exact at2 | exact at3 | exact at4 | exact at5 | exact at6 | exact at7)) | (apply OKx_lss; exact rfl; exact rfl; all_goals (intro _; try (exfalso; omega))) | (apply OKx_neq; exact rfl; exact rfl; all_goals (intro _; try (exfalso; omega))) | (apply OKx_idxO; exact rfl; exact rfl; omega) | (apply OKx_idxR; ((conv => lhs; whnf) <;> exact rfl); (with_reducible assumption); exact rfl; omega; intro _ _) | (apply OKx_idxOz; exact rfl; exact rfl; omega; omega) | (apply OKx_idxRz; ((conv => lhs; whnf) <;> exact rfl); (with_reducible assumption); exact rfl; omega; omega; intro _ _) | (apply OKx_inc; exact rfl; exact rfl; omega) | (apply OKx_addN; exact rfl; exact rfl; omega) | (apply OKx_add; exact rfl; exact rfl; omega; omega) | (apply OKx_notT; exact rfl) | (apply OKx_notF; exact rfl) | (apply OKx_extract; exact rfl; ((conv => lhs; whnf) <;> exact rfl)) | (apply OKx_boxA; exact rfl; intro _) | (apply OKx_ldBA; exact rfl; (first | exact at0 | exact at1 | exact at2 | exact at3 | exact at4 | exact at5 | exact at6 | exact at7); exact rfl) | (apply OKx_ldRA; ((conv => lhs; whnf) <;> exact rfl); (with_reducible assumption)) | (apply OKx_slit1; ((conv => lhs; whnf) <;> exact rfl); exact rfl; intro _))
    rw [← hbi]
    refine OK_loop3 10 11 26 [6, 7, 10, 11, 13, 14, 26, 27, 28, 29, 30, 31, 32, 33, 34, 35, 36, 37, 38, 39, 40, 41, 42, 43, 44, 45] (fun m u v2 v3 L => ∃ (k : Nat) (state : Int) (is : Bool), k + m = 1 ∧ u = .int .i64 state ∧ v2 = .bool is ∧ v3 = .int .i64 (k : Int) ∧ brInv (brK st (braL s i) k) state is ∧ L = [.row 3 1 (.slice (some ⟨g22, 0, none⟩) 1 1) (1) (ints (braL s i))]) (1) _ (Ent.pick [0] rfl) ⟨0, 0, false, by omega, rfl, rfl, rfl, .inl ⟨rfl, rfl, rfl⟩, rfl⟩ ?_
    rintro m u v2 v3 L G ⟨k, state, is, hm, rfl, rfl, rfl, hinv, rfl⟩
    by_cases hk : k < 1
    · have hst1 := hstep k (by omega)
      have hnk := hnat k (by omega)
      generalize hq : (braL s i).getD k 0 = q at *
      generalize hx : st.getD q.toNat 0 = x at *
      rcases hinv with ⟨rfl, rfl, hnil⟩ | ⟨rfl, r, hr, hall⟩
      · rw [hnil, List.nil_append] at hst1
        repeat' (first | (apply OK_seq) | (apply thenQ_n) | (apply OK_region) | (refine OKx_idxO (i := k) rfl rfl (by omega) ?_) | (refine OKx_ldI 0 rfl rfl (by omega) ?_; rw [hq]) | (refine OKx_idxRz rfl hsv rfl hnk.1 (by omega) ?_; rw [hx]; intro _ _) | (apply OKx_nilK) | (apply OK_block) | (apply blockQ_n) | (apply blockQ_s) | (apply thenQ_e) | (apply blockQ_e; exact rfl) | (apply thenQ_r) | (apply blockQ_r) | (apply OK_condT; exact rfl) | (apply OK_condF; exact rfl) | (apply OK_skip) | (apply OK_exit) | (apply OK_ret) | (apply OKx_move; ((conv => lhs; whnf) <;> exact rfl)) | (apply OKx_assign; ((conv => lhs; whnf) <;> exact rfl)) | (apply OKx_ldB; exact rfl; (first | exact at0 | exact at1 | exact at2 | exact at3 | exact at4 | exact at5 | exact at6 | exact at7); exact rfl) | (apply OKx_ldR; ((conv => lhs; whnf) <;> exact rfl); (with_reducible assumption)) | (apply OKx_ldI; exact rfl; (first | exact at0 | exact at1 | exact at2 | exact at3 | exact at4 | exact at5 | exact at6 | exact at7); omega) | (apply OKx_len; exact rfl) | (apply OKx_lenR; ((conv => lhs; whnf) <;> exact rfl); (with_reducible assumption)) | (apply OKx_lenR2; ((conv => lhs; whnf) <;> exact rfl); (with_reducible assumption)) | (apply OKx_lenO; ((conv => lhs; whnf) <;> exact rfl); (first | exact at0 | exact at1 | exact at2 | exact at3 | exact at4 | exact at5 | exact at6 | exact at7)) | (apply OKx_lss; exact rfl; exact rfl; all_goals (intro _; try (exfalso; omega))) | (apply OKx_neq; exact rfl; exact rfl; all_goals (intro _; try (exfalso; omega))) | (apply OKx_idxO; exact rfl; exact rfl; omega) | (apply OKx_idxR; ((conv => lhs; whnf) <;> exact rfl); (with_reducible assumption); exact rfl; omega; intro _ _) | (apply OKx_idxOz; exact rfl; exact rfl; omega; omega) | (apply OKx_idxRz; ((conv => lhs; whnf) <;> exact rfl); (with_reducible assumption); exact rfl; omega; omega; intro _ _) | (apply OKx_inc; exact rfl; exact rfl; omega) | (apply OKx_addN; exact rfl; exact rfl; omega) | (apply OKx_add; exact rfl; exact rfl; omega; omega) | (apply OKx_notT; exact rfl) | (apply OKx_notF; exact rfl) | (apply OKx_extract; exact rfl; ((conv => lhs; whnf) <;> exact rfl)) | (apply OKx_boxA; exact rfl; intro _) | (apply OKx_ldBA; exact rfl; (first | exact at0 | exact at1 | exact at2 | exact at3 | exact at4 | exact at5 | exact at6 | exact at7); exact rfl) | (apply OKx_ldRA; ((conv => lhs; whnf) <;> exact rfl); (with_reducible assumption)) | (apply OKx_slit1; ((conv => lhs; whnf) <;> exact rfl); exact rfl; intro _))
        · rw [if_neg (by omega)] at hst1
          refine ⟨by (repeat' (first | refine agree_upd rfl ?_ | exact agree_over | exact agree_refl _ _ | refine agree_over2 rfl ?_)), m - 1, _, by omega, Ent.refl _ _, ?_⟩
          exact ⟨k + 1, 0, false, by omega, rfl, rfl, rfl, .inl ⟨rfl, rfl, hst1⟩, rfl⟩
        · rw [if_pos (by omega)] at hst1
          refine ⟨by (repeat' (first | refine agree_upd rfl ?_ | exact agree_over | exact agree_refl _ _ | refine agree_over2 rfl ?_)), m - 1, _, by omega, Ent.refl _ _, ?_⟩
          exact ⟨k + 1, x, true, by omega, rfl, rfl, rfl, .inr ⟨rfl, [], hst1, fun y hy => by simp at hy⟩, rfl⟩
      · rw [hr, List.cons_append] at hst1
        repeat' (first | (apply OK_seq) | (apply thenQ_n) | (apply OK_region) | (refine OKx_idxO (i := k) rfl rfl (by omega) ?_) | (refine OKx_ldI 0 rfl rfl (by omega) ?_; rw [hq]) | (refine OKx_idxRz rfl hsv rfl hnk.1 (by omega) ?_; rw [hx]; intro _ _) | (apply OKx_nilK) | (apply OK_block) | (apply blockQ_n) | (apply blockQ_s) | (apply thenQ_e) | (apply blockQ_e; exact rfl) | (apply thenQ_r) | (apply blockQ_r) | (apply OK_condT; exact rfl) | (apply OK_condF; exact rfl) | (apply OK_skip) | (apply OK_exit) | (apply OK_ret) | (apply OKx_move; ((conv => lhs; whnf) <;> exact rfl)) | (apply OKx_assign; ((conv => lhs; whnf) <;> exact rfl)) | (apply OKx_ldB; exact rfl; (first | exact at0 | exact at1 | exact at2 | exact at3 | exact at4 | exact at5 | exact at6 | exact at7); exact rfl) | (apply OKx_ldR; ((conv => lhs; whnf) <;> exact rfl); (with_reducible assumption)) | (apply OKx_ldI; exact rfl; (first | exact at0 | exact at1 | exact at2 | exact at3 | exact at4 | exact at5 | exact at6 | exact at7); omega) | (apply OKx_len; exact rfl) | (apply OKx_lenR; ((conv => lhs; whnf) <;> exact rfl); (with_reducible assumption)) | (apply OKx_lenR2; ((conv => lhs; whnf) <;> exact rfl); (with_reducible assumption)) | (apply OKx_lenO; ((conv => lhs; whnf) <;> exact rfl); (first | exact at0 | exact at1 | exact at2 | exact at3 | exact at4 | exact at5 | exact at6 | exact at7)) | (apply OKx_lss; exact rfl; exact rfl; all_goals (intro _; try (exfalso; omega))) | (apply OKx_neq; exact rfl; exact rfl; all_goals (intro _; try (exfalso; omega))) | (apply OKx_idxO; exact rfl; exact rfl; omega) | (apply OKx_idxR; ((conv => lhs; whnf) <;> exact rfl); (with_reducible assumption); exact rfl; omega; intro _ _) | (apply OKx_idxOz; exact rfl; exact rfl; omega; omega) | (apply OKx_idxRz; ((conv => lhs; whnf) <;> exact rfl); (with_reducible assumption); exact rfl; omega; omega; intro _ _) | (apply OKx_inc; exact rfl; exact rfl; omega) | (apply OKx_addN; exact rfl; exact rfl; omega) | (apply OKx_add; exact rfl; exact rfl; omega; omega) | (apply OKx_notT; exact rfl) | (apply OKx_notF; exact rfl) | (apply OKx_extract; exact rfl; ((conv => lhs; whnf) <;> exact rfl)) | (apply OKx_boxA; exact rfl; intro _) | (apply OKx_ldBA; exact rfl; (first | exact at0 | exact at1 | exact at2 | exact at3 | exact at4 | exact at5 | exact at6 | exact at7); exact rfl) | (apply OKx_ldRA; ((conv => lhs; whnf) <;> exact rfl); (with_reducible assumption)) | (apply OKx_slit1; ((conv => lhs; whnf) <;> exact rfl); exact rfl; intro _))
        · rw [if_neg (by omega), List.append_nil] at hst1
          refine ⟨by (repeat' (first | refine agree_upd rfl ?_ | exact agree_over | exact agree_refl _ _ | refine agree_over2 rfl ?_)), m - 1, _, by omega, Ent.refl _ _, ?_⟩
          exact ⟨k + 1, state, true, by omega, rfl, rfl, rfl, .inr ⟨rfl, r, hst1, hall⟩, rfl⟩
        · rw [if_pos (by omega)] at hst1
          have hb := hbad (k + 1) state x (r ++ [x]) hst1 (by simp) (by assumption)
          first | refine bodyQ_r1 (by ((conv => lhs; whnf) <;> exact rfl)) ?_ | refine bodyQ_r2 (by ((conv => lhs; whnf) <;> exact rfl)) (by ((conv => lhs; whnf) <;> exact rfl)) ?_ | refine bodyQ_r3 (by ((conv => lhs; whnf) <;> exact rfl)) (by ((conv => lhs; whnf) <;> exact rfl)) (by ((conv => lhs; whnf) <;> exact rfl)) ?_ | refine bodyQ_r0 ?_ | refine bodyQ_n0 ?_
          exact ⟨_, Ent.nil, by rw [hb], rfl⟩
        · rw [if_pos (by omega)] at hst1
          refine ⟨by (repeat' (first | refine agree_upd rfl ?_ | exact agree_over | exact agree_refl _ _ | refine agree_over2 rfl ?_)), m - 1, _, by omega, Ent.refl _ _, ?_⟩
          refine ⟨k + 1, state, true, by omega, rfl, rfl, rfl, .inr ⟨rfl, _, hst1, fun y hy => ?_⟩, rfl⟩
          rcases List.mem_append.1 hy with hy | hy
          · exact hall y hy
          · rw [List.mem_singleton] at hy; omega
    · obtain rfl : k = (braL s i).length := by omega
      have hb := hres state is hinv
      repeat' (first | (apply OK_seq) | (apply thenQ_n) | (apply OK_region) | (apply OKx_nilK) | (apply OK_block) | (apply blockQ_n) | (apply blockQ_s) | (apply thenQ_e) | (apply blockQ_e; exact rfl) | (apply thenQ_r) | (apply blockQ_r) | (apply OK_condT; exact rfl) | (apply OK_condF; exact rfl) | (apply OK_skip) | (apply OK_exit) | (apply OK_ret) | (apply OKx_move; ((conv => lhs; whnf) <;> exact rfl)) | (apply OKx_assign; ((conv => lhs; whnf) <;> exact rfl)) | (apply OKx_ldB; exact rfl; (first | exact at0 | exact at1 | exact at2 | exact at3 | exact at4 | exact at5 | exact at6 | exact at7); exact rfl) | (apply OKx_ldR; ((conv => lhs; whnf) <;> exact rfl); (with_reducible assumption)) | (apply OKx_ldI; exact rfl; (first | exact at0 | exact at1 | exact at2 | exact at3 | exact at4 | exact at5 | exact at6 | exact at7); omega) | (apply OKx_len; exact rfl) | (apply OKx_lenR; ((conv => lhs; whnf) <;> exact rfl); (with_reducible assumption)) | (apply OKx_lenR2; ((conv => lhs; whnf) <;> exact rfl); (with_reducible assumption)) | (apply OKx_lenO; ((conv => lhs; whnf) <;> exact rfl); (first | exact at0 | exact at1 | exact at2 | exact at3 | exact at4 | exact at5 | exact at6 | exact at7)) | (apply OKx_lss; exact rfl; exact rfl; all_goals (intro _; try (exfalso; omega))) | (apply OKx_neq; exact rfl; exact rfl; all_goals (intro _; try (exfalso; omega))) | (apply OKx_idxO; exact rfl; exact rfl; omega) | (apply OKx_idxR; ((conv => lhs; whnf) <;> exact rfl); (with_reducible assumption); exact rfl; omega; intro _ _) | (apply OKx_idxOz; exact rfl; exact rfl; omega; omega) | (apply OKx_idxRz; ((conv => lhs; whnf) <;> exact rfl); (with_reducible assumption); exact rfl; omega; omega; intro _ _) | (apply OKx_inc; exact rfl; exact rfl; omega) | (apply OKx_addN; exact rfl; exact rfl; omega) | (apply OKx_add; exact rfl; exact rfl; omega; omega) | (apply OKx_notT; exact rfl) | (apply OKx_notF; exact rfl) | (apply OKx_extract; exact rfl; ((conv => lhs; whnf) <;> exact rfl)) | (apply OKx_boxA; exact rfl; intro _) | (apply OKx_ldBA; exact rfl; (first | exact at0 | exact at1 | exact at2 | exact at3 | exact at4 | exact at5 | exact at6 | exact at7); exact rfl) | (apply OKx_ldRA; ((conv => lhs; whnf) <;> exact rfl); (with_reducible assumption)) | (apply OKx_slit1; ((conv => lhs; whnf) <;> exact rfl); exact rfl; intro _))
      first | refine bodyQ_r1 (by ((conv => lhs; whnf) <;> exact rfl)) ?_ | refine bodyQ_r2 (by ((conv => lhs; whnf) <;> exact rfl)) (by ((conv => lhs; whnf) <;> exact rfl)) ?_ | refine bodyQ_r3 (by ((conv => lhs; whnf) <;> exact rfl)) (by ((conv => lhs; whnf) <;> exact rfl)) (by ((conv => lhs; whnf) <;> exact rfl)) ?_ | refine bodyQ_r0 ?_ | refine bodyQ_n0 ?_
      exact ⟨_, Ent.nil, by rw [hb], rfl⟩
  · obtain ⟨ga, rfl⟩ := ha (by omega)
    have hbl2 : (braL s i).length = 1 + n := by omega
    repeat' (first | (apply OK_seq) | (apply thenQ_n) | (apply OK_region) | (refine OKx_append 0 (M := n) (ys := ints (dsnL s.par i s.par.length)) rfl rfl rfl (by omega) (fun w1 hp j u hj => ?_) hone (by omega) (by omega) (by omega) ?_; rotate_left; intro g4 c4) | (apply OKx_nilK) | (apply OK_block) | (apply blockQ_n) | (apply blockQ_s) | (apply thenQ_e) | (apply blockQ_e; exact rfl) | (apply thenQ_r) | (apply blockQ_r) | (apply OK_condT; exact rfl) | (apply OK_condF; exact rfl) | (apply OK_skip) | (apply OK_exit) | (apply OK_ret) | (apply OKx_move; ((conv => lhs; whnf) <;> exact rfl)) | (apply OKx_assign; ((conv => lhs; whnf) <;> exact rfl)) | (apply OKx_ldB; exact rfl; (first | exact at0 | exact at1 | exact at2 | exact at3 | exact at4 | exact at5 | exact at6 | exact at7); exact rfl) | (apply OKx_ldR; ((conv => lhs; whnf) <;> exact rfl); (with_reducible assumption)) | (apply OKx_ldI; exact rfl; (first | exact at0 | exact at1 | exact at2 | exact at3 | exact at4 | exact at5 | exact at6 | exact at7); omega) | (apply OKx_len; exact rfl) | (apply OKx_lenR; ((conv => lhs; whnf) <;> exact rfl); (with_reducible assumption)) | (apply OKx_lenR2; ((conv => lhs; whnf) <;> exact rfl); (with_reducible assumption)) | (apply OKx_lenO; ((conv => lhs; whnf) <;> exact rfl); (first | exact at0 | exact at1 | exact at2 | exact at3 | exact at4 | exact at5 | exact at6 | exact at7)) | (apply OKx_lss; exact rfl; exact rfl; all_goals (intro _; try (exfalso; omega))) | (apply OKx_neq; exact rfl; exact rfl; all_goals (intro _; try (exfalso; omega))) | (apply OKx_idxO; exact rfl; exact rfl; omega) | (apply OKx_idxR; ((conv => lhs; whnf) <;> exact rfl); (with_reducible assumption); exact rfl; omega; intro _ _) | (apply OKx_idxOz; exact rfl; exact rfl; omega; omega) | (apply OKx_idxRz; ((conv => lhs; whnf) <;> exact rfl); (with_reducible assumption); exact rfl; omega; omega; intro _ _) | (apply OKx_inc; exact rfl; exact rfl; omega) | (apply OKx_addN; exact rfl; exact rfl; omega) | (apply OKx_add; exact rfl; exact rfl; omega; omega) | (apply OKx_notT; exact rfl) | (apply OKx_notF; exact rfl) | (apply OKx_extract; exact rfl; ((conv => lhs; whnf) <;> exact rfl)) | (apply OKx_boxA; exact rfl; intro _) | (apply OKx_ldBA; exact rfl; (first | exact at0 | exact at1 | exact at2 | exact at3 | exact at4 | exact at5 | exact at6 | exact at7); exact rfl) | (apply OKx_ldRA; ((conv => lhs; whnf) <;> exact rfl); (with_reducible assumption)) | (apply OKx_slit1; ((conv => lhs; whnf) <;> exact rfl); exact rfl; intro _))
    rotate_left
    · rw [Nat.zero_add, (hp.rowAt 1 rfl).1 j (by have := (List.getElem?_eq_some_iff.1 hj).1; omega), hj]
    refine OK_loop3 10 11 26 [6, 7, 10, 11, 13, 14, 26, 27, 28, 29, 30, 31, 32, 33, 34, 35, 36, 37, 38, 39, 40, 41, 42, 43, 44, 45] (fun m u v2 v3 L => ∃ (k : Nat) (state : Int) (is : Bool), k + m = 1 + n ∧ u = .int .i64 state ∧ v2 = .bool is ∧ v3 = .int .i64 (k : Int) ∧ brInv (brK st (braL s i) k) state is ∧ L = [.row 3 1 (.slice (some ⟨g4, 0, none⟩) (1 + n) c4) (1 + n) (ints (braL s i))]) (1 + n) _ (Ent.pick [0] rfl) ⟨0, 0, false, by omega, rfl, rfl, rfl, .inl ⟨rfl, rfl, rfl⟩, rfl⟩ ?_
    rintro m u v2 v3 L G ⟨k, state, is, hm, rfl, rfl, rfl, hinv, rfl⟩
    by_cases hk : k < 1 + n
    · have hst1 := hstep k (by omega)
      have hnk := hnat k (by omega)
      generalize hq : (braL s i).getD k 0 = q at *
      generalize hx : st.getD q.toNat 0 = x at *
      rcases hinv with ⟨rfl, rfl, hnil⟩ | ⟨rfl, r, hr, hall⟩
      · rw [hnil, List.nil_append] at hst1
        repeat' (first | (apply OK_seq) | (apply thenQ_n) | (apply OK_region) | (refine OKx_idxO (i := k) rfl rfl (by omega) ?_) | (refine OKx_ldI 0 rfl rfl (by omega) ?_; rw [hq]) | (refine OKx_idxRz rfl hsv rfl hnk.1 (by omega) ?_; rw [hx]; intro _ _) | (apply OKx_nilK) | (apply OK_block) | (apply blockQ_n) | (apply blockQ_s) | (apply thenQ_e) | (apply blockQ_e; exact rfl) | (apply thenQ_r) | (apply blockQ_r) | (apply OK_condT; exact rfl) | (apply OK_condF; exact rfl) | (apply OK_skip) | (apply OK_exit) | (apply OK_ret) | (apply OKx_move; ((conv => lhs; whnf) <;> exact rfl)) | (apply OKx_assign; ((conv => lhs; whnf) <;> exact rfl)) | (apply OKx_ldB; exact rfl; (first | exact at0 | exact at1 | exact at2 | exact at3 | exact at4 | exact at5 | exact at6 | exact at7); exact rfl) | (apply OKx_ldR; ((conv => lhs; whnf) <;> exact rfl); (with_reducible assumption)) | (apply OKx_ldI; exact rfl; (first | exact at0 | exact at1 | exact at2 | exact at3 | exact at4 | exact at5 | exact at6 | exact at7); omega) | (apply OKx_len; exact rfl) | (apply OKx_lenR; ((conv => lhs; whnf) <;> exact rfl); (with_reducible assumption)) | (apply OKx_lenR2; ((conv => lhs; whnf) <;> exact rfl); (with_reducible assumption)) | (apply OKx_lenO; ((conv => lhs; whnf) <;> exact rfl); (first | exact at0 | exact at1 | exact at2 | exact at3 | exact at4 | exact at5 | exact at6 | exact at7)) | (apply OKx_lss; exact rfl; exact rfl; all_goals (intro _; try (exfalso; omega))) | (apply OKx_neq; exact rfl; exact rfl; all_goals (intro _; try (exfalso; omega))) | (apply OKx_idxO; exact rfl; exact rfl; omega) | (apply OKx_idxR; ((conv => lhs; whnf) <;> exact rfl); (with_reducible assumption); exact rfl; omega; intro _ _) | (apply OKx_idxOz; exact rfl; exact rfl; omega; omega) | (apply OKx_idxRz; ((conv => lhs; whnf) <;> exact rfl); (with_reducible assumption); exact rfl; omega; omega; intro _ _) | (apply OKx_inc; exact rfl; exact rfl; omega) | (apply OKx_addN; exact rfl; exact rfl; omega) | (apply OKx_add; exact rfl; exact rfl; omega; omega) | (apply OKx_notT; exact rfl) | (apply OKx_notF; exact rfl) | (apply OKx_extract; exact rfl; ((conv => lhs; whnf) <;> exact rfl)) | (apply OKx_boxA; exact rfl; intro _) | (apply OKx_ldBA; exact rfl; (first | exact at0 | exact at1 | exact at2 | exact at3 | exact at4 | exact at5 | exact at6 | exact at7); exact rfl) | (apply OKx_ldRA; ((conv => lhs; whnf) <;> exact rfl); (with_reducible assumption)) | (apply OKx_slit1; ((conv => lhs; whnf) <;> exact rfl); exact rfl; intro _))
        · rw [if_neg (by omega)] at hst1
          refine ⟨by (repeat' (first | refine agree_upd rfl ?_ | exact agree_over | exact agree_refl _ _ | refine agree_over2 rfl ?_)), m - 1, _, by omega, Ent.refl _ _, ?_⟩
          exact ⟨k + 1, 0, false, by omega, rfl, rfl, rfl, .inl ⟨rfl, rfl, hst1⟩, rfl⟩
        · rw [if_pos (by omega)] at hst1
          refine ⟨by (repeat' (first | refine agree_upd rfl ?_ | exact agree_over | exact agree_refl _ _ | refine agree_over2 rfl ?_)), m - 1, _, by omega, Ent.refl _ _, ?_⟩
          exact ⟨k + 1, x, true, by omega, rfl, rfl, rfl, .inr ⟨rfl, [], hst1, fun y hy => by simp at hy⟩, rfl⟩
      · rw [hr, List.cons_append] at hst1
        repeat' (first | (apply OK_seq) | (apply thenQ_n) | (apply OK_region) | (refine OKx_idxO (i := k) rfl rfl (by omega) ?_) | (refine OKx_ldI 0 rfl rfl (by omega) ?_; rw [hq]) | (refine OKx_idxRz rfl hsv rfl hnk.1 (by omega) ?_; rw [hx]; intro _ _) | (apply OKx_nilK) | (apply OK_block) | (apply blockQ_n) | (apply blockQ_s) | (apply thenQ_e) | (apply blockQ_e; exact rfl) | (apply thenQ_r) | (apply blockQ_r) | (apply OK_condT; exact rfl) | (apply OK_condF; exact rfl) | (apply OK_skip) | (apply OK_exit) | (apply OK_ret) | (apply OKx_move; ((conv => lhs; whnf) <;> exact rfl)) | (apply OKx_assign; ((conv => lhs; whnf) <;> exact rfl)) | (apply OKx_ldB; exact rfl; (first | exact at0 | exact at1 | exact at2 | exact at3 | exact at4 | exact at5 | exact at6 | exact at7); exact rfl) | (apply OKx_ldR; ((conv => lhs; whnf) <;> exact rfl); (with_reducible assumption)) | (apply OKx_ldI; exact rfl; (first | exact at0 | exact at1 | exact at2 | exact at3 | exact at4 | exact at5 | exact at6 | exact at7); omega) | (apply OKx_len; exact rfl) | (apply OKx_lenR; ((conv => lhs; whnf) <;> exact rfl); (with_reducible assumption)) | (apply OKx_lenR2; ((conv => lhs; whnf) <;> exact rfl); (with_reducible assumption)) | (apply OKx_lenO; ((conv => lhs; whnf) <;> exact rfl); (first | exact at0 | exact at1 | exact at2 | exact at3 | exact at4 | exact at5 | exact at6 | exact at7)) | (apply OKx_lss; exact rfl; exact rfl; all_goals (intro _; try (exfalso; omega))) | (apply OKx_neq; exact rfl; exact rfl; all_goals (intro _; try (exfalso; omega))) | (apply OKx_idxO; exact rfl; exact rfl; omega) | (apply OKx_idxR; ((conv => lhs; whnf) <;> exact rfl); (with_reducible assumption); exact rfl; omega; intro _ _) | (apply OKx_idxOz; exact rfl; exact rfl; omega; omega) | (apply OKx_idxRz; ((conv => lhs; whnf) <;> exact rfl); (with_reducible assumption); exact rfl; omega; omega; intro _ _) | (apply OKx_inc; exact rfl; exact rfl; omega) | (apply OKx_addN; exact rfl; exact rfl; omega) | (apply OKx_add; exact rfl; exact rfl; omega; omega) | (apply OKx_notT; exact rfl) | (apply OKx_notF; exact rfl) | (apply OKx_extract; exact rfl; ((conv => lhs; whnf) <;> exact rfl)) | (apply OKx_boxA; exact rfl; intro _) | (apply OKx_ldBA; exact rfl; (first | exact at0 | exact at1 | exact at2 | exact at3 | exact at4 | exact at5 | exact at6 | exact at7); exact rfl) | (apply OKx_ldRA; ((conv => lhs; whnf) <;> exact rfl); (with_reducible assumption)) | (apply OKx_slit1; ((conv => lhs; whnf) <;> exact rfl); exact rfl; intro _))
        · rw [if_neg (by omega), List.append_nil] at hst1
          refine ⟨by (repeat' (first | refine agree_upd rfl ?_ | exact agree_over | exact agree_refl _ _ | refine agree_over2 rfl ?_)), m - 1, _, by omega, Ent.refl _ _, ?_⟩
          exact ⟨k + 1, state, true, by omega, rfl, rfl, rfl, .inr ⟨rfl, r, hst1, hall⟩, rfl⟩
        · rw [if_pos (by omega)] at hst1
          have hb := hbad (k + 1) state x (r ++ [x]) hst1 (by simp) (by assumption)
          first | refine bodyQ_r1 (by ((conv => lhs; whnf) <;> exact rfl)) ?_ | refine bodyQ_r2 (by ((conv => lhs; whnf) <;> exact rfl)) (by ((conv => lhs; whnf) <;> exact rfl)) ?_ | refine bodyQ_r3 (by ((conv => lhs; whnf) <;> exact rfl)) (by ((conv => lhs; whnf) <;> exact rfl)) (by ((conv => lhs; whnf) <;> exact rfl)) ?_ | refine bodyQ_r0 ?_ | refine bodyQ_n0 ?_
          exact ⟨_, Ent.nil, by rw [hb], rfl⟩
        · rw [if_pos (by omega)] at hst1
          refine ⟨by (repeat' (first | refine agree_upd rfl ?_ | exact agree_over | exact agree_refl _ _ | refine agree_over2 rfl ?_)), m - 1, _, by omega, Ent.refl _ _, ?_⟩
          refine ⟨k + 1, state, true, by omega, rfl, rfl, rfl, .inr ⟨rfl, _, hst1, fun y hy => ?_⟩, rfl⟩
          rcases List.mem_append.1 hy with hy | hy
          · exact hall y hy
          · rw [List.mem_singleton] at hy; omega
    · obtain rfl : k = (braL s i).length := by omega
      have hb := hres state is hinv
      repeat' (first | (apply OK_seq) | (apply thenQ_n) | (apply OK_region) | (apply OKx_nilK) | (apply OK_block) | (apply blockQ_n) | (apply blockQ_s) | (apply thenQ_e) | (apply blockQ_e; exact rfl) | (apply thenQ_r) | (apply blockQ_r) | (apply OK_condT; exact rfl) | (apply OK_condF; exact rfl) | (apply OK_skip) | (apply OK_exit) | (apply OK_ret) | (apply OKx_move; ((conv => lhs; whnf) <;> exact rfl)) | (apply OKx_assign; ((conv => lhs; whnf) <;> exact rfl)) | (apply OKx_ldB; exact rfl; (first | exact at0 | exact at1 | exact at2 | exact at3 | exact at4 | exact at5 | exact at6 | exact at7); exact rfl) | (apply OKx_ldR; ((conv => lhs; whnf) <;> exact rfl); (with_reducible assumption)) | (apply OKx_ldI; exact rfl; (first | exact at0 | exact at1 | exact at2 | exact at3 | exact at4 | exact at5 | exact at6 | exact at7); omega) | (apply OKx_len; exact rfl) | (apply OKx_lenR; ((conv => lhs; whnf) <;> exact rfl); (with_reducible assumption)) | (apply OKx_lenR2; ((conv => lhs; whnf) <;> exact rfl); (with_reducible assumption)) | (apply OKx_lenO; ((conv => lhs; whnf) <;> exact rfl); (first | exact at0 | exact at1 | exact at2 | exact at3 | exact at4 | exact at5 | exact at6 | exact at7)) | (apply OKx_lss; exact rfl; exact rfl; all_goals (intro _; try (exfalso; omega))) | (apply OKx_neq; exact rfl; exact rfl; all_goals (intro _; try (exfalso; omega))) | (apply OKx_idxO; exact rfl; exact rfl; omega) | (apply OKx_idxR; ((conv => lhs; whnf) <;> exact rfl); (with_reducible assumption); exact rfl; omega; intro _ _) | (apply OKx_idxOz; exact rfl; exact rfl; omega; omega) | (apply OKx_idxRz; ((conv => lhs; whnf) <;> exact rfl); (with_reducible assumption); exact rfl; omega; omega; intro _ _) | (apply OKx_inc; exact rfl; exact rfl; omega) | (apply OKx_addN; exact rfl; exact rfl; omega) | (apply OKx_add; exact rfl; exact rfl; omega; omega) | (apply OKx_notT; exact rfl) | (apply OKx_notF; exact rfl) | (apply OKx_extract; exact rfl; ((conv => lhs; whnf) <;> exact rfl)) | (apply OKx_boxA; exact rfl; intro _) | (apply OKx_ldBA; exact rfl; (first | exact at0 | exact at1 | exact at2 | exact at3 | exact at4 | exact at5 | exact at6 | exact at7); exact rfl) | (apply OKx_ldRA; ((conv => lhs; whnf) <;> exact rfl); (with_reducible assumption)) | (apply OKx_slit1; ((conv => lhs; whnf) <;> exact rfl); exact rfl; intro _))
      first | refine bodyQ_r1 (by ((conv => lhs; whnf) <;> exact rfl)) ?_ | refine bodyQ_r2 (by ((conv => lhs; whnf) <;> exact rfl)) (by ((conv => lhs; whnf) <;> exact rfl)) ?_ | refine bodyQ_r3 (by ((conv => lhs; whnf) <;> exact rfl)) (by ((conv => lhs; whnf) <;> exact rfl)) (by ((conv => lhs; whnf) <;> exact rfl)) ?_ | refine bodyQ_r0 ?_ | refine bodyQ_n0 ?_
      exact ⟨_, Ent.nil, by rw [hb], rfl⟩
end Go.Proofs.Ytmclgfipdgmomaa
namespace Go.Proofs.Ytmclgfipdgmomaa
def occ (st : List Int) : List Int := if srtK st 16 = [] then [0] else srtK st 16
theorem occ_ne (st : List Int) : occ st ≠ [] := by
  unfold occ
  split
  · simp
  · assumption
theorem occ_pos (st : List Int) : 0 < (occ st).length := List.length_pos_iff.2 (occ_ne st)
theorem occ_le (st : List Int) : (occ st).length ≤ 16 := by
  unfold occ
  split
  · simp
  · exact srtK_len _ _
theorem occ_range (st : List Int) : ∀ x ∈ occ st, 0 ≤ x ∧ x < 16 := by
  intro x hx
  unfold occ at hx
  split at hx
  · simp at hx; omega
  · have := (srtK_mem _ _ _).1 hx
    omega
def unk : List Int → Nat
  | [] => 0
  | x :: st => (if x < 0 then 1 else 0) + unk st
def many (st : List Int) : Bool := decide (65536 < (occ st).length ^ unk st)
def asgs (vs : List Int) : List Int → List (List Int)
  | [] => [[]]
  | x :: st => if x < 0 then vs.flatMap (fun v => (asgs vs st).map (v :: ·)) else (asgs vs st).map (x :: ·)
theorem flat_len {α β : Type} (f : α → List β) (c : Nat) : ∀ l : List α, (∀ x ∈ l, (f x).length = c) → (l.flatMap f).length = l.length * c
  | [], _ => by simp
  | x :: l, h => by rw [List.flatMap_cons, List.length_append, h x (by simp), flat_len f c l (fun y hy => h y (by simp [hy])), List.length_cons, Nat.succ_mul]; omega
theorem flat_congr {α β : Type} (f g : α → List β) : ∀ l : List α, (∀ x ∈ l, f x = g x) → l.flatMap f = l.flatMap g
  | [], _ => rfl
  | x :: l, h => by rw [List.flatMap_cons, List.flatMap_cons, h x (by simp), flat_congr f g l (fun y hy => h y (by simp [hy]))]
theorem asgs_len (vs st : List Int) : (asgs vs st).length = vs.length ^ unk st := by
  induction st with
  | nil => rfl
  | cons x st ih =>
    unfold asgs unk
    split
    · rw [flat_len _ (vs.length ^ unk st) vs (fun v _ => by rw [List.length_map, ih]), Nat.pow_add, Nat.pow_one]
    · simp [ih]
theorem asgs_mem (vs : List Int) : ∀ (st a : List Int), a ∈ asgs vs st ↔ a.length = st.length ∧ ∀ i, i < st.length → if st.getD i 0 < 0 then a.getD i 0 ∈ vs else a.getD i 0 = st.getD i 0 := by
  intro st
  induction st with
  | nil =>
    intro a
    unfold asgs
    simp only [List.mem_singleton, List.length_nil]
    constructor
    · rintro rfl; exact ⟨rfl, fun i hi => absurd hi (by omega)⟩
    · rintro ⟨h, _⟩; exact List.eq_nil_of_length_eq_zero h
  | cons x st ih =>
    intro a
    have key : ∀ (v : Int) (b : List Int), ((v :: b).length = (x :: st).length ∧ ∀ i, i < (x :: st).length → if (x :: st).getD i 0 < 0 then (v :: b).getD i 0 ∈ vs else (v :: b).getD i 0 = (x :: st).getD i 0) ↔
        (if x < 0 then v ∈ vs else v = x) ∧ b ∈ asgs vs st := by
      intro v b
      rw [ih b]
      constructor
      · rintro ⟨h1, h2⟩
        refine ⟨by have := h2 0 (by simp); simpa using this, by simpa using h1, fun i hi => ?_⟩
        have := h2 (i + 1) (by simp; omega)
        simpa using this
      · rintro ⟨h1, h2, h3⟩
        refine ⟨by simp [h2], fun i hi => ?_⟩
        cases i with
        | zero => simpa using h1
        | succ i =>
          have := h3 i (by simpa using hi)
          simpa using this
    unfold asgs
    split
    · rename_i hx
      simp only [List.mem_flatMap, List.mem_map]
      constructor
      · rintro ⟨v, hv, b, hb, rfl⟩
        exact (key v b).2 ⟨by rw [if_pos hx]; exact hv, hb⟩
      · intro h
        cases a with
        | nil => simp at h
        | cons v b =>
          have := (key v b).1 h
          rw [if_pos hx] at this
          exact ⟨v, this.1, b, this.2, rfl⟩
    · rename_i hx
      simp only [List.mem_map]
      constructor
      · rintro ⟨b, hb, rfl⟩
        exact (key x b).2 ⟨by rw [if_neg hx], hb⟩
      · intro h
        cases a with
        | nil => simp at h
        | cons v b =>
          have := (key v b).1 h
          rw [if_neg hx] at this
          exact ⟨b, this.2, by rw [this.1]⟩
def chgB (par : List (List Int)) (all : List Int) (i : Nat) : Bool := !(par.getD i []).isEmpty && !((par.getD i []).any fun p => all.getD p.toNat 0 == all.getD i 0)
def costN (par : List (List Int)) (all : List Int) : Nat := ((List.range par.length).filter (chgB par all)).length
def bstep (f : List Int → Nat) (o : List Int × Int) (a : List Int) : List Int × Int := if o.2 < 0 ∨ (f a : Int) < o.2 then (a, (f a : Int)) else o
def bestA (f : List Int → Nat) (l : List (List Int)) : List Int × Int := l.foldl (bstep f) ([], -1)
theorem bestA_snoc (f : List Int → Nat) (l : List (List Int)) (a : List Int) : bestA f (l ++ [a]) = bstep f (bestA f l) a := by
  unfold bestA; rw [List.foldl_append]; rfl
theorem bstep_zero (f : List Int → Nat) (o : List Int × Int) (h : o.2 = 0) (a : List Int) : bstep f o a = o := by
  unfold bstep; rw [if_neg (by omega)]
theorem fold_zero (f : List Int → Nat) (l : List (List Int)) (o : List Int × Int) (h : o.2 = 0) : l.foldl (bstep f) o = o := by
  induction l with
  | nil => rfl
  | cons a l ih => rw [List.foldl_cons, bstep_zero f o h a]; exact ih
theorem bestA_zero (f : List Int → Nat) (l l' : List (List Int)) (h : (bestA f l).2 = 0) : bestA f (l ++ l') = bestA f l := by
  unfold bestA at *
  rw [List.foldl_append]
  exact fold_zero f l' _ h
theorem bestA_spec (f : List Int → Nat) (l : List (List Int)) (hl : l ≠ []) : (bestA f l).1 ∈ l ∧ (bestA f l).2 = (f (bestA f l).1 : Int) ∧ ∀ b ∈ l, (bestA f l).2 ≤ (f b : Int) := by
  have key : ∀ l : List (List Int), (l = [] ∧ (bestA f l).2 = -1) ∨ ((bestA f l).1 ∈ l ∧ (bestA f l).2 = (f (bestA f l).1 : Int) ∧ ∀ b ∈ l, (bestA f l).2 ≤ (f b : Int)) := by
    intro l
    rw [← List.reverse_reverse l]
    generalize l.reverse = m
    induction m with
    | nil => exact .inl ⟨rfl, rfl⟩
    | cons a m ih =>
      right
      rw [List.reverse_cons, bestA_snoc]
      unfold bstep
      rcases ih with ⟨h1, h2⟩ | ⟨h1, h2, h3⟩
      · rw [if_pos (by omega), h1]
        exact ⟨by simp, rfl, fun b hb => by simp at hb; rw [hb]; exact Int.le_refl _⟩
      · by_cases hc : (bestA f m.reverse).2 < 0 ∨ (f a : Int) < (bestA f m.reverse).2
        · rw [if_pos hc]
          refine ⟨by simp, rfl, fun b hb => ?_⟩
          rcases List.mem_append.1 hb with hb | hb
          · have := h3 b hb
            have h4 : (f a : Int) < (bestA f m.reverse).2 := by omega
            show (f a : Int) ≤ f b
            omega
          · simp at hb; rw [hb]; exact Int.le_refl _
        · rw [if_neg hc]
          refine ⟨List.mem_append_left _ h1, h2, fun b hb => ?_⟩
          rcases List.mem_append.1 hb with hb | hb
          · exact h3 b hb
          · simp at hb; rw [hb]; omega
  rcases key l with ⟨h, _⟩ | h
  · exact absurd h hl
  · exact h
theorem asgs_ne (vs : List Int) (hv : 0 < vs.length) (st : List Int) : asgs vs st ≠ [] := by
  intro h
  have h1 := asgs_len vs st
  rw [h] at h1
  have := Nat.pow_pos (n := unk st) hv
  simp at h1
  omega
theorem unk_app (a b : List Int) : unk (a ++ b) = unk a + unk b := by
  induction a with
  | nil => simp [unk]
  | cons x a ih => rw [List.cons_append, unk, unk, ih]; omega
theorem unk_take (st : List Int) (k : Nat) : unk (st.take k) ≤ unk st := by
  have := unk_app (st.take k) (st.drop k)
  rw [List.take_append_drop] at this
  omega
theorem unk_step (st : List Int) (k : Nat) (h : k < st.length) : unk (st.take (k + 1)) = unk (st.take k) + if st.getD k 0 < 0 then 1 else 0 := by
  rw [List.take_succ_eq_append_getElem h, unk_app, getD_lt _ _ _ h]
  simp [unk]
theorem many_hit (st : List Int) (k : Nat) (h : 65536 < (occ st).length ^ unk (st.take k)) : many st = true := by
  unfold many
  have := Nat.pow_le_pow_right (occ_pos st) (unk_take st k)
  exact decide_eq_true (by omega)
theorem many_end (st : List Int) (h : (occ st).length ^ unk st ≤ 65536) : many st = false := decide_eq_false (by omega)
end Go.Proofs.Ytmclgfipdgmomaa
namespace Go.Proofs.Ytmclgfipdgmomaa
open Go.RowKit
def IdxW (p : Nat → Bool) (N : Nat) (u : Value) (L : List Res) : Prop := L = [] ∧ ((∃ k : Nat, k < N ∧ u = .int .i64 (k : Int) ∧ p k = true ∧ ∀ j, j < k → p j = false) ∨ (u = .int .i64 (-1) ∧ ∀ j, j < N → p j = false))
set_option maxRecDepth 100000 in
set_option maxHeartbeats 4000000 in
theorem indexW_int_sat (v : Value) (N : Nat) (e : Nat → Value) (p : Nat → Bool) (g : FuncId) (cs : Array Value) (w : World) (h : Sl w v 1 N e) (hf : ∀ k, k < N → ∀ w1, Below w.heap.size w w1 → SatV Try.prog g (e k :: cs.toList) w1 (.bool (p k))) :
    Sat Try.prog 78 [v, .func (.func g) #[] cs] w (IdxW p N) := by
  have hN := h.bound
  refine SatL.of 19 [4] Try.func78 (by kernel_rfl) (by kernel_rfl) rfl rfl rfl rfl ?_
  repeat' (first | (apply OK_seq) | (apply thenQ_n) | (apply OK_region) | (apply OKx_nilK) | (apply OK_block) | (apply blockQ_n) | (apply blockQ_s) | (apply thenQ_e) | (apply blockQ_e; exact rfl) | (apply thenQ_r) | (apply blockQ_r) | (apply OK_condT; exact rfl) | (apply OK_condF; exact rfl) | (apply OK_skip) | (apply OK_exit) | (apply OK_ret) | (apply OKx_move; ((conv => lhs; whnf) <;> exact rfl)) | (apply OKx_assign; ((conv => lhs; whnf) <;> exact rfl)) | (apply OKx_ldB; exact rfl; (first | exact at0 | exact at1 | exact at2 | exact at3 | exact at4 | exact at5 | exact at6 | exact at7); exact rfl) | (apply OKx_ldR; ((conv => lhs; whnf) <;> exact rfl); (with_reducible assumption)) | (apply OKx_ldI; exact rfl; (first | exact at0 | exact at1 | exact at2 | exact at3 | exact at4 | exact at5 | exact at6 | exact at7); omega) | (apply OKx_len; exact rfl) | (apply OKx_lenR; ((conv => lhs; whnf) <;> exact rfl); (with_reducible assumption)) | (apply OKx_lenR2; ((conv => lhs; whnf) <;> exact rfl); (with_reducible assumption)) | (apply OKx_lenO; ((conv => lhs; whnf) <;> exact rfl); (first | exact at0 | exact at1 | exact at2 | exact at3 | exact at4 | exact at5 | exact at6 | exact at7)) | (apply OKx_lss; exact rfl; exact rfl; all_goals (intro _; try (exfalso; omega))) | (apply OKx_idxO; exact rfl; exact rfl; omega) | (apply OKx_idxR; ((conv => lhs; whnf) <;> exact rfl); (with_reducible assumption); exact rfl; omega; intro _ _) | (apply OKx_idxOz; exact rfl; exact rfl; omega; omega) | (apply OKx_idxRz; ((conv => lhs; whnf) <;> exact rfl); (with_reducible assumption); exact rfl; omega; omega; intro _ _) | (apply OKx_inc; exact rfl; exact rfl; omega) | (apply OKx_addN; exact rfl; exact rfl; omega) | (apply OKx_add; exact rfl; exact rfl; omega; omega))
  refine OK_loop1 8 [4, 5, 8, 9, 10, 11, 12, 13, 14, 15, 16, 17, 18] (fun m v L => ∃ k : Nat, k + m = N ∧ v = .int .i64 (k : Int) ∧ (∀ j, j < k → p j = false) ∧ L = []) N [] (Ent.refl _ _) ⟨0, by omega, rfl, fun j hj => absurd hj (by omega), rfl⟩ ?_
  rintro m v' L G ⟨k, hm, rfl, H, rfl⟩
  repeat' (first | (apply OK_seq) | (apply thenQ_n) | (apply OK_region) | (refine OKx_callB (f := g) rfl rfl rfl (fun w hp => hf k (by omega) w hp.below) ?_ ?_ <;> intro hq) | (apply OKx_nilK) | (apply OK_block) | (apply blockQ_n) | (apply blockQ_s) | (apply thenQ_e) | (apply blockQ_e; exact rfl) | (apply thenQ_r) | (apply blockQ_r) | (apply OK_condT; exact rfl) | (apply OK_condF; exact rfl) | (apply OK_skip) | (apply OK_exit) | (apply OK_ret) | (apply OKx_move; ((conv => lhs; whnf) <;> exact rfl)) | (apply OKx_assign; ((conv => lhs; whnf) <;> exact rfl)) | (apply OKx_ldB; exact rfl; (first | exact at0 | exact at1 | exact at2 | exact at3 | exact at4 | exact at5 | exact at6 | exact at7); exact rfl) | (apply OKx_ldR; ((conv => lhs; whnf) <;> exact rfl); (with_reducible assumption)) | (apply OKx_ldI; exact rfl; (first | exact at0 | exact at1 | exact at2 | exact at3 | exact at4 | exact at5 | exact at6 | exact at7); omega) | (apply OKx_len; exact rfl) | (apply OKx_lenR; ((conv => lhs; whnf) <;> exact rfl); (with_reducible assumption)) | (apply OKx_lenR2; ((conv => lhs; whnf) <;> exact rfl); (with_reducible assumption)) | (apply OKx_lenO; ((conv => lhs; whnf) <;> exact rfl); (first | exact at0 | exact at1 | exact at2 | exact at3 | exact at4 | exact at5 | exact at6 | exact at7)) | (apply OKx_lss; exact rfl; exact rfl; all_goals (intro _; try (exfalso; omega))) | (apply OKx_idxO; exact rfl; exact rfl; omega) | (apply OKx_idxR; ((conv => lhs; whnf) <;> exact rfl); (with_reducible assumption); exact rfl; omega; intro _ _) | (apply OKx_idxOz; exact rfl; exact rfl; omega; omega) | (apply OKx_idxRz; ((conv => lhs; whnf) <;> exact rfl); (with_reducible assumption); exact rfl; omega; omega; intro _ _) | (apply OKx_inc; exact rfl; exact rfl; omega) | (apply OKx_addN; exact rfl; exact rfl; omega) | (apply OKx_add; exact rfl; exact rfl; omega; omega))
  · first | refine bodyQ_r1 (by ((conv => lhs; whnf) <;> exact rfl)) ?_ | refine bodyQ_r2 (by ((conv => lhs; whnf) <;> exact rfl)) (by ((conv => lhs; whnf) <;> exact rfl)) ?_ | refine bodyQ_r3 (by ((conv => lhs; whnf) <;> exact rfl)) (by ((conv => lhs; whnf) <;> exact rfl)) (by ((conv => lhs; whnf) <;> exact rfl)) ?_ | refine bodyQ_r0 ?_ | refine bodyQ_n0 ?_
    exact ⟨_, Ent.refl _ _, rfl, .inl ⟨k, by omega, rfl, hq, H⟩⟩
  · refine ⟨by (repeat' (first | refine agree_upd rfl ?_ | exact agree_over | exact agree_refl _ _ | refine agree_over2 rfl ?_)), m - 1, _, by omega, Ent.refl _ _, ?_⟩
    refine ⟨k + 1, by omega, rfl, fun j hj => ?_, rfl⟩
    by_cases hjk : j < k
    · exact H j hjk
    · obtain rfl : j = k := by omega
      exact hq
  · first | refine bodyQ_r1 (by ((conv => lhs; whnf) <;> exact rfl)) ?_ | refine bodyQ_r2 (by ((conv => lhs; whnf) <;> exact rfl)) (by ((conv => lhs; whnf) <;> exact rfl)) ?_ | refine bodyQ_r3 (by ((conv => lhs; whnf) <;> exact rfl)) (by ((conv => lhs; whnf) <;> exact rfl)) (by ((conv => lhs; whnf) <;> exact rfl)) ?_ | refine bodyQ_r0 ?_ | refine bodyQ_n0 ?_
    exact ⟨_, Ent.refl _ _, rfl, .inr ⟨rfl, fun j hj => H j (by omega)⟩⟩
theorem find_first (P : Int → Bool) : ∀ (xs : List Int) (i : Nat), i < xs.length → P (xs.getD i 0) = true → (∀ j, j < i → P (xs.getD j 0) = false) → xs.find? P = some (xs.getD i 0) := by
  intro xs
  induction xs with
  | nil => intro i h; simp at h
  | cons x xs ih =>
    intro i hi h1 h2
    cases i with
    | zero =>
      have e : P x = true := h1
      rw [List.find?_cons_of_pos e]; rfl
    | succ i =>
      have e : ¬ P x = true := by have := h2 0 (by omega); simpa using this
      rw [List.find?_cons_of_neg e]
      exact ih i (by simpa using hi) h1 (fun j hj => h2 (j + 1) (by omega))
end Go.Proofs.Ytmclgfipdgmomaa
namespace Go.Proofs.Ytmclgfipdgmomaa
open Go.RowKit
def badS (x : Int) : Bool := decide (x < -1) || decide (16 ≤ x)
def chkC (s : Stem) (st : List Int) : Int := if stCheck s ≠ 0 then 1 else if st.length ≠ s.par.length then 9 else if st.any badS = true then 2 else 0
theorem chkC_zero {s : Stem} {st : List Int} (h : chkC s st = 0) : stCheck s = 0 ∧ st.length = s.par.length ∧ ∀ x ∈ st, -1 ≤ x ∧ x < 16 := by
  unfold chkC at h
  split at h
  · omega
  split at h
  · omega
  split at h
  · omega
  · rename_i h1 h2 h3
    refine ⟨by simpa using h1, by simpa using h2, fun x hx => ?_⟩
    rw [Bool.not_eq_true, List.any_eq_false] at h3
    have := h3 x hx
    unfold badS at this
    simp at this
    omega
theorem anyN_any (xs : List Int) (P : Int → Bool) : anyN (fun j => P (xs.getD j 0)) xs.length = xs.any P := by
  cases h : xs.any P with
  | true =>
    obtain ⟨x, hx, hp⟩ := List.any_eq_true.1 h
    obtain ⟨j, hj, rfl⟩ := List.getElem_of_mem hx
    exact anyN_hit hj (by rw [getD_lt _ _ _ hj]; exact hp)
  | false =>
    rw [List.any_eq_false] at h
    exact anyN_none fun j hj => by
      have := h _ (List.getElem_mem hj)
      rw [getD_lt _ _ _ hj]
      simpa using this
set_option maxRecDepth 100000 in
set_option maxHeartbeats 4000000 in
theorem ck1_sat (x : Int) (w : World) : SatV Try.prog 66 [.int .i64 x] w (.bool (badS x)) := by
  refine SatL.of 9 [2] Try.func66 (by kernel_rfl) (by kernel_rfl) rfl rfl rfl rfl ?_
  repeat' (first | (apply OK_seq) | (apply thenQ_n) | (apply OK_region) | (apply OKx_nilK) | (apply OK_block) | (apply blockQ_n) | (apply blockQ_s) | (apply thenQ_e) | (apply blockQ_e; exact rfl) | (apply thenQ_r) | (apply blockQ_r) | (apply OK_condT; exact rfl) | (apply OK_condF; exact rfl) | (apply OK_skip) | (apply OK_exit) | (apply OK_ret) | (apply OKx_move; ((conv => lhs; whnf) <;> exact rfl)) | (apply OKx_assign; ((conv => lhs; whnf) <;> exact rfl)) | (apply OKx_lss; exact rfl; exact rfl; all_goals (intro _; try (exfalso; omega))) | (apply OKx_geq; exact rfl; exact rfl; all_goals (intro _; try (exfalso; omega))) | (apply OKx_pickT; exact rfl; ((conv => lhs; whnf) <;> exact rfl)) | (apply OKx_pickF; exact rfl; ((conv => lhs; whnf) <;> exact rfl)) | (apply OKx_guardT; exact rfl; exact rfl) | (apply OKx_guardF; exact rfl; exact rfl) | (apply OKx_guardU; exact rfl; exact rfl))
  all_goals
    first | refine bodyQ_r1 (by ((conv => lhs; whnf) <;> exact rfl)) ?_ | refine bodyQ_r2 (by ((conv => lhs; whnf) <;> exact rfl)) (by ((conv => lhs; whnf) <;> exact rfl)) ?_ | refine bodyQ_r3 (by ((conv => lhs; whnf) <;> exact rfl)) (by ((conv => lhs; whnf) <;> exact rfl)) (by ((conv => lhs; whnf) <;> exact rfl)) ?_ | refine bodyQ_r0 ?_ | refine bodyQ_n0 ?_
    refine ⟨_, Ent.nil, bool_eq ?_, rfl⟩
    unfold badS
    first
      | (rw [decide_eq_true (p := x < -1) (by omega)]; rfl)
      | (rw [decide_eq_false (p := x < -1) (by omega), decide_eq_true (p := 16 ≤ x) (by omega)]; rfl)
      | (rw [decide_eq_false (p := x < -1) (by omega), decide_eq_false (p := 16 ≤ x) (by omega)]; rfl)
set_option maxRecDepth 100000 in
set_option maxHeartbeats 4000000 in
theorem Chk_sat (v sv : Value) (s : Stem) (st : List Int) (w : World) (h : Stm w v s) (hs : Ints w sv st) : SatV Try.prog 23 [v, sv] w (.int .i64 (chkC s st)) := by
  have hst := h
  obtain ⟨nv, ev, pv, rfl, hS, _, hP⟩ := h
  obtain ⟨fv, hpv, hrow⟩ := hP.rows
  have hsv := hs.sl
  have hpb := hpv.bound
  have hsb := hsv.bound
  refine SatL.of 19 [4] Try.func23 (by kernel_rfl) (by kernel_rfl) rfl rfl rfl rfl ?_
  repeat' (first | (apply OK_seq) | (apply thenQ_n) | (apply OK_region) | (refine OKx_callV (f := 48) rfl rfl rfl (fun w1 hp => stCheck_sat _ s w1 (hst.below hp.below)) ?_) | (refine OKx_callB (f := 45) (b := st.any badS) rfl rfl rfl (fun w1 hp => by rw [← anyN_any]; exact containsF_int_sat _ _ _ _ _ _ w1 (hsv.below hp.below) (fun j hj w2 hb2 => ck1_sat _ w2)) ?_ ?_ <;> intro hq) | (apply OKx_nilK) | (apply OK_block) | (apply blockQ_n) | (apply blockQ_s) | (apply thenQ_e) | (apply blockQ_e; exact rfl) | (apply thenQ_r) | (apply blockQ_r) | (apply OK_condT; exact rfl) | (apply OK_condF; exact rfl) | (apply OK_skip) | (apply OK_exit) | (apply OK_ret) | (apply OKx_move; ((conv => lhs; whnf) <;> exact rfl)) | (apply OKx_assign; ((conv => lhs; whnf) <;> exact rfl)) | (apply OKx_ldB; exact rfl; (first | exact at0 | exact at1 | exact at2 | exact at3 | exact at4 | exact at5 | exact at6 | exact at7); exact rfl) | (apply OKx_ldR; ((conv => lhs; whnf) <;> exact rfl); (with_reducible assumption)) | (apply OKx_len; exact rfl) | (apply OKx_lenR; ((conv => lhs; whnf) <;> exact rfl); (with_reducible assumption)) | (apply OKx_lenR2; ((conv => lhs; whnf) <;> exact rfl); (with_reducible assumption)) | (apply OKx_lenO; ((conv => lhs; whnf) <;> exact rfl); (first | exact at0 | exact at1 | exact at2 | exact at3 | exact at4 | exact at5 | exact at6 | exact at7)) | (apply OKx_neq; exact rfl; exact rfl; all_goals (intro _; try (exfalso; omega))) | (apply OKx_fldO; exact rfl; exact rfl) | (apply OKx_fldR; ((conv => lhs; whnf) <;> exact rfl); (with_reducible assumption); decide; intro _ _) | (apply OKx_boxA; exact rfl; intro _) | (apply OKx_ldBA; exact rfl; (first | exact at0 | exact at1 | exact at2 | exact at3 | exact at4 | exact at5 | exact at6 | exact at7); exact rfl) | (apply OKx_ldRA; ((conv => lhs; whnf) <;> exact rfl); (with_reducible assumption)))
  all_goals
    first | refine bodyQ_r1 (by ((conv => lhs; whnf) <;> exact rfl)) ?_ | refine bodyQ_r2 (by ((conv => lhs; whnf) <;> exact rfl)) (by ((conv => lhs; whnf) <;> exact rfl)) ?_ | refine bodyQ_r3 (by ((conv => lhs; whnf) <;> exact rfl)) (by ((conv => lhs; whnf) <;> exact rfl)) (by ((conv => lhs; whnf) <;> exact rfl)) ?_ | refine bodyQ_r0 ?_ | refine bodyQ_n0 ?_
    refine ⟨_, Ent.nil, int_eq ?_, rfl⟩
    unfold chkC
    first
      | rw [if_pos (by omega)]
      | rw [if_neg (by omega), if_pos (by omega)]
      | rw [if_neg (by omega), if_neg (by omega), if_pos hq]
      | rw [if_neg (by omega), if_neg (by omega), if_neg (by rw [hq]; simp)]
def pos0 (st : List Int) (k : Nat) : List Int := (st.take k).filter (fun x => decide (0 ≤ x))
theorem pos0_step (st : List Int) (k : Nat) (h : k < st.length) : pos0 st (k + 1) = pos0 st k ++ if 0 ≤ st.getD k 0 then [st.getD k 0] else [] := by
  unfold pos0
  rw [List.take_succ_eq_append_getElem h, List.filter_append, getD_lt _ _ _ h]
  congr 1
  by_cases h0 : 0 ≤ st[k]
  · simp [h0]
  · simp [h0]
theorem pos0_mem (st : List Int) (k : Nat) (hk : st.length ≤ k) (x : Int) : x ∈ pos0 st k ↔ x ∈ st ∧ 0 ≤ x := by
  unfold pos0
  rw [List.take_of_length_le hk, List.mem_filter]
  simp
theorem occ_nil (st : List Int) (k : Nat) (hk : st.length ≤ k) (h : (pos0 st k).length = 0) : occ st = [0] := by
  unfold occ
  rw [if_pos]
  rw [List.eq_nil_iff_forall_not_mem]
  intro x hx
  have h1 := (srtK_mem _ _ _).1 hx
  have h2 := (pos0_mem st k hk x).2 ⟨h1.1, h1.2.1⟩
  rw [List.eq_nil_of_length_eq_zero h] at h2
  simp at h2
theorem occ_cons (st : List Int) (k : Nat) (hk : st.length ≤ k) (hr : ∀ x ∈ st, x < 16) (h : (pos0 st k).length ≠ 0) : Lib.compact (srtL (pos0 st k)) = occ st := by
  have e : Lib.compact (srtL (pos0 st k)) = srtK st 16 := by
    refine asc_ext _ _ (compact_asc _ (srtL_le _)) (srtK_asc _ _) fun x => ?_
    rw [compact_mem, srtL_mem, pos0_mem st k hk, srtK_mem]
    constructor
    · rintro ⟨h1, h2⟩; exact ⟨h1, h2, hr x h1⟩
    · rintro ⟨h1, h2, _⟩; exact ⟨h1, h2⟩
  have hne : srtK st 16 ≠ [] := by
    rw [← e]
    intro h0
    have : pos0 st k ≠ [] := fun h1 => h (by rw [h1]; rfl)
    obtain ⟨x, hx⟩ := List.exists_mem_of_ne_nil _ this
    have h2 := (compact_mem (srtL (pos0 st k)) x).2 ((srtL_mem _ _).2 hx)
    rw [h0] at h2
    simp at h2
  unfold occ
  rw [if_neg hne]
  exact e
def OccR (st : List Int) (u : Value) (L : List Res) : Prop := ∃ g n c, n = (occ st).length ∧ u = .slice (some ⟨g, 0, none⟩) n c ∧ L = [.row 3 1 u n (ints (occ st))]
set_option maxRecDepth 100000 in
set_option maxHeartbeats 4000000 in
theorem occur_sat (v : Value) (st : List Int) (w : World) (h : Ints w v st) (hr : ∀ x ∈ st, x < 16) (hl : st.length ≤ 1000) : Sat Try.prog 112 [v] w (OccR st) := by
  have hv := h.sl
  refine SatL.of 27 [2] Try.func112 (by kernel_rfl) (by kernel_rfl) rfl rfl rfl rfl ?_
  repeat' (first | (apply OK_seq) | (apply thenQ_n) | (apply OK_region) | (apply OKx_nilK) | (apply OK_block) | (apply blockQ_n) | (apply blockQ_s) | (apply thenQ_e) | (apply blockQ_e; exact rfl) | (apply thenQ_r) | (apply blockQ_r) | (apply OK_condT; exact rfl) | (apply OK_condF; exact rfl) | (apply OK_skip) | (apply OK_exit) | (apply OK_ret) | (apply OKx_move; ((conv => lhs; whnf) <;> exact rfl)) | (apply OKx_assign; ((conv => lhs; whnf) <;> exact rfl)) | (apply OKx_ldB; exact rfl; (first | exact at0 | exact at1 | exact at2 | exact at3 | exact at4 | exact at5 | exact at6 | exact at7); exact rfl) | (apply OKx_ldR; ((conv => lhs; whnf) <;> exact rfl); (with_reducible assumption)) | (apply OKx_ldI; exact rfl; (first | exact at0 | exact at1 | exact at2 | exact at3 | exact at4 | exact at5 | exact at6 | exact at7); omega) | (apply OKx_len; exact rfl) | (apply OKx_lenR; ((conv => lhs; whnf) <;> exact rfl); (with_reducible assumption)) | (apply OKx_lenR2; ((conv => lhs; whnf) <;> exact rfl); (with_reducible assumption)) | (apply OKx_lenO; ((conv => lhs; whnf) <;> exact rfl); (first | exact at0 | exact at1 | exact at2 | exact at3 | exact at4 | exact at5 | exact at6 | exact at7)) | (apply OKx_lss; exact rfl; exact rfl; all_goals (intro _; try (exfalso; omega))) | (apply OKx_geq; exact rfl; exact rfl; all_goals (intro _; try (exfalso; omega))) | (apply OKx_eql; exact rfl; exact rfl; all_goals (intro _; try (exfalso; omega))) | (apply OKx_idxO; exact rfl; exact rfl; omega) | (apply OKx_idxR; ((conv => lhs; whnf) <;> exact rfl); (with_reducible assumption); exact rfl; omega; intro _ _) | (apply OKx_idxOz; exact rfl; exact rfl; omega; omega) | (apply OKx_idxRz; ((conv => lhs; whnf) <;> exact rfl); (with_reducible assumption); exact rfl; omega; omega; intro _ _) | (apply OKx_inc; exact rfl; exact rfl; omega) | (apply OKx_addN; exact rfl; exact rfl; omega) | (apply OKx_add; exact rfl; exact rfl; omega; omega) | (apply OKx_slit1; ((conv => lhs; whnf) <;> exact rfl); exact rfl; intro _))
  refine OK_loop2 3 8 [3, 5, 8, 9, 10, 11, 12, 13, 14, 15, 16, 17, 18] (fun m u v L => ∃ (k n : Nat) (a : Option Addr) (c : Nat), k + m = st.length ∧ n = (pos0 st k).length ∧ n ≤ k ∧ u = .slice a n c ∧ (n = 0 ∨ ∃ g, a = some ⟨g, 0, none⟩) ∧ v = .int .i64 (k : Int) ∧ L = [.row 3 1 (.slice a n c) n (ints (pos0 st k))]) st.length _ (Ent.mk fun w1 hp => hp.nil 3 1) ⟨0, 0, none, 0, by omega, rfl, by omega, rfl, .inl rfl, rfl, rfl⟩ ?_
  rintro m u v L G ⟨k, n, a, c, hm, hn, hnk, rfl, ha, rfl, rfl⟩
  by_cases hk : k < st.length
  · have hs := pos0_step st k hk
    generalize hys : pos0 st k = ys at *
    repeat' (first | (apply OK_seq) | (apply thenQ_n) | (apply OK_region) | (refine OKx_appI 1 0 rfl rfl rfl rfl (by omega) (by omega) ?_; intro g2 c2) | (apply OKx_nilK) | (apply OK_block) | (apply blockQ_n) | (apply blockQ_s) | (apply thenQ_e) | (apply blockQ_e; exact rfl) | (apply thenQ_r) | (apply blockQ_r) | (apply OK_condT; exact rfl) | (apply OK_condF; exact rfl) | (apply OK_skip) | (apply OK_exit) | (apply OK_ret) | (apply OKx_move; ((conv => lhs; whnf) <;> exact rfl)) | (apply OKx_assign; ((conv => lhs; whnf) <;> exact rfl)) | (apply OKx_ldB; exact rfl; (first | exact at0 | exact at1 | exact at2 | exact at3 | exact at4 | exact at5 | exact at6 | exact at7); exact rfl) | (apply OKx_ldR; ((conv => lhs; whnf) <;> exact rfl); (with_reducible assumption)) | (apply OKx_ldI; exact rfl; (first | exact at0 | exact at1 | exact at2 | exact at3 | exact at4 | exact at5 | exact at6 | exact at7); omega) | (apply OKx_len; exact rfl) | (apply OKx_lenR; ((conv => lhs; whnf) <;> exact rfl); (with_reducible assumption)) | (apply OKx_lenR2; ((conv => lhs; whnf) <;> exact rfl); (with_reducible assumption)) | (apply OKx_lenO; ((conv => lhs; whnf) <;> exact rfl); (first | exact at0 | exact at1 | exact at2 | exact at3 | exact at4 | exact at5 | exact at6 | exact at7)) | (apply OKx_lss; exact rfl; exact rfl; all_goals (intro _; try (exfalso; omega))) | (apply OKx_geq; exact rfl; exact rfl; all_goals (intro _; try (exfalso; omega))) | (apply OKx_eql; exact rfl; exact rfl; all_goals (intro _; try (exfalso; omega))) | (apply OKx_idxO; exact rfl; exact rfl; omega) | (apply OKx_idxR; ((conv => lhs; whnf) <;> exact rfl); (with_reducible assumption); exact rfl; omega; intro _ _) | (apply OKx_idxOz; exact rfl; exact rfl; omega; omega) | (apply OKx_idxRz; ((conv => lhs; whnf) <;> exact rfl); (with_reducible assumption); exact rfl; omega; omega; intro _ _) | (apply OKx_inc; exact rfl; exact rfl; omega) | (apply OKx_addN; exact rfl; exact rfl; omega) | (apply OKx_add; exact rfl; exact rfl; omega; omega) | (apply OKx_slit1; ((conv => lhs; whnf) <;> exact rfl); exact rfl; intro _))
    · rw [if_pos (by assumption)] at hs
      refine ⟨by (repeat' (first | refine agree_upd rfl ?_ | exact agree_over | exact agree_refl _ _ | refine agree_over2 rfl ?_)), m - 1, _, by omega, Ent.pick [1] rfl, ?_⟩
      exact ⟨k + 1, n + 1, some ⟨g2, 0, none⟩, c2, by omega, by rw [hs, List.length_append, hn]; rfl, by omega, rfl, .inr ⟨g2, rfl⟩, rfl, by rw [hs]; rfl⟩
    · rw [if_neg (by omega), List.append_nil] at hs
      refine ⟨by (repeat' (first | refine agree_upd rfl ?_ | exact agree_over | exact agree_refl _ _ | refine agree_over2 rfl ?_)), m - 1, _, by omega, Ent.refl _ _, ?_⟩
      exact ⟨k + 1, n, a, c, by omega, by rw [hs]; exact hn, by omega, rfl, ha, rfl, by rw [hs]⟩
  · have hkl : st.length ≤ k := by omega
    by_cases hn0 : n = 0
    · subst hn0
      repeat' (first | (apply OK_seq) | (apply thenQ_n) | (apply OK_region) | (apply OKx_nilK) | (apply OK_block) | (apply blockQ_n) | (apply blockQ_s) | (apply thenQ_e) | (apply blockQ_e; exact rfl) | (apply thenQ_r) | (apply blockQ_r) | (apply OK_condT; exact rfl) | (apply OK_condF; exact rfl) | (apply OK_skip) | (apply OK_exit) | (apply OK_ret) | (apply OKx_move; ((conv => lhs; whnf) <;> exact rfl)) | (apply OKx_assign; ((conv => lhs; whnf) <;> exact rfl)) | (apply OKx_ldB; exact rfl; (first | exact at0 | exact at1 | exact at2 | exact at3 | exact at4 | exact at5 | exact at6 | exact at7); exact rfl) | (apply OKx_ldR; ((conv => lhs; whnf) <;> exact rfl); (with_reducible assumption)) | (apply OKx_ldI; exact rfl; (first | exact at0 | exact at1 | exact at2 | exact at3 | exact at4 | exact at5 | exact at6 | exact at7); omega) | (apply OKx_len; exact rfl) | (apply OKx_lenR; ((conv => lhs; whnf) <;> exact rfl); (with_reducible assumption)) | (apply OKx_lenR2; ((conv => lhs; whnf) <;> exact rfl); (with_reducible assumption)) | (apply OKx_lenO; ((conv => lhs; whnf) <;> exact rfl); (first | exact at0 | exact at1 | exact at2 | exact at3 | exact at4 | exact at5 | exact at6 | exact at7)) | (apply OKx_lss; exact rfl; exact rfl; all_goals (intro _; try (exfalso; omega))) | (apply OKx_geq; exact rfl; exact rfl; all_goals (intro _; try (exfalso; omega))) | (apply OKx_eql; exact rfl; exact rfl; all_goals (intro _; try (exfalso; omega))) | (apply OKx_idxO; exact rfl; exact rfl; omega) | (apply OKx_idxR; ((conv => lhs; whnf) <;> exact rfl); (with_reducible assumption); exact rfl; omega; intro _ _) | (apply OKx_idxOz; exact rfl; exact rfl; omega; omega) | (apply OKx_idxRz; ((conv => lhs; whnf) <;> exact rfl); (with_reducible assumption); exact rfl; omega; omega; intro _ _) | (apply OKx_inc; exact rfl; exact rfl; omega) | (apply OKx_addN; exact rfl; exact rfl; omega) | (apply OKx_add; exact rfl; exact rfl; omega; omega) | (apply OKx_slit1; ((conv => lhs; whnf) <;> exact rfl); exact rfl; intro _))
      first | refine bodyQ_r1 (by ((conv => lhs; whnf) <;> exact rfl)) ?_ | refine bodyQ_r2 (by ((conv => lhs; whnf) <;> exact rfl)) (by ((conv => lhs; whnf) <;> exact rfl)) ?_ | refine bodyQ_r3 (by ((conv => lhs; whnf) <;> exact rfl)) (by ((conv => lhs; whnf) <;> exact rfl)) (by ((conv => lhs; whnf) <;> exact rfl)) ?_ | refine bodyQ_r0 ?_ | refine bodyQ_n0 ?_
      have ho := occ_nil st k hkl hn.symm
      exact ⟨_, Ent.pick [0] rfl, _, 1, _, by rw [ho]; rfl, rfl, by rw [ho]; rfl⟩
    · obtain ⟨g, rfl⟩ := ha.resolve_left hn0
      have ho := occ_cons st k hkl hr (by omega)
      have hsl : (srtL (pos0 st k)).length = n := by rw [hn]; exact List.length_mergeSort _
      repeat' (first | (apply OK_seq) | (apply thenQ_n) | (apply OK_region) | (refine OKx_callL (f := 74) rfl rfl (sort_int_sat g c n (pos0 st k) _ _ 0 hn.symm rfl (by omega)) ?_; rintro _ _ ⟨rfl, rfl⟩) | (refine OKx_callL (f := 57) rfl rfl (compact_int_sat g c n (srtL (pos0 st k)) _ _ 0 hsl rfl (by omega)) ?_; rintro _ _ ⟨kk, hkk, rfl, rfl⟩) | (apply OKx_nilK) | (apply OK_block) | (apply blockQ_n) | (apply blockQ_s) | (apply thenQ_e) | (apply blockQ_e; exact rfl) | (apply thenQ_r) | (apply blockQ_r) | (apply OK_condT; exact rfl) | (apply OK_condF; exact rfl) | (apply OK_skip) | (apply OK_exit) | (apply OK_ret) | (apply OKx_move; ((conv => lhs; whnf) <;> exact rfl)) | (apply OKx_assign; ((conv => lhs; whnf) <;> exact rfl)) | (apply OKx_ldB; exact rfl; (first | exact at0 | exact at1 | exact at2 | exact at3 | exact at4 | exact at5 | exact at6 | exact at7); exact rfl) | (apply OKx_ldR; ((conv => lhs; whnf) <;> exact rfl); (with_reducible assumption)) | (apply OKx_ldI; exact rfl; (first | exact at0 | exact at1 | exact at2 | exact at3 | exact at4 | exact at5 | exact at6 | exact at7); omega) | (apply OKx_len; exact rfl) | (apply OKx_lenR; ((conv => lhs; whnf) <;> exact rfl); (with_reducible assumption)) | (apply OKx_lenR2; ((conv => lhs; whnf) <;> exact rfl); (with_reducible assumption)) | (apply OKx_lenO; ((conv => lhs; whnf) <;> exact rfl); (first | exact at0 | exact at1 | exact at2 | exact at3 | exact at4 | exact at5 | exact at6 | exact at7)) | (apply OKx_lss; exact rfl; exact rfl; all_goals (intro _; try (exfalso; omega))) | (apply OKx_geq; exact rfl; exact rfl; all_goals (intro _; try (exfalso; omega))) | (apply OKx_eql; exact rfl; exact rfl; all_goals (intro _; try (exfalso; omega))) | (apply OKx_idxO; exact rfl; exact rfl; omega) | (apply OKx_idxR; ((conv => lhs; whnf) <;> exact rfl); (with_reducible assumption); exact rfl; omega; intro _ _) | (apply OKx_idxOz; exact rfl; exact rfl; omega; omega) | (apply OKx_idxRz; ((conv => lhs; whnf) <;> exact rfl); (with_reducible assumption); exact rfl; omega; omega; intro _ _) | (apply OKx_inc; exact rfl; exact rfl; omega) | (apply OKx_addN; exact rfl; exact rfl; omega) | (apply OKx_add; exact rfl; exact rfl; omega; omega) | (apply OKx_slit1; ((conv => lhs; whnf) <;> exact rfl); exact rfl; intro _))
      first | refine bodyQ_r1 (by ((conv => lhs; whnf) <;> exact rfl)) ?_ | refine bodyQ_r2 (by ((conv => lhs; whnf) <;> exact rfl)) (by ((conv => lhs; whnf) <;> exact rfl)) ?_ | refine bodyQ_r3 (by ((conv => lhs; whnf) <;> exact rfl)) (by ((conv => lhs; whnf) <;> exact rfl)) (by ((conv => lhs; whnf) <;> exact rfl)) ?_ | refine bodyQ_r0 ?_ | refine bodyQ_n0 ?_
      exact ⟨_, Ent.refl _ _, g, kk, c, by rw [hkk, ho], rfl, by rw [ho]; rfl⟩
set_option maxRecDepth 100000 in
set_option maxHeartbeats 4000000 in
theorem tooMany_sat (v : Value) (st : List Int) (w : World) (h : Ints w v st) (hr : ∀ x ∈ st, x < 16) (hl : st.length ≤ 1000) : SatV Try.prog 93 [v] w (.bool (many st)) := by
  have hv := h.sl
  have ho16 := occ_le st
  have ho0 := occ_pos st
  refine SatL.of 24 [2] Try.func93 (by kernel_rfl) (by kernel_rfl) rfl rfl rfl rfl ?_
  repeat' (first | (apply OK_seq) | (apply thenQ_n) | (apply OK_region) | (refine OKx_call (f := 112) rfl rfl (fun w1 hp => occur_sat _ st w1 (h.below hp.below) hr hl) ?_; rintro _ _ ⟨g, n, c, hn, rfl, rfl⟩) | (apply OKx_nilK) | (apply OK_block) | (apply blockQ_n) | (apply blockQ_s) | (apply thenQ_e) | (apply blockQ_e; exact rfl) | (apply thenQ_r) | (apply blockQ_r) | (apply OK_condT; exact rfl) | (apply OK_condF; exact rfl) | (apply OK_skip) | (apply OK_exit) | (apply OK_ret) | (apply OKx_move; ((conv => lhs; whnf) <;> exact rfl)) | (apply OKx_assign; ((conv => lhs; whnf) <;> exact rfl)) | (apply OKx_ldB; exact rfl; (first | exact at0 | exact at1 | exact at2 | exact at3 | exact at4 | exact at5 | exact at6 | exact at7); exact rfl) | (apply OKx_ldR; ((conv => lhs; whnf) <;> exact rfl); (with_reducible assumption)) | (apply OKx_ldI; exact rfl; (first | exact at0 | exact at1 | exact at2 | exact at3 | exact at4 | exact at5 | exact at6 | exact at7); omega) | (apply OKx_len; exact rfl) | (apply OKx_lenR; ((conv => lhs; whnf) <;> exact rfl); (with_reducible assumption)) | (apply OKx_lenR2; ((conv => lhs; whnf) <;> exact rfl); (with_reducible assumption)) | (apply OKx_lenO; ((conv => lhs; whnf) <;> exact rfl); (first | exact at0 | exact at1 | exact at2 | exact at3 | exact at4 | exact at5 | exact at6 | exact at7)) | (apply OKx_lss; exact rfl; exact rfl; all_goals (intro _; try (exfalso; omega))) | (apply OKx_gtr; exact rfl; exact rfl; all_goals (intro _; try (exfalso; omega))) | (apply OKx_geq; exact rfl; exact rfl; all_goals (intro _; try (exfalso; omega))) | (apply OKx_idxO; exact rfl; exact rfl; omega) | (apply OKx_idxR; ((conv => lhs; whnf) <;> exact rfl); (with_reducible assumption); exact rfl; omega; intro _ _) | (apply OKx_idxOz; exact rfl; exact rfl; omega; omega) | (apply OKx_idxRz; ((conv => lhs; whnf) <;> exact rfl); (with_reducible assumption); exact rfl; omega; omega; intro _ _) | (apply OKx_inc; exact rfl; exact rfl; omega) | (apply OKx_addN; exact rfl; exact rfl; omega) | (apply OKx_add; exact rfl; exact rfl; omega; omega))
  refine OK_loop2 3 12 [2, 3, 6, 12, 13, 14, 15, 16, 17, 18, 19, 20, 21, 22, 23] (fun m u v L => ∃ (k q : Nat), k + m = st.length ∧ q = (occ st).length ^ unk (st.take k) ∧ q ≤ 65536 ∧ u = .int .i64 (q : Int) ∧ v = .int .i64 (k : Int) ∧ L = []) st.length _ Ent.nil ⟨0, 1, by omega, by simp [unk], by omega, rfl, rfl, rfl⟩ ?_
  rintro m u v L G ⟨k, q, hm, hq, hq1, rfl, rfl, rfl⟩
  have hmul : 0 ≤ (q : Int) * (n : Int) ∧ (q : Int) * (n : Int) ≤ 65536 * 16 := ⟨Int.mul_nonneg (by omega) (by omega), Int.mul_le_mul (by omega) (by omega) (by omega) (by omega)⟩
  have hstep := unk_step st k
  repeat' (first | (apply OK_seq) | (apply thenQ_n) | (apply OK_region) | (refine OKx_mul rfl rfl (by omega) (by omega) ?_) | (apply OKx_nilK) | (apply OK_block) | (apply blockQ_n) | (apply blockQ_s) | (apply thenQ_e) | (apply blockQ_e; exact rfl) | (apply thenQ_r) | (apply blockQ_r) | (apply OK_condT; exact rfl) | (apply OK_condF; exact rfl) | (apply OK_skip) | (apply OK_exit) | (apply OK_ret) | (apply OKx_move; ((conv => lhs; whnf) <;> exact rfl)) | (apply OKx_assign; ((conv => lhs; whnf) <;> exact rfl)) | (apply OKx_ldB; exact rfl; (first | exact at0 | exact at1 | exact at2 | exact at3 | exact at4 | exact at5 | exact at6 | exact at7); exact rfl) | (apply OKx_ldR; ((conv => lhs; whnf) <;> exact rfl); (with_reducible assumption)) | (apply OKx_ldI; exact rfl; (first | exact at0 | exact at1 | exact at2 | exact at3 | exact at4 | exact at5 | exact at6 | exact at7); omega) | (apply OKx_len; exact rfl) | (apply OKx_lenR; ((conv => lhs; whnf) <;> exact rfl); (with_reducible assumption)) | (apply OKx_lenR2; ((conv => lhs; whnf) <;> exact rfl); (with_reducible assumption)) | (apply OKx_lenO; ((conv => lhs; whnf) <;> exact rfl); (first | exact at0 | exact at1 | exact at2 | exact at3 | exact at4 | exact at5 | exact at6 | exact at7)) | (apply OKx_lss; exact rfl; exact rfl; all_goals (intro _; try (exfalso; omega))) | (apply OKx_gtr; exact rfl; exact rfl; all_goals (intro _; try (exfalso; omega))) | (apply OKx_geq; exact rfl; exact rfl; all_goals (intro _; try (exfalso; omega))) | (apply OKx_idxO; exact rfl; exact rfl; omega) | (apply OKx_idxR; ((conv => lhs; whnf) <;> exact rfl); (with_reducible assumption); exact rfl; omega; intro _ _) | (apply OKx_idxOz; exact rfl; exact rfl; omega; omega) | (apply OKx_idxRz; ((conv => lhs; whnf) <;> exact rfl); (with_reducible assumption); exact rfl; omega; omega; intro _ _) | (apply OKx_inc; exact rfl; exact rfl; omega) | (apply OKx_addN; exact rfl; exact rfl; omega) | (apply OKx_add; exact rfl; exact rfl; omega; omega))
  · refine ⟨by (repeat' (first | refine agree_upd rfl ?_ | exact agree_over | exact agree_refl _ _ | refine agree_over2 rfl ?_)), m - 1, _, by omega, Ent.refl _ _, ?_⟩
    refine ⟨k + 1, q, by omega, ?_, hq1, rfl, rfl, rfl⟩
    rw [hstep (by omega), if_neg (by omega)]; exact hq
  · have hx : (occ st).length ^ unk (st.take (k + 1)) = q * n := by
      rw [hstep (by omega), if_pos (by omega), Nat.pow_succ, ← hq, ← hn]
    first | refine bodyQ_r1 (by ((conv => lhs; whnf) <;> exact rfl)) ?_ | refine bodyQ_r2 (by ((conv => lhs; whnf) <;> exact rfl)) (by ((conv => lhs; whnf) <;> exact rfl)) ?_ | refine bodyQ_r3 (by ((conv => lhs; whnf) <;> exact rfl)) (by ((conv => lhs; whnf) <;> exact rfl)) (by ((conv => lhs; whnf) <;> exact rfl)) ?_ | refine bodyQ_r0 ?_ | refine bodyQ_n0 ?_
    refine ⟨_, Ent.nil, bool_eq (many_hit st (k + 1) ?_).symm, rfl⟩
    rw [hx]
    have : ((q * n : Nat) : Int) = (q : Int) * (n : Int) := by simp
    omega
  · have hx : (occ st).length ^ unk (st.take (k + 1)) = q * n := by
      rw [hstep (by omega), if_pos (by omega), Nat.pow_succ, ← hq, ← hn]
    have e : ((q * n : Nat) : Int) = (q : Int) * (n : Int) := by simp
    refine ⟨by (repeat' (first | refine agree_upd rfl ?_ | exact agree_over | exact agree_refl _ _ | refine agree_over2 rfl ?_)), m - 1, _, by omega, Ent.refl _ _, ?_⟩
    exact ⟨k + 1, q * n, by omega, hx.symm, by omega, int_eq e.symm, rfl, rfl⟩
  · first | refine bodyQ_r1 (by ((conv => lhs; whnf) <;> exact rfl)) ?_ | refine bodyQ_r2 (by ((conv => lhs; whnf) <;> exact rfl)) (by ((conv => lhs; whnf) <;> exact rfl)) ?_ | refine bodyQ_r3 (by ((conv => lhs; whnf) <;> exact rfl)) (by ((conv => lhs; whnf) <;> exact rfl)) (by ((conv => lhs; whnf) <;> exact rfl)) ?_ | refine bodyQ_r0 ?_ | refine bodyQ_n0 ?_
    refine ⟨_, Ent.nil, bool_eq (many_end st ?_).symm, rfl⟩
    rw [List.take_of_length_le (by omega)] at hq
    omega
end Go.Proofs.Ytmclgfipdgmomaa
namespace Go.Proofs.Ytmclgfipdgmomaa
open Go.RowKit
def sameB (all : List Int) (i : Nat) (p : Int) : Bool := all.getD p.toNat 0 == all.getD i 0
def chV (par : List (List Int)) (all : List Int) (i : Nat) : Int := ((par.getD i []).find? (sameB all i)).getD (-1)
set_option maxRecDepth 100000 in
set_option maxHeartbeats 4000000 in
theorem choice1_sat (pt pi av : Value) (all : List Int) (i : Nat) (p : Int) (w : World) (h1 : Pt1 w pt av) (h2 : Pt1 w pi (.int .i64 (i : Int))) (ha : Ints w av all) (h0 : 0 ≤ p) (hp : p.toNat < all.length) (hi : i < all.length) : SatV Try.prog 98 [.int .i64 p, pt, pi] w (.bool (sameB all i p)) := by
  have hav := ha.sl
  have hab := hav.bound
  refine SatL.of 14 [4] Try.func98 (by kernel_rfl) (by kernel_rfl) rfl rfl rfl rfl ?_
  repeat' (first | (apply OK_seq) | (apply thenQ_n) | (apply OK_region) | refine OK_quiet (id := 1) (by kernel_rfl) (by kernel_rfl) ?_ | (apply OKx_nilK) | (apply OK_block) | (apply blockQ_n) | (apply blockQ_s) | (apply thenQ_e) | (apply blockQ_e; exact rfl) | (apply thenQ_r) | (apply blockQ_r) | (apply OK_condT; exact rfl) | (apply OK_condF; exact rfl) | (apply OK_skip) | (apply OK_exit) | (apply OK_ret) | (apply OKx_move; ((conv => lhs; whnf) <;> exact rfl)) | (apply OKx_assign; ((conv => lhs; whnf) <;> exact rfl)) | (apply OKx_ldB; exact rfl; (first | exact at0 | exact at1 | exact at2 | exact at3 | exact at4 | exact at5 | exact at6 | exact at7); exact rfl) | (apply OKx_ldR; ((conv => lhs; whnf) <;> exact rfl); (with_reducible assumption)) | (apply OKx_ldI; exact rfl; (first | exact at0 | exact at1 | exact at2 | exact at3 | exact at4 | exact at5 | exact at6 | exact at7); omega) | (apply OKx_eql; exact rfl; exact rfl; all_goals (intro _; try (exfalso; omega))) | (apply OKx_idxO; exact rfl; exact rfl; omega) | (apply OKx_idxR; ((conv => lhs; whnf) <;> exact rfl); (with_reducible assumption); exact rfl; omega; intro _ _) | (apply OKx_idxOz; exact rfl; exact rfl; omega; omega) | (apply OKx_idxRz; ((conv => lhs; whnf) <;> exact rfl); (with_reducible assumption); exact rfl; omega; omega; intro _ _))
  · rename_i he
    first | refine bodyQ_r1 (by ((conv => lhs; whnf) <;> exact rfl)) ?_ | refine bodyQ_r2 (by ((conv => lhs; whnf) <;> exact rfl)) (by ((conv => lhs; whnf) <;> exact rfl)) ?_ | refine bodyQ_r3 (by ((conv => lhs; whnf) <;> exact rfl)) (by ((conv => lhs; whnf) <;> exact rfl)) (by ((conv => lhs; whnf) <;> exact rfl)) ?_ | refine bodyQ_r0 ?_ | refine bodyQ_n0 ?_
    exact ⟨_, Ent.nil, bool_eq (by unfold sameB; rw [he]; simp), rfl⟩
  · rename_i he
    first | refine bodyQ_r1 (by ((conv => lhs; whnf) <;> exact rfl)) ?_ | refine bodyQ_r2 (by ((conv => lhs; whnf) <;> exact rfl)) (by ((conv => lhs; whnf) <;> exact rfl)) ?_ | refine bodyQ_r3 (by ((conv => lhs; whnf) <;> exact rfl)) (by ((conv => lhs; whnf) <;> exact rfl)) (by ((conv => lhs; whnf) <;> exact rfl)) ?_ | refine bodyQ_r0 ?_ | refine bodyQ_n0 ?_
    exact ⟨_, Ent.nil, bool_eq (by unfold sameB; first | exact beq_eq_false_iff_ne.2 he | exact (beq_eq_false_iff_ne.2 he).symm), rfl⟩
set_option maxRecDepth 100000 in
set_option maxHeartbeats 4000000 in
theorem choice_sat (v av : Value) (s : Stem) (all : List Int) (i : Nat) (w : World) (h : Stm w v s) (ha : Ints w av all) (hi : i < s.par.length) (hl : all.length = s.par.length) (hok : okPar s.par) : SatV Try.prog 65 [v, av, .int .i64 (i : Int)] w (.int .i64 (chV s.par all i)) := by
  obtain ⟨nv, ev, pv, rfl, hS, hE, hP⟩ := h
  obtain ⟨fv, hpv, hrow⟩ := hP.rows
  have hpb := hpv.bound
  have hr : ∀ j, j < (s.par.getD i []).length → 0 ≤ (s.par.getD i []).getD j 0 ∧ (s.par.getD i []).getD j 0 < i := fun j hj => by
    have hg : s.par.getD i [] = s.par[i] := getD_lt _ _ _ hi
    exact hok i hi _ (by rw [getD_lt _ _ _ hj]; exact hg ▸ List.getElem_mem hj)
  have hxi := (hrow i).sl
  have hxb := hxi.bound
  generalize hxs : s.par.getD i [] = xs at *
  obtain ⟨aa, ac, rfl, _⟩ := ha.at
  refine SatL.of 25 [6] Try.func65 (by kernel_rfl) (by kernel_rfl) rfl rfl rfl rfl ?_
  repeat' (first | (apply OK_seq) | (apply thenQ_n) | (apply OK_region) | (refine OKx_call (f := 78) rfl rfl (fun w1 hp => indexW_int_sat _ xs.length (fun j => .int .i64 (xs.getD j 0)) (fun j => sameB all i (xs.getD j 0)) _ _ w1 (hxi.below hp.below) (fun j hj w2 hb2 => choice1_sat _ _ _ all i _ w2 (Pt1.below ⟨_, _, rfl, (hp.boxAt 1 rfl).1 0⟩ hb2) (Pt1.below ⟨_, _, rfl, (hp.boxAt 0 rfl).1 0⟩ hb2) ((ha.below hp.below).below hb2) (hr j hj).1 (by have := hr j hj; omega) (by omega))) ?_; rintro _ _ ⟨rfl, (⟨k, hk, rfl, hon, hfirst⟩ | ⟨rfl, hno⟩)⟩) | (apply OKx_nilK) | (apply OK_block) | (apply blockQ_n) | (apply blockQ_s) | (apply thenQ_e) | (apply blockQ_e; exact rfl) | (apply thenQ_r) | (apply blockQ_r) | (apply OK_condT; exact rfl) | (apply OK_condF; exact rfl) | (apply OK_skip) | (apply OK_exit) | (apply OK_ret) | (apply OKx_move; ((conv => lhs; whnf) <;> exact rfl)) | (apply OKx_assign; ((conv => lhs; whnf) <;> exact rfl)) | (apply OKx_ldB; exact rfl; (first | exact at0 | exact at1 | exact at2 | exact at3 | exact at4 | exact at5 | exact at6 | exact at7); exact rfl) | (apply OKx_ldR; ((conv => lhs; whnf) <;> exact rfl); (with_reducible assumption)) | (apply OKx_ldI; exact rfl; (first | exact at0 | exact at1 | exact at2 | exact at3 | exact at4 | exact at5 | exact at6 | exact at7); omega) | (apply OKx_lss; exact rfl; exact rfl; all_goals (intro _; try (exfalso; omega))) | (apply OKx_idxO; exact rfl; exact rfl; omega) | (apply OKx_idxR; ((conv => lhs; whnf) <;> exact rfl); (with_reducible assumption); exact rfl; omega; intro _ _) | (apply OKx_idxOz; exact rfl; exact rfl; omega; omega) | (apply OKx_idxRz; ((conv => lhs; whnf) <;> exact rfl); (with_reducible assumption); exact rfl; omega; omega; intro _ _) | (apply OKx_fldO; exact rfl; exact rfl) | (apply OKx_fldR; ((conv => lhs; whnf) <;> exact rfl); (with_reducible assumption); decide; intro _ _) | (apply OKx_boxA; exact rfl; intro _) | (apply OKx_box1; ((conv => lhs; whnf) <;> exact rfl); exact rfl; intro _) | (apply OKx_func; exact rfl; exact rfl))
  · first | refine bodyQ_r1 (by ((conv => lhs; whnf) <;> exact rfl)) ?_ | refine bodyQ_r2 (by ((conv => lhs; whnf) <;> exact rfl)) (by ((conv => lhs; whnf) <;> exact rfl)) ?_ | refine bodyQ_r3 (by ((conv => lhs; whnf) <;> exact rfl)) (by ((conv => lhs; whnf) <;> exact rfl)) (by ((conv => lhs; whnf) <;> exact rfl)) ?_ | refine bodyQ_r0 ?_ | refine bodyQ_n0 ?_
    refine ⟨_, Ent.nil, int_eq ?_, rfl⟩
    unfold chV
    rw [hxs, find_first (sameB all i) xs k hk hon hfirst]
    rfl
  · first | refine bodyQ_r1 (by ((conv => lhs; whnf) <;> exact rfl)) ?_ | refine bodyQ_r2 (by ((conv => lhs; whnf) <;> exact rfl)) (by ((conv => lhs; whnf) <;> exact rfl)) ?_ | refine bodyQ_r3 (by ((conv => lhs; whnf) <;> exact rfl)) (by ((conv => lhs; whnf) <;> exact rfl)) (by ((conv => lhs; whnf) <;> exact rfl)) ?_ | refine bodyQ_r0 ?_ | refine bodyQ_n0 ?_
    refine ⟨_, Ent.nil, int_eq ?_, rfl⟩
    unfold chV
    rw [hxs, List.find?_eq_none.2 (fun x hx => ?_)]
    · rfl
    · obtain ⟨j, hj, rfl⟩ := List.getElem_of_mem hx
      have this : sameB all i (xs.getD j 0) = false := hno j hj
      rw [getD_lt _ _ _ hj] at this
      simp [this]
theorem chV_neg (par : List (List Int)) (all : List Int) (i : Nat) (hok : ∀ p ∈ par.getD i [], 0 ≤ p) : (chV par all i < 0) ↔ (par.getD i []).any (sameB all i) = false := by
  unfold chV
  cases h : (par.getD i []).find? (sameB all i) with
  | none =>
    rw [List.find?_eq_none] at h
    constructor
    · intro _
      rw [List.any_eq_false]
      exact h
    · intro _; decide
  | some x =>
    have h1 := List.find?_some h
    have h2 := List.mem_of_find?_eq_some h
    have := hok x h2
    constructor
    · intro h3
      have : (some x).getD (-1) = x := rfl
      omega
    · intro h3
      rw [List.any_eq_false] at h3
      exact absurd h1 (h3 x h2)
def copN (par : List (List Int)) (k : Nat) : List Nat := (List.range k).filter (fun i => !(par.getD i []).isEmpty)
def copL (par : List (List Int)) (k : Nat) : List Int := (copN par k).map (fun i : Nat => (i : Int))
theorem copN_step (par : List (List Int)) (k : Nat) : copN par (k + 1) = copN par k ++ if (par.getD k []).length = 0 then [] else [k] := by
  unfold copN
  rw [List.range_succ, List.filter_append]
  congr 1
  simp only [List.filter_cons, List.filter_nil]
  cases h : par.getD k [] with
  | nil => rfl
  | cons a b => rfl
theorem copN_len (par : List (List Int)) (k : Nat) : (copN par k).length ≤ k := by
  unfold copN
  exact Nat.le_trans (List.length_filter_le _ _) (by simp)
theorem copN_lt (par : List (List Int)) (k : Nat) : ∀ i ∈ copN par k, i < k ∧ (par.getD i []).length ≠ 0 := by
  intro i hi
  unfold copN at hi
  rw [List.mem_filter, List.mem_range] at hi
  refine ⟨hi.1, fun h0 => ?_⟩
  have := List.eq_nil_of_length_eq_zero h0
  rw [this] at hi
  simp at hi
theorem copL_step (par : List (List Int)) (k : Nat) : copL par (k + 1) = copL par k ++ if (par.getD k []).length = 0 then [] else [(k : Int)] := by
  unfold copL
  rw [copN_step, List.map_append]
  congr 1
  split <;> rfl
theorem copL_len (par : List (List Int)) (k : Nat) : (copL par k).length = (copN par k).length := by simp [copL]
def cntN (par : List (List Int)) (all : List Int) (k : Nat) : Nat := (((copN par par.length).take k).filter (fun i => decide (chV par all i < 0))).length
theorem cntN_step (par : List (List Int)) (all : List Int) (k : Nat) (h : k < (copN par par.length).length) : cntN par all (k + 1) = cntN par all k + if chV par all ((copN par par.length).getD k 0) < 0 then 1 else 0 := by
  rw [getD_lt _ _ _ h]
  unfold cntN
  rw [List.take_succ_eq_append_getElem h, List.filter_append, List.length_append]
  congr 1
  by_cases hc : chV par all (copN par par.length)[k] < 0
  · simp [hc]
  · simp [hc]
theorem cntN_end (par : List (List Int)) (all : List Int) (k : Nat) (hk : (copN par par.length).length ≤ k) (hok : okPar par) : cntN par all k = costN par all := by
  unfold cntN costN copN
  rw [List.take_of_length_le (by exact hk), List.filter_filter]
  congr 1
  apply List.filter_congr
  intro i hi
  have hi := List.mem_range.1 hi
  unfold chgB
  rw [Bool.and_comm]
  congr 1
  have h1 := chV_neg par all i (fun p hp => by rw [getD_lt _ _ _ hi] at hp; exact (hok i hi p hp).1)
  rw [Bool.eq_iff_iff]
  simp only [decide_eq_true_eq, Bool.not_eq_true']
  exact h1
theorem cntN_le (par : List (List Int)) (all : List Int) (k : Nat) : cntN par all k ≤ k := by
  unfold cntN
  exact Nat.le_trans (List.length_filter_le _ _) (by rw [List.length_take]; omega)
def CntR (s : Stem) (nv ev pv : Value) (u : Value) (L : List Res) : Prop :=
  ∃ gc gs a n c, u = .func (.func 113) #[] #[.pointer (some ⟨gc, 0, none⟩), .pointer (some ⟨gs, 0, none⟩)] ∧ n = (copL s.par s.par.length).length ∧
    L = [.row 3 1 (.slice a n c) n (ints (copL s.par s.par.length)), .box 27 gc [.slice a n c], .box 26 gs [nv, ev, pv]]
set_option maxRecDepth 100000 in
set_option maxHeartbeats 4000000 in
theorem counter_sat (nv ev pv : Value) (s : Stem) (w : World) (h : Stm w (.agg #[nv, ev, pv]) s) (hl : s.par.length ≤ 1000) : Sat Try.prog 94 [.agg #[nv, ev, pv]] w (CntR s nv ev pv) := by
  obtain ⟨nv', ev', pv', e, hS, hE, hP⟩ := h
  cases e
  obtain ⟨fv, hpv, hrow⟩ := hP.rows
  have hpb := hpv.bound
  refine SatL.of 23 [2] Try.func94 (by kernel_rfl) (by kernel_rfl) rfl rfl rfl rfl ?_
  repeat' (first | (apply OK_seq) | (apply thenQ_n) | (apply OK_region) | (apply OKx_nilK) | (apply OK_block) | (apply blockQ_n) | (apply blockQ_s) | (apply thenQ_e) | (apply blockQ_e; exact rfl) | (apply thenQ_r) | (apply blockQ_r) | (apply OK_condT; exact rfl) | (apply OK_condF; exact rfl) | (apply OK_skip) | (apply OK_exit) | (apply OK_ret) | (apply OKx_move; ((conv => lhs; whnf) <;> exact rfl)) | (apply OKx_assign; ((conv => lhs; whnf) <;> exact rfl)) | (apply OKx_ldB; exact rfl; (first | exact at0 | exact at1 | exact at2 | exact at3 | exact at4 | exact at5 | exact at6 | exact at7); exact rfl) | (apply OKx_ldR; ((conv => lhs; whnf) <;> exact rfl); (with_reducible assumption)) | (apply OKx_len; exact rfl) | (apply OKx_lenR; ((conv => lhs; whnf) <;> exact rfl); (with_reducible assumption)) | (apply OKx_lenR2; ((conv => lhs; whnf) <;> exact rfl); (with_reducible assumption)) | (apply OKx_lenO; ((conv => lhs; whnf) <;> exact rfl); (first | exact at0 | exact at1 | exact at2 | exact at3 | exact at4 | exact at5 | exact at6 | exact at7)) | (apply OKx_lss; exact rfl; exact rfl; all_goals (intro _; try (exfalso; omega))) | (apply OKx_gtr; exact rfl; exact rfl; all_goals (intro _; try (exfalso; omega))) | (apply OKx_idxO; exact rfl; exact rfl; omega) | (apply OKx_idxR; ((conv => lhs; whnf) <;> exact rfl); (with_reducible assumption); exact rfl; omega; intro _ _) | (apply OKx_idxOz; exact rfl; exact rfl; omega; omega) | (apply OKx_idxRz; ((conv => lhs; whnf) <;> exact rfl); (with_reducible assumption); exact rfl; omega; omega; intro _ _) | (apply OKx_fldO; exact rfl; exact rfl) | (apply OKx_fldR; ((conv => lhs; whnf) <;> exact rfl); (with_reducible assumption); decide; intro _ _) | (apply OKx_inc; exact rfl; exact rfl; omega) | (apply OKx_addN; exact rfl; exact rfl; omega) | (apply OKx_add; exact rfl; exact rfl; omega; omega) | (apply OKx_boxA; exact rfl; intro _) | (apply OKx_alloc1; intro _) | (apply OKx_stB; exact rfl; ((conv => lhs; whnf) <;> exact rfl); exact rfl; exact rfl; (first | exact at0 | exact at1 | exact at2 | exact at3 | exact at4 | exact at5 | exact at6 | exact at7); exact rfl; exact rfl; exact rfl) | (apply OKx_slit1; ((conv => lhs; whnf) <;> exact rfl); exact rfl; intro _) | (apply OKx_func; exact rfl; exact rfl))
  rename_i gs gc
  refine OK_loop1 9 [4, 5, 9, 10, 11, 12, 13, 14, 15, 16, 17, 18, 19, 20, 21] (fun m v L => ∃ (k n : Nat) (a : Option Addr) (c : Nat), k + m = s.par.length ∧ n = (copL s.par k).length ∧ v = .int .i64 (k : Int) ∧ L = [.row 3 1 (.slice a n c) n (ints (copL s.par k)), .box 27 gc [.slice a n c], .box 26 gs [nv, ev, pv]]) s.par.length _ (Ent.mk fun w1 hp => hp.nil 3 1) ⟨0, 0, none, 0, by omega, rfl, rfl, rfl⟩ ?_
  rintro m v L G ⟨k, n, a, c, hm, hn, rfl, rfl⟩
  have hs := copL_step s.par k
  have hnk : n ≤ k := by have := copN_len s.par k; rw [← copL_len] at this; omega
  have hxi := (hrow k).sl
  generalize hys : copL s.par k = ys at *
  repeat' (first | (apply OK_seq) | (apply thenQ_n) | (apply OK_region) | (refine OKx_appI 1 0 rfl rfl rfl rfl (by omega) (by omega) ?_; intro g2 c2) | (apply OKx_nilK) | (apply OK_block) | (apply blockQ_n) | (apply blockQ_s) | (apply thenQ_e) | (apply blockQ_e; exact rfl) | (apply thenQ_r) | (apply blockQ_r) | (apply OK_condT; exact rfl) | (apply OK_condF; exact rfl) | (apply OK_skip) | (apply OK_exit) | (apply OK_ret) | (apply OKx_move; ((conv => lhs; whnf) <;> exact rfl)) | (apply OKx_assign; ((conv => lhs; whnf) <;> exact rfl)) | (apply OKx_ldB; exact rfl; (first | exact at0 | exact at1 | exact at2 | exact at3 | exact at4 | exact at5 | exact at6 | exact at7); exact rfl) | (apply OKx_ldR; ((conv => lhs; whnf) <;> exact rfl); (with_reducible assumption)) | (apply OKx_len; exact rfl) | (apply OKx_lenR; ((conv => lhs; whnf) <;> exact rfl); (with_reducible assumption)) | (apply OKx_lenR2; ((conv => lhs; whnf) <;> exact rfl); (with_reducible assumption)) | (apply OKx_lenO; ((conv => lhs; whnf) <;> exact rfl); (first | exact at0 | exact at1 | exact at2 | exact at3 | exact at4 | exact at5 | exact at6 | exact at7)) | (apply OKx_lss; exact rfl; exact rfl; all_goals (intro _; try (exfalso; omega))) | (apply OKx_gtr; exact rfl; exact rfl; all_goals (intro _; try (exfalso; omega))) | (apply OKx_idxO; exact rfl; exact rfl; omega) | (apply OKx_idxR; ((conv => lhs; whnf) <;> exact rfl); (with_reducible assumption); exact rfl; omega; intro _ _) | (apply OKx_idxOz; exact rfl; exact rfl; omega; omega) | (apply OKx_idxRz; ((conv => lhs; whnf) <;> exact rfl); (with_reducible assumption); exact rfl; omega; omega; intro _ _) | (apply OKx_fldO; exact rfl; exact rfl) | (apply OKx_fldR; ((conv => lhs; whnf) <;> exact rfl); (with_reducible assumption); decide; intro _ _) | (apply OKx_inc; exact rfl; exact rfl; omega) | (apply OKx_addN; exact rfl; exact rfl; omega) | (apply OKx_add; exact rfl; exact rfl; omega; omega) | (apply OKx_boxA; exact rfl; intro _) | (apply OKx_alloc1; intro _) | (apply OKx_stB; exact rfl; ((conv => lhs; whnf) <;> exact rfl); exact rfl; exact rfl; (first | exact at0 | exact at1 | exact at2 | exact at3 | exact at4 | exact at5 | exact at6 | exact at7); exact rfl; exact rfl; exact rfl) | (apply OKx_slit1; ((conv => lhs; whnf) <;> exact rfl); exact rfl; intro _) | (apply OKx_func; exact rfl; exact rfl))
  · rw [if_neg (by omega)] at hs
    refine ⟨by (repeat' (first | refine agree_upd rfl ?_ | exact agree_over | exact agree_refl _ _ | refine agree_over2 rfl ?_)), m - 1, _, by omega, Ent.pick [1, 2, 3] rfl, ?_⟩
    exact ⟨k + 1, n + 1, some ⟨g2, 0, none⟩, c2, by omega, by rw [hs, List.length_append, hn]; rfl, rfl, by rw [hs]; rfl⟩
  · rw [if_pos (by omega), List.append_nil] at hs
    refine ⟨by (repeat' (first | refine agree_upd rfl ?_ | exact agree_over | exact agree_refl _ _ | refine agree_over2 rfl ?_)), m - 1, _, by omega, Ent.refl _ _, ?_⟩
    exact ⟨k + 1, n, a, c, by omega, by rw [hs]; exact hn, rfl, by rw [hs]⟩
  · obtain rfl : k = s.par.length := by omega
    first | refine bodyQ_r1 (by ((conv => lhs; whnf) <;> exact rfl)) ?_ | refine bodyQ_r2 (by ((conv => lhs; whnf) <;> exact rfl)) (by ((conv => lhs; whnf) <;> exact rfl)) ?_ | refine bodyQ_r3 (by ((conv => lhs; whnf) <;> exact rfl)) (by ((conv => lhs; whnf) <;> exact rfl)) (by ((conv => lhs; whnf) <;> exact rfl)) ?_ | refine bodyQ_r0 ?_ | refine bodyQ_n0 ?_
    exact ⟨_, Ent.refl _ _, gc, gs, a, n, c, rfl, by rw [hys]; exact hn, by rw [hys]⟩
set_option maxRecDepth 100000 in
set_option maxHeartbeats 4000000 in
theorem counter1_sat (pc ps cv av nv ev pv : Value) (s : Stem) (all : List Int) (w : World) (h1 : Pt1 w pc cv) (hc : Ints w cv (copL s.par s.par.length)) (h2 : Pt w ps 3 (fun j => [nv, ev, pv].getD j undef)) (h : Stm w (.agg #[nv, ev, pv]) s) (ha : Ints w av all) (hl : all.length = s.par.length) (hok : okPar s.par) (hn : s.par.length ≤ 1000) :
    SatV Try.prog 113 [av, pc, ps] w (.int .i64 (costN s.par all : Int)) := by
  have hcv := hc.sl
  have hcl : (copL s.par s.par.length).length = (copN s.par s.par.length).length := copL_len _ _
  have hcn := copN_len s.par s.par.length
  have hcg : ∀ k, (hk : k < (copN s.par s.par.length).length) → (copL s.par s.par.length).getD k 0 = (((copN s.par s.par.length).getD k 0 : Nat) : Int) := fun k hk => by
    rw [getD_lt _ _ _ (by omega), getD_lt _ _ _ hk]
    simp [copL]
  have hclt : ∀ k, k < (copN s.par s.par.length).length → (copN s.par s.par.length).getD k 0 < s.par.length := fun k hk => by
    rw [getD_lt _ _ _ hk]
    exact (copN_lt s.par s.par.length _ (List.getElem_mem hk)).1
  have hcst := cntN_step s.par all
  have hcend := fun k hk => cntN_end s.par all k hk hok
  have hcle := cntN_le s.par all
  rw [hcl] at hcv
  generalize hM : (copN s.par s.par.length).length = M at *
  refine SatL.of 23 [4] Try.func113 (by kernel_rfl) (by kernel_rfl) rfl rfl rfl rfl ?_
  repeat' (first | (apply OK_seq) | (apply thenQ_n) | (apply OK_region) | (apply OKx_nilK) | (apply OK_block) | (apply blockQ_n) | (apply blockQ_s) | (apply thenQ_e) | (apply blockQ_e; exact rfl) | (apply thenQ_r) | (apply blockQ_r) | (apply OK_condT; exact rfl) | (apply OK_condF; exact rfl) | (apply OK_skip) | (apply OK_exit) | (apply OK_ret) | (apply OKx_move; ((conv => lhs; whnf) <;> exact rfl)) | (apply OKx_assign; ((conv => lhs; whnf) <;> exact rfl)) | (apply OKx_ldB; exact rfl; (first | exact at0 | exact at1 | exact at2 | exact at3 | exact at4 | exact at5 | exact at6 | exact at7); exact rfl) | (apply OKx_ldR; ((conv => lhs; whnf) <;> exact rfl); (with_reducible assumption)) | (apply OKx_ldI; exact rfl; (first | exact at0 | exact at1 | exact at2 | exact at3 | exact at4 | exact at5 | exact at6 | exact at7); omega) | (apply OKx_len; exact rfl) | (apply OKx_lenR; ((conv => lhs; whnf) <;> exact rfl); (with_reducible assumption)) | (apply OKx_lenR2; ((conv => lhs; whnf) <;> exact rfl); (with_reducible assumption)) | (apply OKx_lenO; ((conv => lhs; whnf) <;> exact rfl); (first | exact at0 | exact at1 | exact at2 | exact at3 | exact at4 | exact at5 | exact at6 | exact at7)) | (apply OKx_lss; exact rfl; exact rfl; all_goals (intro _; try (exfalso; omega))) | (apply OKx_idxO; exact rfl; exact rfl; omega) | (apply OKx_idxR; ((conv => lhs; whnf) <;> exact rfl); (with_reducible assumption); exact rfl; omega; intro _ _) | (apply OKx_idxOz; exact rfl; exact rfl; omega; omega) | (apply OKx_idxRz; ((conv => lhs; whnf) <;> exact rfl); (with_reducible assumption); exact rfl; omega; omega; intro _ _) | (apply OKx_inc; exact rfl; exact rfl; omega) | (apply OKx_addN; exact rfl; exact rfl; omega) | (apply OKx_add; exact rfl; exact rfl; omega; omega) | (apply OKx_ldBA; exact rfl; (first | exact at0 | exact at1 | exact at2 | exact at3 | exact at4 | exact at5 | exact at6 | exact at7); exact rfl) | (apply OKx_ldRA; ((conv => lhs; whnf) <;> exact rfl); (with_reducible assumption)))
  refine OK_loop2 5 10 [5, 7, 10, 11, 12, 13, 14, 15, 16, 17, 18, 19, 20, 21] (fun m u v L => ∃ (k q : Nat), k + m = M ∧ q = cntN s.par all k ∧ u = .int .i64 (q : Int) ∧ v = .int .i64 (k : Int) ∧ L = []) M _ (Ent.refl _ _) ⟨0, 0, by omega, rfl, rfl, rfl, rfl⟩ ?_
  rintro m u v L G ⟨k, q, hm, hq, rfl, rfl, rfl⟩
  have hqk := hcle k
  rw [← hq] at hqk
  by_cases hk : k < M
  · have e1 := hcg k (by omega)
    have e2 := hclt k (by omega)
    have e3 := hcst k (by omega)
    generalize hj : (copN s.par s.par.length).getD k 0 = j at *
    repeat' (first | (apply OK_seq) | (apply thenQ_n) | (apply OK_region) | (refine OKx_callV (f := 65) (v := .int .i64 (chV s.par all j)) rfl rfl rfl (fun w1 hp => by rw [e1]; exact choice_sat _ _ s all j w1 (h.below hp.below) (ha.below hp.below) e2 hl hok) ?_) | (apply OKx_nilK) | (apply OK_block) | (apply blockQ_n) | (apply blockQ_s) | (apply thenQ_e) | (apply blockQ_e; exact rfl) | (apply thenQ_r) | (apply blockQ_r) | (apply OK_condT; exact rfl) | (apply OK_condF; exact rfl) | (apply OK_skip) | (apply OK_exit) | (apply OK_ret) | (apply OKx_move; ((conv => lhs; whnf) <;> exact rfl)) | (apply OKx_assign; ((conv => lhs; whnf) <;> exact rfl)) | (apply OKx_ldB; exact rfl; (first | exact at0 | exact at1 | exact at2 | exact at3 | exact at4 | exact at5 | exact at6 | exact at7); exact rfl) | (apply OKx_ldR; ((conv => lhs; whnf) <;> exact rfl); (with_reducible assumption)) | (apply OKx_ldI; exact rfl; (first | exact at0 | exact at1 | exact at2 | exact at3 | exact at4 | exact at5 | exact at6 | exact at7); omega) | (apply OKx_len; exact rfl) | (apply OKx_lenR; ((conv => lhs; whnf) <;> exact rfl); (with_reducible assumption)) | (apply OKx_lenR2; ((conv => lhs; whnf) <;> exact rfl); (with_reducible assumption)) | (apply OKx_lenO; ((conv => lhs; whnf) <;> exact rfl); (first | exact at0 | exact at1 | exact at2 | exact at3 | exact at4 | exact at5 | exact at6 | exact at7)) | (apply OKx_lss; exact rfl; exact rfl; all_goals (intro _; try (exfalso; omega))) | (apply OKx_idxO; exact rfl; exact rfl; omega) | (apply OKx_idxR; ((conv => lhs; whnf) <;> exact rfl); (with_reducible assumption); exact rfl; omega; intro _ _) | (apply OKx_idxOz; exact rfl; exact rfl; omega; omega) | (apply OKx_idxRz; ((conv => lhs; whnf) <;> exact rfl); (with_reducible assumption); exact rfl; omega; omega; intro _ _) | (apply OKx_inc; exact rfl; exact rfl; omega) | (apply OKx_addN; exact rfl; exact rfl; omega) | (apply OKx_add; exact rfl; exact rfl; omega; omega) | (apply OKx_ldBA; exact rfl; (first | exact at0 | exact at1 | exact at2 | exact at3 | exact at4 | exact at5 | exact at6 | exact at7); exact rfl) | (apply OKx_ldRA; ((conv => lhs; whnf) <;> exact rfl); (with_reducible assumption)))
    · rw [if_pos (by assumption)] at e3
      refine ⟨by (repeat' (first | refine agree_upd rfl ?_ | exact agree_over | exact agree_refl _ _ | refine agree_over2 rfl ?_)), m - 1, _, by omega, Ent.refl _ _, ?_⟩
      exact ⟨k + 1, q + 1, by omega, by omega, rfl, rfl, rfl⟩
    · rw [if_neg (by omega)] at e3
      refine ⟨by (repeat' (first | refine agree_upd rfl ?_ | exact agree_over | exact agree_refl _ _ | refine agree_over2 rfl ?_)), m - 1, _, by omega, Ent.refl _ _, ?_⟩
      exact ⟨k + 1, q, by omega, by omega, rfl, rfl, rfl⟩
  · repeat' (first | (apply OK_seq) | (apply thenQ_n) | (apply OK_region) | (apply OKx_nilK) | (apply OK_block) | (apply blockQ_n) | (apply blockQ_s) | (apply thenQ_e) | (apply blockQ_e; exact rfl) | (apply thenQ_r) | (apply blockQ_r) | (apply OK_condT; exact rfl) | (apply OK_condF; exact rfl) | (apply OK_skip) | (apply OK_exit) | (apply OK_ret) | (apply OKx_move; ((conv => lhs; whnf) <;> exact rfl)) | (apply OKx_assign; ((conv => lhs; whnf) <;> exact rfl)) | (apply OKx_ldB; exact rfl; (first | exact at0 | exact at1 | exact at2 | exact at3 | exact at4 | exact at5 | exact at6 | exact at7); exact rfl) | (apply OKx_ldR; ((conv => lhs; whnf) <;> exact rfl); (with_reducible assumption)) | (apply OKx_ldI; exact rfl; (first | exact at0 | exact at1 | exact at2 | exact at3 | exact at4 | exact at5 | exact at6 | exact at7); omega) | (apply OKx_len; exact rfl) | (apply OKx_lenR; ((conv => lhs; whnf) <;> exact rfl); (with_reducible assumption)) | (apply OKx_lenR2; ((conv => lhs; whnf) <;> exact rfl); (with_reducible assumption)) | (apply OKx_lenO; ((conv => lhs; whnf) <;> exact rfl); (first | exact at0 | exact at1 | exact at2 | exact at3 | exact at4 | exact at5 | exact at6 | exact at7)) | (apply OKx_lss; exact rfl; exact rfl; all_goals (intro _; try (exfalso; omega))) | (apply OKx_idxO; exact rfl; exact rfl; omega) | (apply OKx_idxR; ((conv => lhs; whnf) <;> exact rfl); (with_reducible assumption); exact rfl; omega; intro _ _) | (apply OKx_idxOz; exact rfl; exact rfl; omega; omega) | (apply OKx_idxRz; ((conv => lhs; whnf) <;> exact rfl); (with_reducible assumption); exact rfl; omega; omega; intro _ _) | (apply OKx_inc; exact rfl; exact rfl; omega) | (apply OKx_addN; exact rfl; exact rfl; omega) | (apply OKx_add; exact rfl; exact rfl; omega; omega) | (apply OKx_ldBA; exact rfl; (first | exact at0 | exact at1 | exact at2 | exact at3 | exact at4 | exact at5 | exact at6 | exact at7); exact rfl) | (apply OKx_ldRA; ((conv => lhs; whnf) <;> exact rfl); (with_reducible assumption)))
    first | refine bodyQ_r1 (by ((conv => lhs; whnf) <;> exact rfl)) ?_ | refine bodyQ_r2 (by ((conv => lhs; whnf) <;> exact rfl)) (by ((conv => lhs; whnf) <;> exact rfl)) ?_ | refine bodyQ_r3 (by ((conv => lhs; whnf) <;> exact rfl)) (by ((conv => lhs; whnf) <;> exact rfl)) (by ((conv => lhs; whnf) <;> exact rfl)) ?_ | refine bodyQ_r0 ?_ | refine bodyQ_n0 ?_
    exact ⟨_, Ent.nil, int_eq (by rw [hq, hcend k (by omega)]), rfl⟩
end Go.Proofs.Ytmclgfipdgmomaa
namespace Go.Proofs.Ytmclgfipdgmomaa
open Go.RowKit
theorem OK.mk' {P : Program} {n : Nat} {w0 : World} {Q : Exit → Fm → List Res → Prop} {F : Fm} {L : List Res} {c : Code} (h : ∀ w a, Fr n a F → Hp w0.heap.size w0 w L → c.wp P (lift n w0 Q) a w) : OK P n w0 Q c F L := by unfold OK; exact h
theorem OKx.useP {P : Program} {n : Nat} {w0 : World} {K : Fm → List Res → Prop} {F : Fm} {L : List Res} {ops : Array Oper} {rest : List Oper} (h : OKx P n w0 .pure ops K rest F L) : ∀ a, Fr n a F → wpPure P ops (fun w => Hp w0.heap.size w0 w L) (fun a' => ∃ F', Fr n a' F' ∧ K F' L) rest a := by unfold OKx at h; exact h
end Go.Proofs.Ytmclgfipdgmomaa
namespace Go.Proofs.Ytmclgfipdgmomaa
open Go.RowKit
def fen : Option Nat → Fence
  | none => Fence.wide
  | some l => Fence.wide.inRound l
section
variable {P : Program} {ops : Array Oper}
theorem fen_fn (ro : Option Nat) (f : FuncId) : (fen ro).fn f := by cases ro <;> trivial
theorem fen_depth (ro : Option Nat) : (fen ro).depth = none := by cases ro <;> rfl
theorem fen_calls {ro : Option Nat} {f : FuncId} {args : Array Value} {w : World} {R : Ending → World → Prop} (h : Calls P f args w R) : CallsIn (fen ro) 0 P f args w R := by
  cases ro with
  | none => exact callsIn_wide.2 h
  | some l => exact CallsIn.inRound l (callsIn_wide.2 h)
theorem fen_rows {ro : Option Nat} {row : String} {args : Array Value} {w : World} {R : Value → World → Prop} (h : Rows P row args w R) : RowsIn (fen ro) 0 P row args w R := by
  have h1 : RowsIn Fence.wide 0 P row args w R := fun c cs _ => let ⟨v, w', r, s⟩ := h c cs; ⟨v, w', r, stepsIn_wide.2 s⟩
  cases ro with
  | none => exact h1
  | some l => exact fun c cs hr => h1 c cs (room_wide _)
def noDef (o : Oper) : Bool := match o.op with
  | .defer _ => false
  | _ => true
theorem noDef_ne {o : Oper} (h : noDef o = true) : ∀ c, o.op ≠ .defer c := by
  intro c e
  unfold noDef at h
  rw [e] at h
  cases h
theorem oper_in {ro : Option Nat} {o : Oper} {a : Act} {w : World} {K : Act → World → Prop} {Q Q' : Exit → Act → World → Prop} (hn : noDef o = true) (hp : ∀ c a w, ¬ Q (.panic c) a w) (ho : ¬ LetsOut Q) (h : o.wp P a w K Q) : o.wpIn (fen ro) 0 P a w K Q' := by
  refine ⟨fun f _ => fen_fn ro f, ?_⟩
  rw [Oper.semAt_eq _ _ _ (noDef_ne hn)]
  unfold Oper.wp at h
  have hd : (fen ro).depth.isSome = true → 1 ≤ 0 := by rw [fen_depth]; intro h; cases h
  generalize (execOp a.eval o).run P w = r at *
  cases r with
  | ok nx w' =>
    cases nx with
    | value v => exact h
    | skip => exact h
    | defer d => exact h
    | enter f args =>
      refine ⟨hd, fen_calls (Calls.mono h fun e w'' h => ?_)⟩
      cases e with
      | returned v => exact h
      | panicked c => exact absurd h (hp _ _ _)
      | outgrown => exact absurd h ho
    | row r args => exact ⟨hd, fen_rows h⟩
    | _ => exact h.elim
  | halt x w' =>
    cases x with
    | panic v => exact absurd h (hp _ _ _)
    | _ => exact h.elim
theorem list_in {ro : Option Nat} {C : World → Prop} {Q Q' : Exit → Act → World → Prop} (hp : ∀ c a w, ¬ Q (.panic c) a w) (ho : ¬ LetsOut Q) (rest : List Oper) (hq : ∀ a w, Q .normal a w → wpListIn (fen ro) 0 P ops Q' rest a w) :
    ∀ (l : List Oper) (a : Act) (w : World), l.all noDef = true → wpListC P ops C Q l a w → wpListIn (fen ro) 0 P ops Q' (l ++ rest) a w
  | [], a, w, _, h => hq a w h.2
  | o :: l, a, w, hn, h => by
    obtain ⟨_, h⟩ := h
    simp only [List.all_cons, Bool.and_eq_true] at hn
    rw [List.cons_append]
    unfold wpListIn
    split
    · rename_i hw
      rw [if_pos hw] at h
      exact oper_in hn.1 hp ho (Oper.wp_mono (fun a w h => list_in hp ho rest hq l a w hn.2 h) h)
    · rename_i hw
      rw [if_neg hw] at h
      exact ⟨fun f _ => fen_fn ro f, list_in hp ho rest hq l _ w hn.2 h⟩
end
section
variable (P : Program) (n : Nat) (w0 : World) (l : Nat)
def OKr (Q : Exit → Fm → List Res → Prop) (c : Code) (F : Fm) (L : List Res) : Prop :=
  ∀ w a, Fr n a F → Hp w0.heap.size w0 w L → c.wpIn (fen (some l)) 0 P (lift n w0 Q) a w
end
section
variable {P : Program} {n : Nat} {w0 : World} {ro : Nat} {Q : Exit → Fm → List Res → Prop} {K : Fm → List Res → Prop} {F : Fm} {L : List Res}
theorem OKr_seq {a b : Code} (h : OKr P n w0 ro (thenQ (fun F L => OKr P n w0 ro Q b F L) Q) a F L) : OKr P n w0 ro Q (.seq a b) F L := by
  intro w ac hf hp
  refine wpIn_seq (wpIn_mono (h w ac hf hp) ?_)
  rintro e a' w' ⟨F', L', h1, h2, h3⟩
  unfold thenQ at h3
  cases e with
  | normal => exact h3 w' a' h1 h2
  | _ => exact ⟨F', L', h1, h2, h3⟩
theorem OKr_skip (h : Q .normal F L) : OKr P n w0 ro Q .skip F L := fun _ _ hf hp => wpIn_skip ⟨F, L, hf, hp, h⟩
theorem OKr_exit {id : Nat} (h : Q (.exit id) F L) : OKr P n w0 ro Q (.exit id) F L := fun _ _ hf hp => wpIn_exit ⟨F, L, hf, hp, h⟩
theorem OKr_ret (h : Q .ret F L) : OKr P n w0 ro Q .ret F L := fun _ _ hf hp => wpIn_ret ⟨F, L, hf, hp, h⟩
theorem OKr_condT {c : Operand} {x y : Code} (hc : rv n F c = .bool true) (h : OKr P n w0 ro Q x F L) : OKr P n w0 ro Q (.cond c x y) F L :=
  fun w a hf hp => wpIn_cond_true (by rw [hf.eval]; exact hc) (h w a hf hp)
theorem OKr_condF {c : Operand} {x y : Code} (hc : rv n F c = .bool false) (h : OKr P n w0 ro Q y F L) : OKr P n w0 ro Q (.cond c x y) F L :=
  fun w a hf hp => wpIn_cond_false (by rw [hf.eval]; exact hc) (h w a hf hp)
theorem OKr_block {id : Nat} {c : Code} (h : OKr P n w0 ro (blockQ id Q) c F L) : OKr P n w0 ro Q (.block id c) F L := by
  intro w ac hf hp
  refine wpIn_block (wpIn_mono (h w ac hf hp) ?_)
  rintro e a' w' ⟨F', L', h1, h2, h3⟩
  cases e with
  | exit id' =>
    simp only [blockQ] at h3
    simp only [Exit.inBlock]
    by_cases he : id' = id
    · subst he
      rw [if_pos rfl]
      simp only [Nat.beq_refl, cond_true] at h3
      exact ⟨F', L', h1, h2, h3⟩
    · rw [if_neg he]
      have : Nat.beq id' id = false := beq_ne he
      rw [this] at h3
      exact ⟨F', L', h1, h2, h3⟩
  | _ =>
    unfold blockQ at h3
    exact ⟨F', L', h1, h2, h3⟩
theorem liftN_noPanic : ∀ c a w, ¬ liftN n w0 K (.panic c) a w := fun c a w h => by cases h.1
theorem liftN_noOut : ¬ LetsOut (liftN n w0 K) := by rintro ⟨a, w, h, _⟩; cases h
theorem OKr_region {id : Nat} {l : List Oper} (hn : l.all noDef = true) (h : OKx P n w0 (.seq []) l.toArray (Q .normal) l F L) : OKr P n w0 ro Q (.region id l.toArray false) F L := by
  intro w a hf hp
  have h1 := list_in (P := P) (ops := l.toArray) (ro := some ro) (Q := liftN n w0 (Q .normal)) (Q' := lift n w0 Q) liftN_noPanic liftN_noOut [] (fun a w h => (by obtain ⟨_, F', L', h1, h2, h3⟩ := h; exact ⟨F', L', h1, h2, h3⟩)) l a w hn (h.use w a hf hp)
  rw [List.append_nil] at h1
  exact wpIn_region_lit h1
end
section
variable {P : Program} {n : Nat} {w0 : World} {ro : Nat} {Q : Exit → Fm → List Res → Prop} {F : Fm} {L : List Res} {c : Code}
theorem OKr.use (h : OKr P n w0 ro Q c F L) : ∀ w a, Fr n a F → Hp w0.heap.size w0 w L → c.wpIn (fen (some ro)) 0 P (lift n w0 Q) a w := h
end
attribute [irreducible] OKr
def SatY (P : Program) (l : Nat) (args : List Value) (w0 : World) (L : List Res) (R : Value → List Res → Prop) : Prop :=
  ∀ w, Hp w0.heap.size w0 w L → ∃ fn tmps assign body, (Instr.yield l args.toArray).run P w = .ok (.round l fn tmps assign body) w ∧
    RoundIn Fence.wide 0 P l fn tmps assign body w fun e w' => ∃ v L', e = .returned v ∧ Hp w0.heap.size w0 w' L' ∧ R v L'
section
variable {P : Program} {n : Nat} {w0 : World} {Q : Exit → Fm → List Res → Prop} {F : Fm} {L : List Res}
theorem OK_regionY (k : Nat) {id : Nat} {l : List Oper} (l1 l2 : List Oper) {d : Option Nat} {fo : Operand} {args : Array Operand} {tt : Array TypeId} {ty : TypeId} {pos : String} {aft : Array Edge} (hl : l = l1 ++ ⟨d, .call { callee := .value fo, args := args, argTypes := tt }, ty, pos, aft, none⟩ :: l2) (hn : (l1.all noDef && l2.all noDef) = true)
    (h : OKx P n w0 (.seq []) l.toArray (fun F1 L1 => ∃ (y : Nat) (av : List Value) (R : Value → List Res → Prop), rv n F1 fo = .func (.yield y) #[] #[] ∧ args.toList.map (rv n F1) = av ∧ SatY P y av w0 L1 R ∧
      ∀ v L', R v L' → OKx P n w0 (.seq []) l.toArray (Q .normal) l2 (updo F1 d v) L') l1 F L) : OK P n w0 Q (.region id l.toArray false) F L := by
  rw [Bool.and_eq_true] at hn
  refine OK.mk' fun w a hf hp => (wpIn_wide (n := 0)).1 (wpIn_region_lit ?_)
  have key := list_in (P := P) (ops := l.toArray) (ro := none) (C := fun w => Hp w0.heap.size w0 w []) (Q := liftN n w0 _) (Q' := lift n w0 Q) liftN_noPanic liftN_noOut (⟨d, .call { callee := .value fo, args := args, argTypes := tt }, ty, pos, aft, none⟩ :: l2) ?_ l1 a w hn.1 (h.use w a hf hp)
  · rw [← hl] at key; exact key
  · rintro a1 w1 ⟨_, F1, L1, hf1, hp1, y, av, R, h1, h2, hy, h3⟩
    obtain ⟨fn, tmps, assign, body, hrun, hround⟩ := hy w1 hp1
    unfold wpListIn
    rw [if_pos (by rfl)]
    refine ⟨fun f _ => trivial, ?_⟩
    have hexec : ((⟨d, .call { callee := .value fo, args := args, argTypes := tt }, ty, pos, aft, none⟩ : Oper).semAt (fen none).round a1.eval).run P w1 = .ok (.round y fn tmps assign body) w1 := by
      have e : Array.map (rv n F1) args = av.toArray := by rw [← Array.toList_inj, ← h2]; simp
      have hr : (fen none).round = none := rfl
      rw [hr, Oper.semAt_none, hf1.eval]
      simp only [execOp, resolve, h1, Deferred.ofValue, Sem.run_bind, Sem.run_pure, Result.andThen, invoke, Array.empty_append, Array.append_empty, e, hrun]
    rw [hexec]
    refine ⟨fun h => (by cases h), hround.mono ?_⟩
    rintro e w2 ⟨v, L', rfl, hp2, hR⟩
    have h4 := list_in (P := P) (ops := l.toArray) (ro := none) (Q := liftN n w0 (Q .normal)) (Q' := lift n w0 Q) liftN_noPanic liftN_noOut [] (fun a w h => (by obtain ⟨_, F', L', h1, h2, h3⟩ := h; exact ⟨F', L', h1, h2, h3⟩)) l2 _ w2 hn.2 ((h3 v L' hR).use w2 _ (hf1.put d v) hp2)
    rw [List.append_nil] at h4
    exact h4
end
end Go.Proofs.Ytmclgfipdgmomaa
