/-
  Part 10 of the proof: De39. No statement of the seat is proved here.
-/
import Derived.Test.YtmclgfipdgmomaaGreatMHPlaces9
namespace Go.Proofs.YtmclgfipdgmomaaGreat
open Go.RowKit
section
variable {P : Program} {n : Nat} {w0 : World} {K : Fm → List Res → Prop} {F : Fm} {L : List Res} {m : Md} {Lw : List Res} {ops : Array Oper} {rest : List Oper}
  {d : Option Nat} {ty : TypeId} {pos : String} {aft : Array Edge}
theorem OKx_app0 {s x : Operand} {t : TypeId} {e sz bytes : Nat} {z : Value} [T : TSlice P t e sz bytes z] (i : Nat) {a0 ay : Option Addr} {N c0 cy : Nat} {xs : List Value} (hs : rv n F s = .slice a0 N c0) (hx : rv n F x = .slice ay 0 cy) (hi : L[i]? = some (.row e sz (.slice a0 N c0) N xs))
    (kk : OKx P n w0 m ops K rest (updo F d (.slice a0 N c0)) L) : OKx P n w0 m ops K (⟨d, .call { callee := .builtin .append, args := #[s, x], argTypes := #[t, t] }, ty, pos, aft, none⟩ :: rest) F L :=
  OKx_still (fun w hp _ _ _ _ => by
    obtain ⟨i0, hi0, hz0, hz1, hz2⟩ := info_parts T.ty.inf
    have ho : w.ownsRow w0.heap.size e sz (.slice a0 N c0) N xs := hp.ok _ (List.mem_of_getElem? hi)
    have hle : N ≤ c0 := by
      rcases ho.2 with ⟨h0, h2⟩ | ⟨g, cap, cur, h0, _, _, h4, _⟩
      · omega
      · simp only [Value.slice.injEq] at h0
        omega
    cases a0 <;> cases ay <;> simp [execOp, resolve, invoke, builtin, hs, hx, Builtin.append_, run_underlying T.ty.und, sizeOf, typeInfo, hi0, Builtin.lenOf, Builtin.firstCells, hle, storeCells, Result.andThen, loadCells, loadCellsFrom]) kk
theorem OKx_allocE {e sz : Nat} {zs : List Value} [T : TAgg P e sz zs] [hE : Keeps w0 L Lw] (xs : List Value) (hx : zs = xs) (kk : ∀ g, OKx P n w0 (.seq Lw) ops K rest (updo F d (.pointer (some ⟨g, 0, none⟩))) (.box e g xs :: L)) :
    OKx P n w0 (.seq Lw) ops K (⟨d, .alloc e, ty, pos, aft, none⟩ :: rest) F L := by
  subst hx
  exact OKx_allocA kk
theorem OKx_stBg {t : TypeId} {z : Value} [T : TOne P t z] {x y : Operand} {g k : Nat} {v : Value} [hE : Keeps w0 L Lw] (i : Nat) {e : TypeId} {cs cs' : List Value} {L' : List Res} (hx : rv n F x = .pointer (some ⟨g, k, none⟩)) (hy : rv n F y = v) (h1 : v.oneCell' = true) (hv : v.cells = #[v]) (hi : L[i]? = some (.box e g cs)) (hk : k < cs.length)
    (hs : cs.set k v = cs') (hL : L.set i (.box e g cs') = L') (kk : OKx P n w0 (.seq Lw) ops K rest (updo F d undef) L') : OKx P n w0 (.seq Lw) ops K (⟨d, .store t x y, ty, pos, aft, none⟩ :: rest) F L := by
  subst hs; subst hL
  refine OKx_act0 hE.ent fun w hp => ⟨_, _, ?_, hp.setBox hi k v, kk⟩
  obtain ⟨hc, hf, _, _⟩ := hp.boxAt i hi
  exact run_store1 T hx hy h1 hv ((hc k).trans (List.getElem?_eq_getElem hk)) (hf k) _ _ _ _
end
def frmC (f : Nat → Bool) : List Value := (List.range 64).map fun j => Value.bool (f j)
theorem frmC_len (f : Nat → Bool) : (frmC f).length = 64 := by simp [frmC]
theorem frmC_at (f : Nat → Bool) (j : Nat) (h : j < 64) : (frmC f)[j]? = some (.bool (f j)) := by simp [frmC, h]
theorem frmC_set (f f' : Nat → Bool) (k : Nat) (b : Bool) (h : ∀ j, j < 64 → f' j = if j = k then b else f j) : (frmC f).set k (.bool b) = frmC f' := by
  apply List.ext_getElem
  · simp [frmC]
  · intro j h1 h2
    have hj : j < 64 := by simpa [frmC] using h2
    rw [List.getElem_set]
    simp only [frmC, List.getElem_map, List.getElem_range, h j hj]
    by_cases e : k = j
    · rw [if_pos e, if_pos e.symm]
    · rw [if_neg e, if_neg (fun e2 => e e2.symm)]
def dscL (par : List (List Int)) (i : Nat) : Nat → List Bool
  | 0 => []
  | k + 1 => dscL par i k ++ [if k < i then false else if k = i then true else (par.getD k []).any fun p => (dscL par i k).getD p.toNat false]
theorem dscL_len (par : List (List Int)) (i : Nat) : ∀ k, (dscL par i k).length = k
  | 0 => rfl
  | k + 1 => by rw [dscL, List.length_append, dscL_len par i k]; rfl
theorem dscL_old (par : List (List Int)) (i j : Nat) : ∀ k, j < k → (dscL par i (k + 1)).getD j false = (dscL par i k).getD j false := fun k h => by
  rw [dscL, List.getD_eq_getElem?_getD, List.getElem?_append_left (by rw [dscL_len]; exact h), List.getD_eq_getElem?_getD]
theorem dscL_new (par : List (List Int)) (i k : Nat) : (dscL par i (k + 1)).getD k false = if k < i then false else if k = i then true else (par.getD k []).any fun p => (dscL par i k).getD p.toNat false := by
  rw [dscL, List.getD_eq_getElem?_getD, List.getElem?_append_right (by rw [dscL_len]; exact Nat.le_refl _), dscL_len, Nat.sub_self]
  rfl
theorem dscL_low (par : List (List Int)) (i j : Nat) (hj : j < i) : ∀ k, (dscL par i k).getD j false = false
  | 0 => rfl
  | k + 1 => by
    by_cases h : j < k
    · rw [dscL_old par i j k h]; exact dscL_low par i j hj k
    · by_cases h2 : j = k
      · subst h2; rw [dscL_new, if_pos hj]
      · exact getD_ge _ _ _ (by rw [dscL_len];omega)
def dscF (par : List (List Int)) (i k j : Nat) : Bool := (dscL par i k).getD j false
def dsnL (par : List (List Int)) (i k : Nat) : List Int := ((List.range k).filter (fun j => decide (i < j) && dscF par i k j)).map (fun j : Nat => (j : Int))
theorem dsnL_step (par : List (List Int)) (i k : Nat) : dsnL par i (k + 1) = dsnL par i k ++ if i < k ∧ dscF par i (k + 1) k = true then [(k : Int)] else [] := by
  unfold dsnL
  rw [List.range_succ, List.filter_append, List.map_append]
  congr 1
  · congr 1
    apply List.filter_congr
    intro j hj
    have hj := List.mem_range.1 hj
    unfold dscF
    rw [dscL_old par i j k hj]
  · by_cases h : i < k ∧ dscF par i (k + 1) k = true
    · rw [if_pos h, List.filter_cons_of_pos (by simp [h.1, h.2])]; rfl
    · rw [if_neg h, List.filter_cons_of_neg (by simpa using h)]; rfl
theorem dsnL_start (par : List (List Int)) (i : Nat) : dsnL par i (i + 1) = [] := by
  unfold dsnL
  rw [List.filter_eq_nil_iff.2]
  · rfl
  · intro j hj
    have := List.mem_range.1 hj
    rw [decide_eq_false (by omega)]; simp
theorem dsnL_len (par : List (List Int)) (i k : Nat) : (dsnL par i k).length ≤ k := by
  unfold dsnL
  rw [List.length_map]
  exact Nat.le_trans (List.length_filter_le _ _) (by simp)
theorem dsnL_nat (par : List (List Int)) (i k : Nat) : ∀ u ∈ dsnL par i k, 0 ≤ u ∧ u.toNat < k := by
  intro u hu
  unfold dsnL at hu
  simp only [List.mem_map, List.mem_filter, List.mem_range] at hu
  obtain ⟨j, ⟨h1, _⟩, rfl⟩ := hu
  omega
theorem getD_mem39 {α : Type} (l : List α) (i : Nat) (d : α) (h : i < l.length) : l.getD i d ∈ l := by
  rw [getD_lt _ _ _ h]
  exact List.getElem_mem h
theorem anyN_any39 (xs : List Int) (P : Int → Bool) : anyN (fun j => P (xs.getD j 0)) xs.length = xs.any P := by
  cases h : xs.any P with
  | true =>
    obtain ⟨x, hx, hp⟩ := List.any_eq_true.1 h
    obtain ⟨j, hj, rfl⟩ := List.getElem_of_mem hx
    exact anyN_hit hj (by rw [getD_lt _ _ _ hj]; exact hp)
  | false =>
    rw [List.any_eq_false] at h
    exact anyN_none fun j hj => by
      have := h _ (List.getElem_mem hj)
      rw [getD_lt _ _ _ hj]
      simpa using this
set_option maxRecDepth 100000 in
set_option maxHeartbeats 4000000 in
theorem dsc1_sat (g : Nat) (f : Nat → Bool) (p : Int) (w : World) (h : ∀ j, j < 64 → w.cell? ⟨g, j, none⟩ = some (.bool (f j))) (h0 : 0 ≤ p) (h1 : p.toNat < 64) : SatV Tryz.prog 77 [.int .i64 p, .pointer (some ⟨g, 0, none⟩)] w (.bool (f p.toNat)) := by
  have hc := h p.toNat h1
  refine SatL.of 7 [3] Tryz.func77 (by kernel_rfl) (by kernel_rfl) rfl rfl rfl rfl ?_
  repeat' (first|(apply OK_seq)|(apply thenQ_n)|(apply OK_region)|(apply OKx_gi; refine OKx_idxAz Tryz.underlying89 rfl rfl h0 (by omega) ?_)|(apply OKx_gl; refine OKx_ldR rfl ⟨_, _, rfl, by rw [Nat.zero_add]; exact hc⟩ ?_)|(apply OKx_nilK)|(apply OK_block)|(apply blockQ_n)|(apply blockQ_s)|(apply thenQ_e)|(apply blockQ_e;exact rfl)|(apply thenQ_r)|(apply blockQ_r)|(apply OK_condT;exact rfl)|(apply OK_condF;exact rfl)|(apply OK_skip)|(apply OK_exit)|(apply OK_ret)|(apply OKx_move;(conv=>lhs;whnf)<;>exact rfl)|(apply OKx_assign;(conv=>lhs;whnf)<;>exact rfl)|(apply OKx_ldB;exact rfl;(first | exact at0|exact at1|exact at2|exact at3|exact at4|exact at5|exact at6|exact at7);exact rfl)|(apply OKx_ldR;(conv=>lhs;whnf)<;>exact rfl;(with_reducible assumption))|(apply OKx_idxR2;(conv=>lhs;whnf)<;>exact rfl;(with_reducible assumption);exact rfl;omega;intro _ _)|(apply OKx_ldBo;exact rfl;(first | exact at0|exact at1|exact at2|exact at3|exact at4|exact at5|exact at6|exact at7);omega))
  refine bodyQ_r1 (by ((conv=>lhs;whnf)<;>exact rfl)) ?_
  exact ⟨_, Ent.nil, rfl, rfl⟩
def DscR (s : Stem) (i : Int) (u : Value) (L : List Res) : Prop :=
  (chkI s i ≠ 0 ∧ u = .tuple #[.slice none 0 0, .int .i64 (chkI s i)] ∧ L = []) ∨
  (chkI s i = 0 ∧ ∃ a n c, n = (dsnL s.par i.toNat s.par.length).length ∧ u = .tuple #[.slice a n c, .int .i64 0] ∧ (0 < n → ∃ g, a = some ⟨g, 0, none⟩) ∧ L = [.row 3 1 (.slice a n c) n (ints (dsnL s.par i.toNat s.par.length))])
set_option maxRecDepth 100000 in
set_option maxHeartbeats 4000000 in
theorem Desc_sat (v : Value) (s : Stem) (i : Int) (w : World) (h : Stm w v s) : Sat Tryz.prog 55 [v, .int .i64 i] w (DscR s i) := by
  have hst := h
  obtain ⟨nv, ev, pv, rfl, hS, _, hP⟩ := h
  obtain ⟨fv, hpv, hrow⟩ := hP.rows
  have hnv := hS.sl
  have hpb := hpv.bound
  by_cases hc : chkI s i = 0
  rotate_left
  · refine SatL.of 44 [4, 5] Tryz.func55 (by kernel_rfl) (by kernel_rfl) rfl rfl rfl rfl ?_
    repeat' (first|(apply OK_seq)|(apply thenQ_n)|(apply OK_region)|(apply OKx_gc 64;exact rfl; refine OKx_callV (f := 64) rfl rfl rfl (fun w1 hp => chk36_sat _ s i w1 (hst.below hp.below)) ?_)|(apply OKx_nilK)|(apply OK_block)|(apply blockQ_n)|(apply blockQ_s)|(apply thenQ_e)|(apply blockQ_e;exact rfl)|(apply thenQ_r)|(apply blockQ_r)|(apply OK_condT;exact rfl)|(apply OK_condF;exact rfl)|(apply OK_skip)|(apply OK_exit)|(apply OK_ret)|(apply OKx_move;(conv=>lhs;whnf)<;>exact rfl)|(apply OKx_assign;(conv=>lhs;whnf)<;>exact rfl)|(apply OKx_ldB;exact rfl;(first | exact at0|exact at1|exact at2|exact at3|exact at4|exact at5|exact at6|exact at7);exact rfl)|(apply OKx_ldR;(conv=>lhs;whnf)<;>exact rfl;(with_reducible assumption))|(apply OKx_len;exact rfl)|(apply OKx_lenR;(conv=>lhs;whnf)<;>exact rfl;(with_reducible assumption))|(apply OKx_lenR2;(conv=>lhs;whnf)<;>exact rfl;(with_reducible assumption))|(apply OKx_lenO;(conv=>lhs;whnf)<;>exact rfl;(first | exact at0|exact at1|exact at2|exact at3|exact at4|exact at5|exact at6|exact at7))|(apply OKx_lss;exact rfl;exact rfl;all_goals (intro _; try (exfalso;omega)))|(apply OKx_neq;exact rfl;exact rfl;all_goals (intro _; try (exfalso;omega)))|(apply OKx_idxO;exact rfl;exact rfl;omega)|(apply OKx_idxR;(conv=>lhs;whnf)<;>exact rfl;(with_reducible assumption);exact rfl;omega;intro _ _)|(apply OKx_idxR2;(conv=>lhs;whnf)<;>exact rfl;(with_reducible assumption);exact rfl;omega;intro _ _)|(apply OKx_idxOz;exact rfl;exact rfl;omega;omega)|(apply OKx_idxRz;(conv=>lhs;whnf)<;>exact rfl;(with_reducible assumption);exact rfl;omega;omega;intro _ _)|(apply OKx_fldO;exact rfl;exact rfl)|(apply OKx_fldR;(conv=>lhs;whnf)<;>exact rfl;(with_reducible assumption); decide;intro _ _)|(apply OKx_inc;exact rfl;exact rfl;omega)|(apply OKx_addN;exact rfl;exact rfl;omega)|(apply OKx_add;exact rfl;exact rfl;omega;omega)|(apply OKx_boxA;exact rfl;intro _)|(apply OKx_allocA;intro _)|(apply OKx_ldBA;exact rfl;(first | exact at0|exact at1|exact at2|exact at3|exact at4|exact at5|exact at6|exact at7);exact rfl)|(apply OKx_ldRA;(conv=>lhs;whnf)<;>exact rfl;(with_reducible assumption))|(apply OKx_stB;exact rfl;(conv=>lhs;whnf)<;>exact rfl;exact rfl;exact rfl;(first | exact at0|exact at1|exact at2|exact at3|exact at4|exact at5|exact at6|exact at7);exact rfl;exact rfl;exact rfl)|(apply OKx_ldBo;exact rfl;(first | exact at0|exact at1|exact at2|exact at3|exact at4|exact at5|exact at6|exact at7);omega)|(apply OKx_stBo;exact rfl;exact rfl;(first | exact at0|exact at1|exact at2|exact at3|exact at4|exact at5|exact at6|exact at7);omega;exact rfl)|(apply OKx_slit1;(conv=>lhs;whnf)<;>exact rfl;exact rfl;intro _)|(apply OKx_func;exact rfl;exact rfl))
    refine bodyQ_r2 (by ((conv=>lhs;whnf)<;>exact rfl)) (by ((conv=>lhs;whnf)<;>exact rfl)) ?_
    exact ⟨_, Ent.nil, .inl ⟨hc, rfl, rfl⟩⟩
  obtain ⟨h0, h1, h2⟩ := chkI_zero hc
  obtain ⟨_, hn64, _, hpl, _⟩ := stCheck_len s h0
  have hok := stCheck_okPar s h0
  obtain ⟨j, rfl⟩ := Int.eq_ofNat_of_zero_le h1
  unfold DscR
  rw [Int.toNat_natCast]
  have hset0 := frmC_set (fun _ => false) (dscF s.par j (j + 1)) j true (fun q hq => by
    unfold dscF
    by_cases e : q = j
    · subst e; rw [if_pos rfl, dscL_new, if_neg (by omega), if_pos rfl]
    · rw [if_neg e]
      by_cases e2 : q < j
      · exact dscL_low s.par j q e2 _
      · exact getD_ge _ _ _ (by rw [dscL_len];omega))
  have hfl := fun f => frmC_len f
  refine SatL.of 44 [4, 5] Tryz.func55 (by kernel_rfl) (by kernel_rfl) rfl rfl rfl rfl ?_
  repeat' (first|(apply OK_seq)|(apply thenQ_n)|(apply OK_region)|(apply OKx_gc 64;exact rfl; refine OKx_callV (f := 64) (v := .int .i64 0) rfl rfl rfl (fun w1 hp => by rw [← hc]; exact chk36_sat _ s j w1 (hst.below hp.below)) ?_)|(refine OKx_allocE (frmC fun _ => false) (by rfl) ?_; intro g7)|(apply OKx_gi; refine OKx_idxA Tryz.underlying89 rfl rfl (by omega) ?_; rw [Nat.zero_add])|(apply OKx_gs; refine OKx_stBg 0 rfl rfl rfl rfl rfl (by rw [hfl];omega) hset0 rfl ?_)|(apply OKx_nilK)|(apply OK_block)|(apply blockQ_n)|(apply blockQ_s)|(apply thenQ_e)|(apply blockQ_e;exact rfl)|(apply thenQ_r)|(apply blockQ_r)|(apply OK_condT;exact rfl)|(apply OK_condF;exact rfl)|(apply OK_skip)|(apply OK_exit)|(apply OK_ret)|(apply OKx_move;(conv=>lhs;whnf)<;>exact rfl)|(apply OKx_assign;(conv=>lhs;whnf)<;>exact rfl)|(apply OKx_ldB;exact rfl;(first | exact at0|exact at1|exact at2|exact at3|exact at4|exact at5|exact at6|exact at7);exact rfl)|(apply OKx_ldR;(conv=>lhs;whnf)<;>exact rfl;(with_reducible assumption))|(apply OKx_len;exact rfl)|(apply OKx_lenR;(conv=>lhs;whnf)<;>exact rfl;(with_reducible assumption))|(apply OKx_lenR2;(conv=>lhs;whnf)<;>exact rfl;(with_reducible assumption))|(apply OKx_lenO;(conv=>lhs;whnf)<;>exact rfl;(first | exact at0|exact at1|exact at2|exact at3|exact at4|exact at5|exact at6|exact at7))|(apply OKx_lss;exact rfl;exact rfl;all_goals (intro _; try (exfalso;omega)))|(apply OKx_neq;exact rfl;exact rfl;all_goals (intro _; try (exfalso;omega)))|(apply OKx_idxO;exact rfl;exact rfl;omega)|(apply OKx_idxR;(conv=>lhs;whnf)<;>exact rfl;(with_reducible assumption);exact rfl;omega;intro _ _)|(apply OKx_idxR2;(conv=>lhs;whnf)<;>exact rfl;(with_reducible assumption);exact rfl;omega;intro _ _)|(apply OKx_idxOz;exact rfl;exact rfl;omega;omega)|(apply OKx_idxRz;(conv=>lhs;whnf)<;>exact rfl;(with_reducible assumption);exact rfl;omega;omega;intro _ _)|(apply OKx_fldO;exact rfl;exact rfl)|(apply OKx_fldR;(conv=>lhs;whnf)<;>exact rfl;(with_reducible assumption); decide;intro _ _)|(apply OKx_inc;exact rfl;exact rfl;omega)|(apply OKx_addN;exact rfl;exact rfl;omega)|(apply OKx_add;exact rfl;exact rfl;omega;omega)|(apply OKx_boxA;exact rfl;intro _)|(apply OKx_allocA;intro _)|(apply OKx_ldBA;exact rfl;(first | exact at0|exact at1|exact at2|exact at3|exact at4|exact at5|exact at6|exact at7);exact rfl)|(apply OKx_ldRA;(conv=>lhs;whnf)<;>exact rfl;(with_reducible assumption))|(apply OKx_stB;exact rfl;(conv=>lhs;whnf)<;>exact rfl;exact rfl;exact rfl;(first | exact at0|exact at1|exact at2|exact at3|exact at4|exact at5|exact at6|exact at7);exact rfl;exact rfl;exact rfl)|(apply OKx_ldBo;exact rfl;(first | exact at0|exact at1|exact at2|exact at3|exact at4|exact at5|exact at6|exact at7);omega)|(apply OKx_stBo;exact rfl;exact rfl;(first | exact at0|exact at1|exact at2|exact at3|exact at4|exact at5|exact at6|exact at7);omega;exact rfl)|(apply OKx_slit1;(conv=>lhs;whnf)<;>exact rfl;exact rfl;intro _)|(apply OKx_func;exact rfl;exact rfl))
  rename_i g2 _
  refine OK_loop2 8 9 [8, 9, 20, 21, 22, 23, 24, 25, 26, 27, 28, 29, 30, 31, 32, 33, 34, 35, 36, 37, 38, 39, 40, 41, 42] (fun m u v L => ∃ (k n : Nat) (a : Option Addr) (c : Nat), k + m = s.par.length ∧ j < k ∧ n = (dsnL s.par j k).length ∧ u = .slice a n c ∧ (0 < n → ∃ g, a = some ⟨g, 0, none⟩) ∧ v = .int .i64 (k : Int) ∧
    L = [.row 3 1 (.slice a n c) n (ints (dsnL s.par j k)), .box 89 g7 (frmC (dscF s.par j k)), .box 26 g2 [nv, ev, pv]]) (s.par.length - (j + 1)) _ (Ent.mk fun w1 hp => hp.nil 3 1) ⟨j + 1, 0, none, 0, by omega, by omega, by rw [dsnL_start]; rfl, rfl, fun h => absurd h (by omega), rfl, by rw [dsnL_start]; rfl⟩ ?_
  rintro m u v L G ⟨k, n, a, c, hm, hjk, hn, rfl, ha, rfl, rfl⟩
  by_cases hk : k < s.par.length
  rotate_left
  · obtain rfl : k = s.par.length := by omega
    repeat' (first|(apply OK_seq)|(apply thenQ_n)|(apply OK_region)|(apply OKx_nilK)|(apply OK_block)|(apply blockQ_n)|(apply blockQ_s)|(apply thenQ_e)|(apply blockQ_e;exact rfl)|(apply thenQ_r)|(apply blockQ_r)|(apply OK_condT;exact rfl)|(apply OK_condF;exact rfl)|(apply OK_skip)|(apply OK_exit)|(apply OK_ret)|(apply OKx_move;(conv=>lhs;whnf)<;>exact rfl)|(apply OKx_assign;(conv=>lhs;whnf)<;>exact rfl)|(apply OKx_ldB;exact rfl;(first | exact at0|exact at1|exact at2|exact at3|exact at4|exact at5|exact at6|exact at7);exact rfl)|(apply OKx_ldR;(conv=>lhs;whnf)<;>exact rfl;(with_reducible assumption))|(apply OKx_len;exact rfl)|(apply OKx_lenR;(conv=>lhs;whnf)<;>exact rfl;(with_reducible assumption))|(apply OKx_lenR2;(conv=>lhs;whnf)<;>exact rfl;(with_reducible assumption))|(apply OKx_lenO;(conv=>lhs;whnf)<;>exact rfl;(first | exact at0|exact at1|exact at2|exact at3|exact at4|exact at5|exact at6|exact at7))|(apply OKx_lss;exact rfl;exact rfl;all_goals (intro _; try (exfalso;omega)))|(apply OKx_neq;exact rfl;exact rfl;all_goals (intro _; try (exfalso;omega)))|(apply OKx_idxO;exact rfl;exact rfl;omega)|(apply OKx_idxR;(conv=>lhs;whnf)<;>exact rfl;(with_reducible assumption);exact rfl;omega;intro _ _)|(apply OKx_idxR2;(conv=>lhs;whnf)<;>exact rfl;(with_reducible assumption);exact rfl;omega;intro _ _)|(apply OKx_idxOz;exact rfl;exact rfl;omega;omega)|(apply OKx_idxRz;(conv=>lhs;whnf)<;>exact rfl;(with_reducible assumption);exact rfl;omega;omega;intro _ _)|(apply OKx_fldO;exact rfl;exact rfl)|(apply OKx_fldR;(conv=>lhs;whnf)<;>exact rfl;(with_reducible assumption); decide;intro _ _)|(apply OKx_inc;exact rfl;exact rfl;omega)|(apply OKx_addN;exact rfl;exact rfl;omega)|(apply OKx_add;exact rfl;exact rfl;omega;omega)|(apply OKx_boxA;exact rfl;intro _)|(apply OKx_allocA;intro _)|(apply OKx_ldBA;exact rfl;(first | exact at0|exact at1|exact at2|exact at3|exact at4|exact at5|exact at6|exact at7);exact rfl)|(apply OKx_ldRA;(conv=>lhs;whnf)<;>exact rfl;(with_reducible assumption))|(apply OKx_stB;exact rfl;(conv=>lhs;whnf)<;>exact rfl;exact rfl;exact rfl;(first | exact at0|exact at1|exact at2|exact at3|exact at4|exact at5|exact at6|exact at7);exact rfl;exact rfl;exact rfl)|(apply OKx_ldBo;exact rfl;(first | exact at0|exact at1|exact at2|exact at3|exact at4|exact at5|exact at6|exact at7);omega)|(apply OKx_stBo;exact rfl;exact rfl;(first | exact at0|exact at1|exact at2|exact at3|exact at4|exact at5|exact at6|exact at7);omega;exact rfl)|(apply OKx_slit1;(conv=>lhs;whnf)<;>exact rfl;exact rfl;intro _)|(apply OKx_func;exact rfl;exact rfl))
    refine bodyQ_r2 (by ((conv=>lhs;whnf)<;>exact rfl)) (by ((conv=>lhs;whnf)<;>exact rfl)) ?_
    exact ⟨_, Ent.pick [0] rfl, .inr ⟨hc, a, n, c, hn, rfl, ha, rfl⟩⟩
  have hr : ∀ q, q < (s.par.getD k []).length → 0 ≤ (s.par.getD k []).getD q 0 ∧ (s.par.getD k []).getD q 0 < k := fun q hq => by
    have hg : s.par.getD k [] = s.par[k] := getD_lt _ _ _ hk
    exact hok k hk _ (by rw [getD_lt _ _ _ hq]; exact hg ▸ List.getElem_mem hq)
  have hs := dsnL_step s.par j k
  have hle := dsnL_len s.par j k
  have hnew : dscF s.par j (k + 1) k = (s.par.getD k []).any fun p => dscF s.par j k p.toNat := by
    unfold dscF
    rw [dscL_new, if_neg (by omega), if_neg (by omega)]
  have hset := frmC_set (dscF s.par j k) (dscF s.par j (k + 1)) k (dscF s.par j (k + 1) k) (fun q hq => by
    by_cases e : q = k
    · subst e; rw [if_pos rfl]
    · rw [if_neg e]
      unfold dscF
      by_cases e2 : q < k
      · exact dscL_old s.par j q k e2
      · rw [getD_ge _ _ _ (by rw [dscL_len];omega), getD_ge _ _ _ (by rw [dscL_len];omega)])
  have hxi := (hrow k).sl
  have hget := frmC_at (dscF s.par j (k + 1)) k (by omega)
  generalize hys : dsnL s.par j k = ys at *
  generalize hxs : s.par.getD k [] = xs at *
  generalize hbb : dscF s.par j (k + 1) k = b at *
  have hcall : ∀ (w1 : World) (L : List Res) (f : Nat → Bool), f = dscF s.par j k → Hp w.heap.size w w1 L → L[1]? = some (.box 89 g7 (frmC f)) → SatV Tryz.prog 46 [fv k, .func (.func 77) #[] #[.pointer (some ⟨g7, 0, none⟩)]] w1 (.bool b) := fun w1 L f hf hp hL => by
    rw [hnew, ← anyN_any39 xs, ← hf]
    exact containsF_int_sat _ _ _ (fun q => f (xs.getD q 0).toNat) _ _ w1 (hxi.below hp.below) (fun q hq w2 hb2 => dsc1_sat g7 f _ w2 (fun y hy => by
      have h3 := (hp.boxAt 1 hL).1 y
      rw [frmC_at f y hy] at h3
      exact (hb2.cell (World.block_lt_of_cell? w1 _ h3)).trans h3) (hr q hq).1 (by have := hr q hq;omega))
  repeat' (first|(apply OK_seq)|(apply thenQ_n)|(apply OK_region)|(apply OKx_gc 46;exact rfl; refine OKx_callV (f := 46) rfl rfl rfl (fun w1 hp => hcall w1 _ _ rfl hp rfl) ?_)|(apply OKx_gi; refine OKx_idxA Tryz.underlying89 rfl rfl (by omega) ?_; rw [Nat.zero_add])|(apply OKx_gs; refine OKx_stBg 1 rfl rfl rfl rfl rfl (by rw [hfl];omega) hset rfl ?_)|(apply OKx_gl; refine OKx_ldB 1 rfl rfl hget ?_; cases hb2 : b)|(apply OKx_gb; refine OKx_appI 1 0 rfl rfl rfl rfl (by omega) (by omega) ?_; intro g5 c5)|(apply OKx_nilK)|(apply OK_block)|(apply blockQ_n)|(apply blockQ_s)|(apply thenQ_e)|(apply blockQ_e;exact rfl)|(apply thenQ_r)|(apply blockQ_r)|(apply OK_condT;exact rfl)|(apply OK_condF;exact rfl)|(apply OK_skip)|(apply OK_exit)|(apply OK_ret)|(apply OKx_move;(conv=>lhs;whnf)<;>exact rfl)|(apply OKx_assign;(conv=>lhs;whnf)<;>exact rfl)|(apply OKx_ldB;exact rfl;(first | exact at0|exact at1|exact at2|exact at3|exact at4|exact at5|exact at6|exact at7);exact rfl)|(apply OKx_ldR;(conv=>lhs;whnf)<;>exact rfl;(with_reducible assumption))|(apply OKx_len;exact rfl)|(apply OKx_lenR;(conv=>lhs;whnf)<;>exact rfl;(with_reducible assumption))|(apply OKx_lenR2;(conv=>lhs;whnf)<;>exact rfl;(with_reducible assumption))|(apply OKx_lenO;(conv=>lhs;whnf)<;>exact rfl;(first | exact at0|exact at1|exact at2|exact at3|exact at4|exact at5|exact at6|exact at7))|(apply OKx_lss;exact rfl;exact rfl;all_goals (intro _; try (exfalso;omega)))|(apply OKx_neq;exact rfl;exact rfl;all_goals (intro _; try (exfalso;omega)))|(apply OKx_idxO;exact rfl;exact rfl;omega)|(apply OKx_idxR;(conv=>lhs;whnf)<;>exact rfl;(with_reducible assumption);exact rfl;omega;intro _ _)|(apply OKx_idxR2;(conv=>lhs;whnf)<;>exact rfl;(with_reducible assumption);exact rfl;omega;intro _ _)|(apply OKx_idxOz;exact rfl;exact rfl;omega;omega)|(apply OKx_idxRz;(conv=>lhs;whnf)<;>exact rfl;(with_reducible assumption);exact rfl;omega;omega;intro _ _)|(apply OKx_fldO;exact rfl;exact rfl)|(apply OKx_fldR;(conv=>lhs;whnf)<;>exact rfl;(with_reducible assumption); decide;intro _ _)|(apply OKx_inc;exact rfl;exact rfl;omega)|(apply OKx_addN;exact rfl;exact rfl;omega)|(apply OKx_add;exact rfl;exact rfl;omega;omega)|(apply OKx_boxA;exact rfl;intro _)|(apply OKx_allocA;intro _)|(apply OKx_ldBA;exact rfl;(first | exact at0|exact at1|exact at2|exact at3|exact at4|exact at5|exact at6|exact at7);exact rfl)|(apply OKx_ldRA;(conv=>lhs;whnf)<;>exact rfl;(with_reducible assumption))|(apply OKx_stB;exact rfl;(conv=>lhs;whnf)<;>exact rfl;exact rfl;exact rfl;(first | exact at0|exact at1|exact at2|exact at3|exact at4|exact at5|exact at6|exact at7);exact rfl;exact rfl;exact rfl)|(apply OKx_ldBo;exact rfl;(first | exact at0|exact at1|exact at2|exact at3|exact at4|exact at5|exact at6|exact at7);omega)|(apply OKx_stBo;exact rfl;exact rfl;(first | exact at0|exact at1|exact at2|exact at3|exact at4|exact at5|exact at6|exact at7);omega;exact rfl)|(apply OKx_slit1;(conv=>lhs;whnf)<;>exact rfl;exact rfl;intro _)|(apply OKx_func;exact rfl;exact rfl))
  · rw [if_neg (by rw [hb2]; simp), List.append_nil] at hs
    refine ⟨by (repeat' (first | refine agree_upd rfl ?_ | exact agree_over | exact agree_refl _ _ | refine agree_over2 rfl ?_)), m - 1, _, by omega, Ent.refl _ _, ?_⟩
    exact ⟨k + 1, n, a, c, by omega, by omega, by rw [hs]; exact hn, rfl, ha, rfl, by rw [hs]; rfl⟩
  · rw [if_pos ⟨hjk, hb2⟩] at hs
    refine ⟨by (repeat' (first | refine agree_upd rfl ?_ | exact agree_over | exact agree_refl _ _ | refine agree_over2 rfl ?_)), m - 1, _, by omega, Ent.pick [1, 2, 3] rfl, ?_⟩
    exact ⟨k + 1, n + 1, _, c5, by omega, by omega, by rw [hs, List.length_append, hn]; rfl, rfl, fun _ => ⟨_, rfl⟩, rfl, by rw [hs]; rfl⟩
def brK (st l : List Int) (k : Nat) : List Int := ((l.take k).map fun n => st.getD n.toNat 0).filter fun x => decide (0 ≤ x)
theorem brK_step (st l : List Int) (k : Nat) (h : k < l.length) : brK st l (k + 1) = brK st l k ++ if 0 ≤ st.getD (l.getD k 0).toNat 0 then [st.getD (l.getD k 0).toNat 0] else [] := by
  unfold brK
  rw [List.take_succ_eq_append_getElem h, List.map_append, List.filter_append, getD_lt l _ _ h]
  congr 1
  by_cases h0 : 0 ≤ st.getD l[k].toNat 0
  · rw [if_pos h0]
    simp only [List.map_cons, List.map_nil]
    rw [List.filter_cons_of_pos (by simpa using h0)]; rfl
  · rw [if_neg h0]
    simp only [List.map_cons, List.map_nil]
    rw [List.filter_cons_of_neg (by simpa using h0)]; rfl
def brOne (xs : List Int) : Int × Bool := match xs with | [] => (0, false) | x :: r => if r.all (fun y => y == x) then (x, true) else (0, false)
def braL (s : Stem) (i : Nat) : List Int := (i : Int) :: dsnL s.par i s.par.length
def braV (s : Stem) (st : List Int) (i : Nat) : Int × Bool := brOne (brK st (braL s i) (braL s i).length)
theorem brOne_same (x : Int) (r : List Int) (h : ∀ y ∈ r, y = x) : brOne (x :: r) = (x, true) := by
  show (if (r.all fun y => y == x) = true then (x, true) else ((0 : Int), false)) = _
  rw [if_pos]
  rw [List.all_eq_true]
  intro y hy
  rw [h y hy]; simp
theorem brOne_diff (x y : Int) (r : List Int) (h : y ∈ r) (hn : y ≠ x) : brOne (x :: r) = (0, false) := by
  show (if (r.all fun y => y == x) = true then (x, true) else ((0 : Int), false)) = _
  rw [if_neg]
  rw [List.all_eq_true]
  intro h2
  have := h2 y h
  simp at this
  exact hn this
theorem brK_pre (st l : List Int) (k : Nat) : brK st l k <+: brK st l l.length := by
  unfold brK
  rw [List.take_length]
  exact ((List.take_prefix k l).map _).filter _
def brInv (xs : List Int) (state : Int) (is : Bool) : Prop := (is = false ∧ state = 0 ∧ xs = []) ∨ (is = true ∧ ∃ r, xs = state :: r ∧ ∀ y ∈ r, y = state)
theorem brInv_one {xs : List Int} {state : Int} {is : Bool} (h : brInv xs state is) : brOne xs = (state, is) := by
  rcases h with ⟨rfl, rfl, rfl⟩ | ⟨rfl, r, rfl, h⟩
  · rfl
  · exact brOne_same _ _ h
set_option maxRecDepth 100000 in
set_option maxHeartbeats 4000000 in
theorem bra_sat (v sv : Value) (s : Stem) (st : List Int) (i : Nat) (w : World) (h : Stm w v s) (hs : Ints w sv st) (hc : stCheck s = 0) (hi : i < s.par.length) (hl : st.length = s.par.length) : SatV Tryz.prog 34 [v, sv, .int .i64 (i : Int)] w (.tuple #[.int .i64 (braV s st i).1, .bool (braV s st i).2]) := by
  have hst := h
  obtain ⟨nv, ev, pv, rfl, _, _, _⟩ := h
  have hsv := hs.sl
  have hlen := stCheck_len s hc
  have hck : chkI s i = 0 := by unfold chkI; rw [if_neg (by omega), if_neg (by omega)]
  have hnat : ∀ j, j < (braL s i).length → 0 ≤ (braL s i).getD j 0 ∧ ((braL s i).getD j 0).toNat < st.length := fun j hj => by
    have hm := getD_mem39 (braL s i) j 0 hj
    unfold braL at hm ⊢
    rcases List.mem_cons.1 hm with e | e
    · rw [e];omega
    · have := dsnL_nat s.par i s.par.length _ e
      omega
  have hbl : (braL s i).length = 1 + (dsnL s.par i s.par.length).length := by unfold braL; rw [List.length_cons];omega
  have hdl := dsnL_len s.par i s.par.length
  have hstep := brK_step st (braL s i)
  have hpre := brK_pre st (braL s i)
  have hres : ∀ state is, brInv (brK st (braL s i) (braL s i).length) state is → braV s st i = (state, is) := fun state is h => brInv_one h
  have hbad : ∀ k x y r, brK st (braL s i) k = x :: r → y ∈ r → y ≠ x → braV s st i = (0, false) := fun k x y r h1 h2 h3 => by
    obtain ⟨t, ht⟩ := hpre k
    unfold braV
    rw [← ht, h1, List.cons_append]
    exact brOne_diff x y _ (List.mem_append_left _ h2) h3
  have hcons : (braL s i) = [(i : Int)] ++ dsnL s.par i s.par.length := rfl
  generalize hbr : braV s st i = br at *
  refine SatL.of 48 [6, 7] Tryz.func34 (by kernel_rfl) (by kernel_rfl) rfl rfl rfl rfl ?_
  repeat' (first|(apply OK_seq)|(apply thenQ_n)|(apply OK_region)|(apply OKx_gc 55;exact rfl; refine OKx_call (f := 55) rfl rfl (fun w1 hp => Desc_sat _ s i w1 (hst.below hp.below)) ?_; rintro _ _ (⟨h1, _⟩ | ⟨h1, a, n, c, hn, rfl, ha, rfl⟩) <;> first | exact absurd hck h1 | (rw [Int.toNat_natCast] at hn ⊢; rw [List.cons_append, List.nil_append]))|(apply OKx_nilK)|(apply OK_block)|(apply blockQ_n)|(apply blockQ_s)|(apply thenQ_e)|(apply blockQ_e;exact rfl)|(apply thenQ_r)|(apply blockQ_r)|(apply OK_condT;exact rfl)|(apply OK_condF;exact rfl)|(apply OK_skip)|(apply OK_exit)|(apply OK_ret)|(apply OKx_move;(conv=>lhs;whnf)<;>exact rfl)|(apply OKx_assign;(conv=>lhs;whnf)<;>exact rfl)|(apply OKx_ldB;exact rfl;(first | exact at0|exact at1|exact at2|exact at3|exact at4|exact at5|exact at6|exact at7);exact rfl)|(apply OKx_ldR;(conv=>lhs;whnf)<;>exact rfl;(with_reducible assumption))|(apply OKx_ldI;exact rfl;(first | exact at0|exact at1|exact at2|exact at3|exact at4|exact at5|exact at6|exact at7);omega)|(apply OKx_len;exact rfl)|(apply OKx_lenR;(conv=>lhs;whnf)<;>exact rfl;(with_reducible assumption))|(apply OKx_lenR2;(conv=>lhs;whnf)<;>exact rfl;(with_reducible assumption))|(apply OKx_lenO;(conv=>lhs;whnf)<;>exact rfl;(first | exact at0|exact at1|exact at2|exact at3|exact at4|exact at5|exact at6|exact at7))|(apply OKx_lss;exact rfl;exact rfl;all_goals (intro _; try (exfalso;omega)))|(apply OKx_neq;exact rfl;exact rfl;all_goals (intro _; try (exfalso;omega)))|(apply OKx_idxO;exact rfl;exact rfl;omega)|(apply OKx_idxR;(conv=>lhs;whnf)<;>exact rfl;(with_reducible assumption);exact rfl;omega;intro _ _)|(apply OKx_idxOz;exact rfl;exact rfl;omega;omega)|(apply OKx_idxRz;(conv=>lhs;whnf)<;>exact rfl;(with_reducible assumption);exact rfl;omega;omega;intro _ _)|(apply OKx_inc;exact rfl;exact rfl;omega)|(apply OKx_addN;exact rfl;exact rfl;omega)|(apply OKx_add;exact rfl;exact rfl;omega;omega)|(apply OKx_notT;exact rfl)|(apply OKx_notF;exact rfl)|(apply OKx_extract;exact rfl;(conv=>lhs;whnf)<;>exact rfl)|(apply OKx_boxA;exact rfl;intro _)|(apply OKx_ldBA;exact rfl;(first | exact at0|exact at1|exact at2|exact at3|exact at4|exact at5|exact at6|exact at7);exact rfl)|(apply OKx_ldRA;(conv=>lhs;whnf)<;>exact rfl;(with_reducible assumption))|(apply OKx_slit1;(conv=>lhs;whnf)<;>exact rfl;exact rfl;intro _))
  have hsw : ∀ nb, nb = (braL s i).length → nb ≤ 100 := fun nb h => by omega
  rename_i g2 g22
  have hone : ∀ u ∈ ints (dsnL s.par i s.par.length), u.oneCell' = true := fun u hu => by
    simp only [ints, List.mem_map] at hu
    obtain ⟨z, _, rfl⟩ := hu
    rfl
  have hlen2 : (ints (dsnL s.par i s.par.length)).length = n := by simp [ints, hn]
  by_cases hn0 : n = 0
  · subst hn0
    have hb1 : dsnL s.par i s.par.length = [] := List.eq_nil_of_length_eq_zero hn.symm
    have hbi : ints (braL s i) = [.int .i64 (i : Int)] := by unfold braL; rw [hb1]; rfl
    have hbl2 : (braL s i).length = 1 := by omega
    repeat' (first|(apply OK_seq)|(apply thenQ_n)|(apply OK_region)|(apply OKx_gb; refine OKx_app0 0 rfl rfl rfl ?_)|(apply OKx_nilK)|(apply OK_block)|(apply blockQ_n)|(apply blockQ_s)|(apply thenQ_e)|(apply blockQ_e;exact rfl)|(apply thenQ_r)|(apply blockQ_r)|(apply OK_condT;exact rfl)|(apply OK_condF;exact rfl)|(apply OK_skip)|(apply OK_exit)|(apply OK_ret)|(apply OKx_move;(conv=>lhs;whnf)<;>exact rfl)|(apply OKx_assign;(conv=>lhs;whnf)<;>exact rfl)|(apply OKx_ldB;exact rfl;(first | exact at0|exact at1|exact at2|exact at3|exact at4|exact at5|exact at6|exact at7);exact rfl)|(apply OKx_ldR;(conv=>lhs;whnf)<;>exact rfl;(with_reducible assumption))|(apply OKx_ldI;exact rfl;(first | exact at0|exact at1|exact at2|exact at3|exact at4|exact at5|exact at6|exact at7);omega)|(apply OKx_len;exact rfl)|(apply OKx_lenR;(conv=>lhs;whnf)<;>exact rfl;(with_reducible assumption))|(apply OKx_lenR2;(conv=>lhs;whnf)<;>exact rfl;(with_reducible assumption))|(apply OKx_lenO;(conv=>lhs;whnf)<;>exact rfl;(first | exact at0|exact at1|exact at2|exact at3|exact at4|exact at5|exact at6|exact at7))|(apply OKx_lss;exact rfl;exact rfl;all_goals (intro _; try (exfalso;omega)))|(apply OKx_neq;exact rfl;exact rfl;all_goals (intro _; try (exfalso;omega)))|(apply OKx_idxO;exact rfl;exact rfl;omega)|(apply OKx_idxR;(conv=>lhs;whnf)<;>exact rfl;(with_reducible assumption);exact rfl;omega;intro _ _)|(apply OKx_idxOz;exact rfl;exact rfl;omega;omega)|(apply OKx_idxRz;(conv=>lhs;whnf)<;>exact rfl;(with_reducible assumption);exact rfl;omega;omega;intro _ _)|(apply OKx_inc;exact rfl;exact rfl;omega)|(apply OKx_addN;exact rfl;exact rfl;omega)|(apply OKx_add;exact rfl;exact rfl;omega;omega)|(apply OKx_notT;exact rfl)|(apply OKx_notF;exact rfl)|(apply OKx_extract;exact rfl;(conv=>lhs;whnf)<;>exact rfl)|(apply OKx_boxA;exact rfl;intro _)|(apply OKx_ldBA;exact rfl;(first | exact at0|exact at1|exact at2|exact at3|exact at4|exact at5|exact at6|exact at7);exact rfl)|(apply OKx_ldRA;(conv=>lhs;whnf)<;>exact rfl;(with_reducible assumption))|(apply OKx_slit1;(conv=>lhs;whnf)<;>exact rfl;exact rfl;intro _))
    rw [← hbi]
    refine OK_loop3 10 11 26 [6, 7, 10, 11, 13, 14, 26, 27, 28, 29, 30, 31, 32, 33, 34, 35, 36, 37, 38, 39, 40, 41, 42, 43, 44, 45] (fun m u v2 v3 L => ∃ (k : Nat) (state : Int) (is : Bool), k + m = 1 ∧ u = .int .i64 state ∧ v2 = .bool is ∧ v3 = .int .i64 (k : Int) ∧ brInv (brK st (braL s i) k) state is ∧ L = [.row 3 1 (.slice (some ⟨g22, 0, none⟩) 1 1) (1) (ints (braL s i))]) (1) _ (Ent.pick [0] rfl) ⟨0, 0, false, by omega, rfl, rfl, rfl, .inl ⟨rfl, rfl, rfl⟩, rfl⟩ ?_
    rintro m u v2 v3 L G ⟨k, state, is, hm, rfl, rfl, rfl, hinv, rfl⟩
    by_cases hk : k < 1
    · have hst1 := hstep k (by omega)
      have hnk := hnat k (by omega)
      generalize hq : (braL s i).getD k 0 = q at *
      generalize hx : st.getD q.toNat 0 = x at *
      rcases hinv with ⟨rfl, rfl, hnil⟩ | ⟨rfl, r, hr, hall⟩
      · rw [hnil, List.nil_append] at hst1
        repeat' (first|(apply OK_seq)|(apply thenQ_n)|(apply OK_region)|(apply OKx_gi; refine OKx_idxO (i := k) rfl rfl (by omega) ?_)|(apply OKx_gl; refine OKx_ldI 0 rfl rfl (by omega) ?_; rw [hq])|(apply OKx_gi; refine OKx_idxRz rfl hsv rfl hnk.1 (by omega) ?_; rw [hx];intro _ _)|(apply OKx_nilK)|(apply OK_block)|(apply blockQ_n)|(apply blockQ_s)|(apply thenQ_e)|(apply blockQ_e;exact rfl)|(apply thenQ_r)|(apply blockQ_r)|(apply OK_condT;exact rfl)|(apply OK_condF;exact rfl)|(apply OK_skip)|(apply OK_exit)|(apply OK_ret)|(apply OKx_move;(conv=>lhs;whnf)<;>exact rfl)|(apply OKx_assign;(conv=>lhs;whnf)<;>exact rfl)|(apply OKx_ldB;exact rfl;(first | exact at0|exact at1|exact at2|exact at3|exact at4|exact at5|exact at6|exact at7);exact rfl)|(apply OKx_ldR;(conv=>lhs;whnf)<;>exact rfl;(with_reducible assumption))|(apply OKx_ldI;exact rfl;(first | exact at0|exact at1|exact at2|exact at3|exact at4|exact at5|exact at6|exact at7);omega)|(apply OKx_len;exact rfl)|(apply OKx_lenR;(conv=>lhs;whnf)<;>exact rfl;(with_reducible assumption))|(apply OKx_lenR2;(conv=>lhs;whnf)<;>exact rfl;(with_reducible assumption))|(apply OKx_lenO;(conv=>lhs;whnf)<;>exact rfl;(first | exact at0|exact at1|exact at2|exact at3|exact at4|exact at5|exact at6|exact at7))|(apply OKx_lss;exact rfl;exact rfl;all_goals (intro _; try (exfalso;omega)))|(apply OKx_neq;exact rfl;exact rfl;all_goals (intro _; try (exfalso;omega)))|(apply OKx_idxO;exact rfl;exact rfl;omega)|(apply OKx_idxR;(conv=>lhs;whnf)<;>exact rfl;(with_reducible assumption);exact rfl;omega;intro _ _)|(apply OKx_idxOz;exact rfl;exact rfl;omega;omega)|(apply OKx_idxRz;(conv=>lhs;whnf)<;>exact rfl;(with_reducible assumption);exact rfl;omega;omega;intro _ _)|(apply OKx_inc;exact rfl;exact rfl;omega)|(apply OKx_addN;exact rfl;exact rfl;omega)|(apply OKx_add;exact rfl;exact rfl;omega;omega)|(apply OKx_notT;exact rfl)|(apply OKx_notF;exact rfl)|(apply OKx_extract;exact rfl;(conv=>lhs;whnf)<;>exact rfl)|(apply OKx_boxA;exact rfl;intro _)|(apply OKx_ldBA;exact rfl;(first | exact at0|exact at1|exact at2|exact at3|exact at4|exact at5|exact at6|exact at7);exact rfl)|(apply OKx_ldRA;(conv=>lhs;whnf)<;>exact rfl;(with_reducible assumption))|(apply OKx_slit1;(conv=>lhs;whnf)<;>exact rfl;exact rfl;intro _))
        · rw [if_neg (by omega)] at hst1
          refine ⟨by (repeat' (first | refine agree_upd rfl ?_ | exact agree_over | exact agree_refl _ _ | refine agree_over2 rfl ?_)), m - 1, _, by omega, Ent.refl _ _, ?_⟩
          exact ⟨k + 1, 0, false, by omega, rfl, rfl, rfl, .inl ⟨rfl, rfl, hst1⟩, rfl⟩
        · rw [if_pos (by omega)] at hst1
          refine ⟨by (repeat' (first | refine agree_upd rfl ?_ | exact agree_over | exact agree_refl _ _ | refine agree_over2 rfl ?_)), m - 1, _, by omega, Ent.refl _ _, ?_⟩
          exact ⟨k + 1, x, true, by omega, rfl, rfl, rfl, .inr ⟨rfl, [], hst1, fun y hy => by simp at hy⟩, rfl⟩
      · rw [hr, List.cons_append] at hst1
        repeat' (first|(apply OK_seq)|(apply thenQ_n)|(apply OK_region)|(apply OKx_gi; refine OKx_idxO (i := k) rfl rfl (by omega) ?_)|(apply OKx_gl; refine OKx_ldI 0 rfl rfl (by omega) ?_; rw [hq])|(apply OKx_gi; refine OKx_idxRz rfl hsv rfl hnk.1 (by omega) ?_; rw [hx];intro _ _)|(apply OKx_nilK)|(apply OK_block)|(apply blockQ_n)|(apply blockQ_s)|(apply thenQ_e)|(apply blockQ_e;exact rfl)|(apply thenQ_r)|(apply blockQ_r)|(apply OK_condT;exact rfl)|(apply OK_condF;exact rfl)|(apply OK_skip)|(apply OK_exit)|(apply OK_ret)|(apply OKx_move;(conv=>lhs;whnf)<;>exact rfl)|(apply OKx_assign;(conv=>lhs;whnf)<;>exact rfl)|(apply OKx_ldB;exact rfl;(first | exact at0|exact at1|exact at2|exact at3|exact at4|exact at5|exact at6|exact at7);exact rfl)|(apply OKx_ldR;(conv=>lhs;whnf)<;>exact rfl;(with_reducible assumption))|(apply OKx_ldI;exact rfl;(first | exact at0|exact at1|exact at2|exact at3|exact at4|exact at5|exact at6|exact at7);omega)|(apply OKx_len;exact rfl)|(apply OKx_lenR;(conv=>lhs;whnf)<;>exact rfl;(with_reducible assumption))|(apply OKx_lenR2;(conv=>lhs;whnf)<;>exact rfl;(with_reducible assumption))|(apply OKx_lenO;(conv=>lhs;whnf)<;>exact rfl;(first | exact at0|exact at1|exact at2|exact at3|exact at4|exact at5|exact at6|exact at7))|(apply OKx_lss;exact rfl;exact rfl;all_goals (intro _; try (exfalso;omega)))|(apply OKx_neq;exact rfl;exact rfl;all_goals (intro _; try (exfalso;omega)))|(apply OKx_idxO;exact rfl;exact rfl;omega)|(apply OKx_idxR;(conv=>lhs;whnf)<;>exact rfl;(with_reducible assumption);exact rfl;omega;intro _ _)|(apply OKx_idxOz;exact rfl;exact rfl;omega;omega)|(apply OKx_idxRz;(conv=>lhs;whnf)<;>exact rfl;(with_reducible assumption);exact rfl;omega;omega;intro _ _)|(apply OKx_inc;exact rfl;exact rfl;omega)|(apply OKx_addN;exact rfl;exact rfl;omega)|(apply OKx_add;exact rfl;exact rfl;omega;omega)|(apply OKx_notT;exact rfl)|(apply OKx_notF;exact rfl)|(apply OKx_extract;exact rfl;(conv=>lhs;whnf)<;>exact rfl)|(apply OKx_boxA;exact rfl;intro _)|(apply OKx_ldBA;exact rfl;(first | exact at0|exact at1|exact at2|exact at3|exact at4|exact at5|exact at6|exact at7);exact rfl)|(apply OKx_ldRA;(conv=>lhs;whnf)<;>exact rfl;(with_reducible assumption))|(apply OKx_slit1;(conv=>lhs;whnf)<;>exact rfl;exact rfl;intro _))
        · rw [if_neg (by omega), List.append_nil] at hst1
          refine ⟨by (repeat' (first | refine agree_upd rfl ?_ | exact agree_over | exact agree_refl _ _ | refine agree_over2 rfl ?_)), m - 1, _, by omega, Ent.refl _ _, ?_⟩
          exact ⟨k + 1, state, true, by omega, rfl, rfl, rfl, .inr ⟨rfl, r, hst1, hall⟩, rfl⟩
        · rw [if_pos (by omega)] at hst1
          have hb := hbad (k + 1) state x (r ++ [x]) hst1 (by simp) (by assumption)
          refine bodyQ_r2 (by ((conv=>lhs;whnf)<;>exact rfl)) (by ((conv=>lhs;whnf)<;>exact rfl)) ?_
          exact ⟨_, Ent.nil, by rw [hb], rfl⟩
        · rw [if_pos (by omega)] at hst1
          refine ⟨by (repeat' (first | refine agree_upd rfl ?_ | exact agree_over | exact agree_refl _ _ | refine agree_over2 rfl ?_)), m - 1, _, by omega, Ent.refl _ _, ?_⟩
          refine ⟨k + 1, state, true, by omega, rfl, rfl, rfl, .inr ⟨rfl, _, hst1, fun y hy => ?_⟩, rfl⟩
          rcases List.mem_append.1 hy with hy | hy
          · exact hall y hy
          · rw [List.mem_singleton] at hy;omega
    · obtain rfl : k = (braL s i).length := by omega
      have hb := hres state is hinv
      repeat' (first|(apply OK_seq)|(apply thenQ_n)|(apply OK_region)|(apply OKx_nilK)|(apply OK_block)|(apply blockQ_n)|(apply blockQ_s)|(apply thenQ_e)|(apply blockQ_e;exact rfl)|(apply thenQ_r)|(apply blockQ_r)|(apply OK_condT;exact rfl)|(apply OK_condF;exact rfl)|(apply OK_skip)|(apply OK_exit)|(apply OK_ret)|(apply OKx_move;(conv=>lhs;whnf)<;>exact rfl)|(apply OKx_assign;(conv=>lhs;whnf)<;>exact rfl)|(apply OKx_ldB;exact rfl;(first | exact at0|exact at1|exact at2|exact at3|exact at4|exact at5|exact at6|exact at7);exact rfl)|(apply OKx_ldR;(conv=>lhs;whnf)<;>exact rfl;(with_reducible assumption))|(apply OKx_ldI;exact rfl;(first | exact at0|exact at1|exact at2|exact at3|exact at4|exact at5|exact at6|exact at7);omega)|(apply OKx_len;exact rfl)|(apply OKx_lenR;(conv=>lhs;whnf)<;>exact rfl;(with_reducible assumption))|(apply OKx_lenR2;(conv=>lhs;whnf)<;>exact rfl;(with_reducible assumption))|(apply OKx_lenO;(conv=>lhs;whnf)<;>exact rfl;(first | exact at0|exact at1|exact at2|exact at3|exact at4|exact at5|exact at6|exact at7))|(apply OKx_lss;exact rfl;exact rfl;all_goals (intro _; try (exfalso;omega)))|(apply OKx_neq;exact rfl;exact rfl;all_goals (intro _; try (exfalso;omega)))|(apply OKx_idxO;exact rfl;exact rfl;omega)|(apply OKx_idxR;(conv=>lhs;whnf)<;>exact rfl;(with_reducible assumption);exact rfl;omega;intro _ _)|(apply OKx_idxOz;exact rfl;exact rfl;omega;omega)|(apply OKx_idxRz;(conv=>lhs;whnf)<;>exact rfl;(with_reducible assumption);exact rfl;omega;omega;intro _ _)|(apply OKx_inc;exact rfl;exact rfl;omega)|(apply OKx_addN;exact rfl;exact rfl;omega)|(apply OKx_add;exact rfl;exact rfl;omega;omega)|(apply OKx_notT;exact rfl)|(apply OKx_notF;exact rfl)|(apply OKx_extract;exact rfl;(conv=>lhs;whnf)<;>exact rfl)|(apply OKx_boxA;exact rfl;intro _)|(apply OKx_ldBA;exact rfl;(first | exact at0|exact at1|exact at2|exact at3|exact at4|exact at5|exact at6|exact at7);exact rfl)|(apply OKx_ldRA;(conv=>lhs;whnf)<;>exact rfl;(with_reducible assumption))|(apply OKx_slit1;(conv=>lhs;whnf)<;>exact rfl;exact rfl;intro _))
      refine bodyQ_r2 (by ((conv=>lhs;whnf)<;>exact rfl)) (by ((conv=>lhs;whnf)<;>exact rfl)) ?_
      exact ⟨_, Ent.nil, by rw [hb], rfl⟩
  · obtain ⟨ga, rfl⟩ := ha (by omega)
    have hbl2 : (braL s i).length = 1 + n := by omega
    repeat' (first|(apply OK_seq)|(apply thenQ_n)|(apply OK_region)|(apply OKx_gb; refine OKx_append 0 (M := n) (ys := ints (dsnL s.par i s.par.length)) rfl rfl rfl (by omega) (fun w1 hp j u hj => ?_) hone (by omega) (by omega) (by omega) ?_; rotate_left; intro g4 c4)|(apply OKx_nilK)|(apply OK_block)|(apply blockQ_n)|(apply blockQ_s)|(apply thenQ_e)|(apply blockQ_e;exact rfl)|(apply thenQ_r)|(apply blockQ_r)|(apply OK_condT;exact rfl)|(apply OK_condF;exact rfl)|(apply OK_skip)|(apply OK_exit)|(apply OK_ret)|(apply OKx_move;(conv=>lhs;whnf)<;>exact rfl)|(apply OKx_assign;(conv=>lhs;whnf)<;>exact rfl)|(apply OKx_ldB;exact rfl;(first | exact at0|exact at1|exact at2|exact at3|exact at4|exact at5|exact at6|exact at7);exact rfl)|(apply OKx_ldR;(conv=>lhs;whnf)<;>exact rfl;(with_reducible assumption))|(apply OKx_ldI;exact rfl;(first | exact at0|exact at1|exact at2|exact at3|exact at4|exact at5|exact at6|exact at7);omega)|(apply OKx_len;exact rfl)|(apply OKx_lenR;(conv=>lhs;whnf)<;>exact rfl;(with_reducible assumption))|(apply OKx_lenR2;(conv=>lhs;whnf)<;>exact rfl;(with_reducible assumption))|(apply OKx_lenO;(conv=>lhs;whnf)<;>exact rfl;(first | exact at0|exact at1|exact at2|exact at3|exact at4|exact at5|exact at6|exact at7))|(apply OKx_lss;exact rfl;exact rfl;all_goals (intro _; try (exfalso;omega)))|(apply OKx_neq;exact rfl;exact rfl;all_goals (intro _; try (exfalso;omega)))|(apply OKx_idxO;exact rfl;exact rfl;omega)|(apply OKx_idxR;(conv=>lhs;whnf)<;>exact rfl;(with_reducible assumption);exact rfl;omega;intro _ _)|(apply OKx_idxOz;exact rfl;exact rfl;omega;omega)|(apply OKx_idxRz;(conv=>lhs;whnf)<;>exact rfl;(with_reducible assumption);exact rfl;omega;omega;intro _ _)|(apply OKx_inc;exact rfl;exact rfl;omega)|(apply OKx_addN;exact rfl;exact rfl;omega)|(apply OKx_add;exact rfl;exact rfl;omega;omega)|(apply OKx_notT;exact rfl)|(apply OKx_notF;exact rfl)|(apply OKx_extract;exact rfl;(conv=>lhs;whnf)<;>exact rfl)|(apply OKx_boxA;exact rfl;intro _)|(apply OKx_ldBA;exact rfl;(first | exact at0|exact at1|exact at2|exact at3|exact at4|exact at5|exact at6|exact at7);exact rfl)|(apply OKx_ldRA;(conv=>lhs;whnf)<;>exact rfl;(with_reducible assumption))|(apply OKx_slit1;(conv=>lhs;whnf)<;>exact rfl;exact rfl;intro _))
    rotate_left
    · rw [Nat.zero_add, (hp.rowAt 1 rfl).1 j (by have := (List.getElem?_eq_some_iff.1 hj).1;omega), hj]
    refine OK_loop3 10 11 26 [6, 7, 10, 11, 13, 14, 26, 27, 28, 29, 30, 31, 32, 33, 34, 35, 36, 37, 38, 39, 40, 41, 42, 43, 44, 45] (fun m u v2 v3 L => ∃ (k : Nat) (state : Int) (is : Bool), k + m = 1 + n ∧ u = .int .i64 state ∧ v2 = .bool is ∧ v3 = .int .i64 (k : Int) ∧ brInv (brK st (braL s i) k) state is ∧ L = [.row 3 1 (.slice (some ⟨g4, 0, none⟩) (1 + n) c4) (1 + n) (ints (braL s i))]) (1 + n) _ (Ent.pick [0] rfl) ⟨0, 0, false, by omega, rfl, rfl, rfl, .inl ⟨rfl, rfl, rfl⟩, rfl⟩ ?_
    rintro m u v2 v3 L G ⟨k, state, is, hm, rfl, rfl, rfl, hinv, rfl⟩
    by_cases hk : k < 1 + n
    · have hst1 := hstep k (by omega)
      have hnk := hnat k (by omega)
      generalize hq : (braL s i).getD k 0 = q at *
      generalize hx : st.getD q.toNat 0 = x at *
      rcases hinv with ⟨rfl, rfl, hnil⟩ | ⟨rfl, r, hr, hall⟩
      · rw [hnil, List.nil_append] at hst1
        repeat' (first|(apply OK_seq)|(apply thenQ_n)|(apply OK_region)|(apply OKx_gi; refine OKx_idxO (i := k) rfl rfl (by omega) ?_)|(apply OKx_gl; refine OKx_ldI 0 rfl rfl (by omega) ?_; rw [hq])|(apply OKx_gi; refine OKx_idxRz rfl hsv rfl hnk.1 (by omega) ?_; rw [hx];intro _ _)|(apply OKx_nilK)|(apply OK_block)|(apply blockQ_n)|(apply blockQ_s)|(apply thenQ_e)|(apply blockQ_e;exact rfl)|(apply thenQ_r)|(apply blockQ_r)|(apply OK_condT;exact rfl)|(apply OK_condF;exact rfl)|(apply OK_skip)|(apply OK_exit)|(apply OK_ret)|(apply OKx_move;(conv=>lhs;whnf)<;>exact rfl)|(apply OKx_assign;(conv=>lhs;whnf)<;>exact rfl)|(apply OKx_ldB;exact rfl;(first | exact at0|exact at1|exact at2|exact at3|exact at4|exact at5|exact at6|exact at7);exact rfl)|(apply OKx_ldR;(conv=>lhs;whnf)<;>exact rfl;(with_reducible assumption))|(apply OKx_ldI;exact rfl;(first | exact at0|exact at1|exact at2|exact at3|exact at4|exact at5|exact at6|exact at7);omega)|(apply OKx_len;exact rfl)|(apply OKx_lenR;(conv=>lhs;whnf)<;>exact rfl;(with_reducible assumption))|(apply OKx_lenR2;(conv=>lhs;whnf)<;>exact rfl;(with_reducible assumption))|(apply OKx_lenO;(conv=>lhs;whnf)<;>exact rfl;(first | exact at0|exact at1|exact at2|exact at3|exact at4|exact at5|exact at6|exact at7))|(apply OKx_lss;exact rfl;exact rfl;all_goals (intro _; try (exfalso;omega)))|(apply OKx_neq;exact rfl;exact rfl;all_goals (intro _; try (exfalso;omega)))|(apply OKx_idxO;exact rfl;exact rfl;omega)|(apply OKx_idxR;(conv=>lhs;whnf)<;>exact rfl;(with_reducible assumption);exact rfl;omega;intro _ _)|(apply OKx_idxOz;exact rfl;exact rfl;omega;omega)|(apply OKx_idxRz;(conv=>lhs;whnf)<;>exact rfl;(with_reducible assumption);exact rfl;omega;omega;intro _ _)|(apply OKx_inc;exact rfl;exact rfl;omega)|(apply OKx_addN;exact rfl;exact rfl;omega)|(apply OKx_add;exact rfl;exact rfl;omega;omega)|(apply OKx_notT;exact rfl)|(apply OKx_notF;exact rfl)|(apply OKx_extract;exact rfl;(conv=>lhs;whnf)<;>exact rfl)|(apply OKx_boxA;exact rfl;intro _)|(apply OKx_ldBA;exact rfl;(first | exact at0|exact at1|exact at2|exact at3|exact at4|exact at5|exact at6|exact at7);exact rfl)|(apply OKx_ldRA;(conv=>lhs;whnf)<;>exact rfl;(with_reducible assumption))|(apply OKx_slit1;(conv=>lhs;whnf)<;>exact rfl;exact rfl;intro _))
        · rw [if_neg (by omega)] at hst1
          refine ⟨by (repeat' (first | refine agree_upd rfl ?_ | exact agree_over | exact agree_refl _ _ | refine agree_over2 rfl ?_)), m - 1, _, by omega, Ent.refl _ _, ?_⟩
          exact ⟨k + 1, 0, false, by omega, rfl, rfl, rfl, .inl ⟨rfl, rfl, hst1⟩, rfl⟩
        · rw [if_pos (by omega)] at hst1
          refine ⟨by (repeat' (first | refine agree_upd rfl ?_ | exact agree_over | exact agree_refl _ _ | refine agree_over2 rfl ?_)), m - 1, _, by omega, Ent.refl _ _, ?_⟩
          exact ⟨k + 1, x, true, by omega, rfl, rfl, rfl, .inr ⟨rfl, [], hst1, fun y hy => by simp at hy⟩, rfl⟩
      · rw [hr, List.cons_append] at hst1
        repeat' (first|(apply OK_seq)|(apply thenQ_n)|(apply OK_region)|(apply OKx_gi; refine OKx_idxO (i := k) rfl rfl (by omega) ?_)|(apply OKx_gl; refine OKx_ldI 0 rfl rfl (by omega) ?_; rw [hq])|(apply OKx_gi; refine OKx_idxRz rfl hsv rfl hnk.1 (by omega) ?_; rw [hx];intro _ _)|(apply OKx_nilK)|(apply OK_block)|(apply blockQ_n)|(apply blockQ_s)|(apply thenQ_e)|(apply blockQ_e;exact rfl)|(apply thenQ_r)|(apply blockQ_r)|(apply OK_condT;exact rfl)|(apply OK_condF;exact rfl)|(apply OK_skip)|(apply OK_exit)|(apply OK_ret)|(apply OKx_move;(conv=>lhs;whnf)<;>exact rfl)|(apply OKx_assign;(conv=>lhs;whnf)<;>exact rfl)|(apply OKx_ldB;exact rfl;(first | exact at0|exact at1|exact at2|exact at3|exact at4|exact at5|exact at6|exact at7);exact rfl)|(apply OKx_ldR;(conv=>lhs;whnf)<;>exact rfl;(with_reducible assumption))|(apply OKx_ldI;exact rfl;(first | exact at0|exact at1|exact at2|exact at3|exact at4|exact at5|exact at6|exact at7);omega)|(apply OKx_len;exact rfl)|(apply OKx_lenR;(conv=>lhs;whnf)<;>exact rfl;(with_reducible assumption))|(apply OKx_lenR2;(conv=>lhs;whnf)<;>exact rfl;(with_reducible assumption))|(apply OKx_lenO;(conv=>lhs;whnf)<;>exact rfl;(first | exact at0|exact at1|exact at2|exact at3|exact at4|exact at5|exact at6|exact at7))|(apply OKx_lss;exact rfl;exact rfl;all_goals (intro _; try (exfalso;omega)))|(apply OKx_neq;exact rfl;exact rfl;all_goals (intro _; try (exfalso;omega)))|(apply OKx_idxO;exact rfl;exact rfl;omega)|(apply OKx_idxR;(conv=>lhs;whnf)<;>exact rfl;(with_reducible assumption);exact rfl;omega;intro _ _)|(apply OKx_idxOz;exact rfl;exact rfl;omega;omega)|(apply OKx_idxRz;(conv=>lhs;whnf)<;>exact rfl;(with_reducible assumption);exact rfl;omega;omega;intro _ _)|(apply OKx_inc;exact rfl;exact rfl;omega)|(apply OKx_addN;exact rfl;exact rfl;omega)|(apply OKx_add;exact rfl;exact rfl;omega;omega)|(apply OKx_notT;exact rfl)|(apply OKx_notF;exact rfl)|(apply OKx_extract;exact rfl;(conv=>lhs;whnf)<;>exact rfl)|(apply OKx_boxA;exact rfl;intro _)|(apply OKx_ldBA;exact rfl;(first | exact at0|exact at1|exact at2|exact at3|exact at4|exact at5|exact at6|exact at7);exact rfl)|(apply OKx_ldRA;(conv=>lhs;whnf)<;>exact rfl;(with_reducible assumption))|(apply OKx_slit1;(conv=>lhs;whnf)<;>exact rfl;exact rfl;intro _))
        · rw [if_neg (by omega), List.append_nil] at hst1
          refine ⟨by (repeat' (first | refine agree_upd rfl ?_ | exact agree_over | exact agree_refl _ _ | refine agree_over2 rfl ?_)), m - 1, _, by omega, Ent.refl _ _, ?_⟩
          exact ⟨k + 1, state, true, by omega, rfl, rfl, rfl, .inr ⟨rfl, r, hst1, hall⟩, rfl⟩
        · rw [if_pos (by omega)] at hst1
          have hb := hbad (k + 1) state x (r ++ [x]) hst1 (by simp) (by assumption)
          refine bodyQ_r2 (by ((conv=>lhs;whnf)<;>exact rfl)) (by ((conv=>lhs;whnf)<;>exact rfl)) ?_
          exact ⟨_, Ent.nil, by rw [hb], rfl⟩
        · rw [if_pos (by omega)] at hst1
          refine ⟨by (repeat' (first | refine agree_upd rfl ?_ | exact agree_over | exact agree_refl _ _ | refine agree_over2 rfl ?_)), m - 1, _, by omega, Ent.refl _ _, ?_⟩
          refine ⟨k + 1, state, true, by omega, rfl, rfl, rfl, .inr ⟨rfl, _, hst1, fun y hy => ?_⟩, rfl⟩
          rcases List.mem_append.1 hy with hy | hy
          · exact hall y hy
          · rw [List.mem_singleton] at hy;omega
    · obtain rfl : k = (braL s i).length := by omega
      have hb := hres state is hinv
      repeat' (first|(apply OK_seq)|(apply thenQ_n)|(apply OK_region)|(apply OKx_nilK)|(apply OK_block)|(apply blockQ_n)|(apply blockQ_s)|(apply thenQ_e)|(apply blockQ_e;exact rfl)|(apply thenQ_r)|(apply blockQ_r)|(apply OK_condT;exact rfl)|(apply OK_condF;exact rfl)|(apply OK_skip)|(apply OK_exit)|(apply OK_ret)|(apply OKx_move;(conv=>lhs;whnf)<;>exact rfl)|(apply OKx_assign;(conv=>lhs;whnf)<;>exact rfl)|(apply OKx_ldB;exact rfl;(first | exact at0|exact at1|exact at2|exact at3|exact at4|exact at5|exact at6|exact at7);exact rfl)|(apply OKx_ldR;(conv=>lhs;whnf)<;>exact rfl;(with_reducible assumption))|(apply OKx_ldI;exact rfl;(first | exact at0|exact at1|exact at2|exact at3|exact at4|exact at5|exact at6|exact at7);omega)|(apply OKx_len;exact rfl)|(apply OKx_lenR;(conv=>lhs;whnf)<;>exact rfl;(with_reducible assumption))|(apply OKx_lenR2;(conv=>lhs;whnf)<;>exact rfl;(with_reducible assumption))|(apply OKx_lenO;(conv=>lhs;whnf)<;>exact rfl;(first | exact at0|exact at1|exact at2|exact at3|exact at4|exact at5|exact at6|exact at7))|(apply OKx_lss;exact rfl;exact rfl;all_goals (intro _; try (exfalso;omega)))|(apply OKx_neq;exact rfl;exact rfl;all_goals (intro _; try (exfalso;omega)))|(apply OKx_idxO;exact rfl;exact rfl;omega)|(apply OKx_idxR;(conv=>lhs;whnf)<;>exact rfl;(with_reducible assumption);exact rfl;omega;intro _ _)|(apply OKx_idxOz;exact rfl;exact rfl;omega;omega)|(apply OKx_idxRz;(conv=>lhs;whnf)<;>exact rfl;(with_reducible assumption);exact rfl;omega;omega;intro _ _)|(apply OKx_inc;exact rfl;exact rfl;omega)|(apply OKx_addN;exact rfl;exact rfl;omega)|(apply OKx_add;exact rfl;exact rfl;omega;omega)|(apply OKx_notT;exact rfl)|(apply OKx_notF;exact rfl)|(apply OKx_extract;exact rfl;(conv=>lhs;whnf)<;>exact rfl)|(apply OKx_boxA;exact rfl;intro _)|(apply OKx_ldBA;exact rfl;(first | exact at0|exact at1|exact at2|exact at3|exact at4|exact at5|exact at6|exact at7);exact rfl)|(apply OKx_ldRA;(conv=>lhs;whnf)<;>exact rfl;(with_reducible assumption))|(apply OKx_slit1;(conv=>lhs;whnf)<;>exact rfl;exact rfl;intro _))
      refine bodyQ_r2 (by ((conv=>lhs;whnf)<;>exact rfl)) (by ((conv=>lhs;whnf)<;>exact rfl)) ?_
      exact ⟨_, Ent.nil, by rw [hb], rfl⟩
end Go.Proofs.YtmclgfipdgmomaaGreat
