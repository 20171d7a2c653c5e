/-
  Part 14 of the proof: De39, Rdr. No statement of the seat is proved here.
-/
import Derived.Test.YtpfemholpigdeaaGreatDoorMHNo3613
import Derived.OrdersIn
namespace Go.Proofs.YtpfemholpigdeaaGreatDoor
open Go.RowKit
section
variable {P : Program} {n : Nat} {w0 : World} {K : Fm → List Res → Prop} {F : Fm} {L : List Res} {m : Md} {Lw : List Res} {ops : Array Oper} {rest : List Oper}
  {d : Option Nat} {ty : TypeId} {pos : String} {aft : Array Edge}
theorem OKx_app0 {s x : Operand} {t : TypeId} {e sz bytes : Nat} {z : Value} [T : TSlice P t e sz bytes z] (i : Nat) {a0 ay : Option Addr} {N c0 cy : Nat} {xs : List Value} (hs : rv n F s = .slice a0 N c0) (hx : rv n F x = .slice ay 0 cy) (hi : L[i]? = some (.row e sz (.slice a0 N c0) N xs))
    (kk : OKx P n w0 m ops K rest (updo F d (.slice a0 N c0)) L) : OKx P n w0 m ops K (⟨d, .call { callee := .builtin .append, args := #[s, x], argTypes := #[t, t] }, ty, pos, aft, none⟩ :: rest) F L :=
  OKx_still (fun w hp _ _ _ _ => by
    obtain ⟨i0, hi0, hz0, hz1, hz2⟩ := info_parts T.ty.inf
    have ho : w.ownsRow w0.heap.size e sz (.slice a0 N c0) N xs := hp.ok _ (List.mem_of_getElem? hi)
    have hle : N ≤ c0 := by
      rcases ho.2 with ⟨h0, h2⟩ | ⟨g, cap, cur, h0, _, _, h4, _⟩
      · omega
      · simp only [Value.slice.injEq] at h0
        omega
    cases a0 <;> cases ay <;> simp [execOp, resolve, invoke, builtin, hs, hx, Builtin.append_, run_underlying T.ty.und, sizeOf, typeInfo, hi0, Builtin.lenOf, Builtin.firstCells, hle, storeCells, Result.andThen, loadCells, loadCellsFrom]) kk
theorem OKx_allocE {e sz : Nat} {zs : List Value} [T : TAgg P e sz zs] [hE : Keeps w0 L Lw] (xs : List Value) (hx : zs = xs) (kk : ∀ g, OKx P n w0 (.seq Lw) ops K rest (updo F d (.pointer (some ⟨g, 0, none⟩))) (.box e g xs :: L)) :
    OKx P n w0 (.seq Lw) ops K (⟨d, .alloc e, ty, pos, aft, none⟩ :: rest) F L := by
  subst hx
  exact OKx_allocA kk
theorem OKx_stBg {t : TypeId} {z : Value} [T : TOne P t z] {x y : Operand} {g k : Nat} {v : Value} [hE : Keeps w0 L Lw] (i : Nat) {e : TypeId} {cs cs' : List Value} {L' : List Res} (hx : rv n F x = .pointer (some ⟨g, k, none⟩)) (hy : rv n F y = v) (h1 : v.oneCell' = true) (hv : v.cells = #[v]) (hi : L[i]? = some (.box e g cs)) (hk : k < cs.length)
    (hs : cs.set k v = cs') (hL : L.set i (.box e g cs') = L') (kk : OKx P n w0 (.seq Lw) ops K rest (updo F d undef) L') : OKx P n w0 (.seq Lw) ops K (⟨d, .store t x y, ty, pos, aft, none⟩ :: rest) F L := by
  subst hs; subst hL
  refine OKx_act0 hE.ent fun w hp => ⟨_, _, ?_, hp.setBox hi k v, kk⟩
  obtain ⟨hc, hf, _, _⟩ := hp.boxAt i hi
  exact run_store1 T hx hy h1 hv ((hc k).trans (List.getElem?_eq_getElem hk)) (hf k) _ _ _ _
end
def frmC (f : Nat → Bool) : List Value := (List.range 64).map fun j => Value.bool (f j)
theorem frmC_len (f : Nat → Bool) : (frmC f).length = 64 := by simp [frmC]
theorem frmC_at (f : Nat → Bool) (j : Nat) (h : j < 64) : (frmC f)[j]? = some (.bool (f j)) := by simp [frmC, h]
theorem frmC_set (f f' : Nat → Bool) (k : Nat) (b : Bool) (h : ∀ j, j < 64 → f' j = if j = k then b else f j) : (frmC f).set k (.bool b) = frmC f' := by
  apply List.ext_getElem
  · simp [frmC]
  · intro j h1 h2
    have hj : j < 64 := by simpa [frmC] using h2
    rw [List.getElem_set]
    simp only [frmC, List.getElem_map, List.getElem_range, h j hj]
    by_cases e : k = j
    · rw [if_pos e, if_pos e.symm]
    · rw [if_neg e, if_neg (fun e2 => e e2.symm)]
def dscL (par : List (List Int)) (i : Nat) : Nat → List Bool
  | 0 => []
  | k + 1 => dscL par i k ++ [if k < i then false else if k = i then true else (par.getD k []).any fun p => (dscL par i k).getD p.toNat false]
theorem dscL_len (par : List (List Int)) (i : Nat) : ∀ k, (dscL par i k).length = k
  | 0 => rfl
  | k + 1 => by rw [dscL, List.length_append, dscL_len par i k]; rfl
theorem dscL_old (par : List (List Int)) (i j : Nat) : ∀ k, j < k → (dscL par i (k + 1)).getD j false = (dscL par i k).getD j false := fun k h => by
  rw [dscL, List.getD_eq_getElem?_getD, List.getElem?_append_left (by rw [dscL_len]; exact h), List.getD_eq_getElem?_getD]
theorem dscL_new (par : List (List Int)) (i k : Nat) : (dscL par i (k + 1)).getD k false = if k < i then false else if k = i then true else (par.getD k []).any fun p => (dscL par i k).getD p.toNat false := by
  rw [dscL, List.getD_eq_getElem?_getD, List.getElem?_append_right (by rw [dscL_len]; exact Nat.le_refl _), dscL_len, Nat.sub_self]
  rfl
theorem dscL_low (par : List (List Int)) (i j : Nat) (hj : j < i) : ∀ k, (dscL par i k).getD j false = false
  | 0 => rfl
  | k + 1 => by
    by_cases h : j < k
    · rw [dscL_old par i j k h]; exact dscL_low par i j hj k
    · by_cases h2 : j = k
      · subst h2; rw [dscL_new, if_pos hj]
      · exact getD_ge _ _ _ (by rw [dscL_len];omega)
def dscF (par : List (List Int)) (i k j : Nat) : Bool := (dscL par i k).getD j false
def dsnL (par : List (List Int)) (i k : Nat) : List Int := ((List.range k).filter (fun j => decide (i < j) && dscF par i k j)).map (fun j : Nat => (j : Int))
theorem dsnL_step (par : List (List Int)) (i k : Nat) : dsnL par i (k + 1) = dsnL par i k ++ if i < k ∧ dscF par i (k + 1) k = true then [(k : Int)] else [] := by
  unfold dsnL
  rw [List.range_succ, List.filter_append, List.map_append]
  congr 1
  · congr 1
    apply List.filter_congr
    intro j hj
    have hj := List.mem_range.1 hj
    unfold dscF
    rw [dscL_old par i j k hj]
  · by_cases h : i < k ∧ dscF par i (k + 1) k = true
    · rw [if_pos h, List.filter_cons_of_pos (by simp [h.1, h.2])]; rfl
    · rw [if_neg h, List.filter_cons_of_neg (by simpa using h)]; rfl
theorem dsnL_start (par : List (List Int)) (i : Nat) : dsnL par i (i + 1) = [] := by
  unfold dsnL
  rw [List.filter_eq_nil_iff.2]
  · rfl
  · intro j hj
    have := List.mem_range.1 hj
    rw [decide_eq_false (by omega)]; simp
theorem dsnL_len (par : List (List Int)) (i k : Nat) : (dsnL par i k).length ≤ k := by
  unfold dsnL
  rw [List.length_map]
  exact Nat.le_trans (List.length_filter_le _ _) (by simp)
theorem anyN_any39 (xs : List Int) (P : Int → Bool) : anyN (fun j => P (xs.getD j 0)) xs.length = xs.any P := by
  cases h : xs.any P with
  | true =>
    obtain ⟨x, hx, hp⟩ := List.any_eq_true.1 h
    obtain ⟨j, hj, rfl⟩ := List.getElem_of_mem hx
    exact anyN_hit hj (by rw [getD_lt _ _ _ hj]; exact hp)
  | false =>
    rw [List.any_eq_false] at h
    exact anyN_none fun j hj => by
      have := h _ (List.getElem_mem hj)
      rw [getD_lt _ _ _ hj]
      simpa using this
set_option maxRecDepth 100000 in
set_option maxHeartbeats 4000000 in
theorem dsc1_sat (g : Nat) (f : Nat → Bool) (p : Int) (w : World) (h : ∀ j, j < 64 → w.cell? ⟨g, j, none⟩ = some (.bool (f j))) (h0 : 0 ≤ p) (h1 : p.toNat < 64) : SatV Tryz.prog 42 [.int .i64 p, .pointer (some ⟨g, 0, none⟩)] w (.bool (f p.toNat)) := by
  have hc := h p.toNat h1
  refine SatL.of 7 [3] Tryz.func42 (by kernel_rfl) (by kernel_rfl) rfl rfl rfl rfl ?_
  repeat' (first|(apply OK_seq)|(apply thenQ_n)|(apply OK_region)|(apply OKx_gi; refine OKx_idxAz Tryz.underlying62 rfl rfl h0 (by omega) ?_)|(apply OKx_gl; refine OKx_ldR rfl ⟨_, _, rfl, by rw [Nat.zero_add]; exact hc⟩ ?_)|(apply OKx_nilK)|(apply OK_block)|(apply blockQ_n)|(apply blockQ_s)|(apply thenQ_e)|(apply blockQ_e;exact rfl)|(apply thenQ_r)|(apply blockQ_r)|(apply OK_condT;exact rfl)|(apply OK_condF;exact rfl)|(apply OK_skip)|(apply OK_exit)|(apply OK_ret)|(apply OKx_move;(conv=>lhs;whnf)<;>exact rfl)|(apply OKx_assign;(conv=>lhs;whnf)<;>exact rfl)|(apply OKx_ldB;exact rfl;(first | exact at0|exact at1|exact at2|exact at3|exact at4|exact at5|exact at6|exact at7);exact rfl)|(apply OKx_ldR;(conv=>lhs;whnf)<;>exact rfl;(with_reducible assumption))|(apply OKx_idxR2;(conv=>lhs;whnf)<;>exact rfl;(with_reducible assumption);exact rfl;omega;intro _ _)|(apply OKx_ldBo;exact rfl;(first | exact at0|exact at1|exact at2|exact at3|exact at4|exact at5|exact at6|exact at7);omega))
  refine bodyQ_r1 (by ((conv=>lhs;whnf)<;>exact rfl)) ?_
  exact ⟨_, Ent.nil, rfl, rfl⟩
def DscR (s : Stem) (i : Int) (u : Value) (L : List Res) : Prop :=
  (chkI s i ≠ 0 ∧ u = .tuple #[.slice none 0 0, .int .i64 (chkI s i)] ∧ L = []) ∨
  (chkI s i = 0 ∧ ∃ a n c, n = (dsnL s.par i.toNat s.par.length).length ∧ u = .tuple #[.slice a n c, .int .i64 0] ∧ (0 < n → ∃ g, a = some ⟨g, 0, none⟩) ∧ L = [.row 3 1 (.slice a n c) n (ints (dsnL s.par i.toNat s.par.length))])
set_option maxRecDepth 100000 in
set_option maxHeartbeats 4000000 in
theorem Desc_sat (v : Value) (s : Stem) (i : Int) (w : World) (h : Stm w v s) : Sat Tryz.prog 13 [v, .int .i64 i] w (DscR s i) := by
  have hst := h
  obtain ⟨nv, ev, pv, rfl, hS, _, hP⟩ := h
  obtain ⟨fv, hpv, hrow⟩ := hP.rows
  have hnv := hS.sl
  have hpb := hpv.bound
  by_cases hc : chkI s i = 0
  rotate_left
  · refine SatL.of 44 [4, 5] Tryz.func13 (by kernel_rfl) (by kernel_rfl) rfl rfl rfl rfl ?_
    repeat' (first|(apply OK_seq)|(apply thenQ_n)|(apply OK_region)|(apply OKx_gc 40;exact rfl; refine OKx_callV (f := 40) rfl rfl rfl (fun w1 hp => chk36_sat _ s i w1 (hst.below hp.below)) ?_)|(apply OKx_nilK)|(apply OK_block)|(apply blockQ_n)|(apply blockQ_s)|(apply thenQ_e)|(apply blockQ_e;exact rfl)|(apply thenQ_r)|(apply blockQ_r)|(apply OK_condT;exact rfl)|(apply OK_condF;exact rfl)|(apply OK_skip)|(apply OK_exit)|(apply OK_ret)|(apply OKx_move;(conv=>lhs;whnf)<;>exact rfl)|(apply OKx_assign;(conv=>lhs;whnf)<;>exact rfl)|(apply OKx_ldB;exact rfl;(first | exact at0|exact at1|exact at2|exact at3|exact at4|exact at5|exact at6|exact at7);exact rfl)|(apply OKx_ldR;(conv=>lhs;whnf)<;>exact rfl;(with_reducible assumption))|(apply OKx_len;exact rfl)|(apply OKx_lenR;(conv=>lhs;whnf)<;>exact rfl;(with_reducible assumption))|(apply OKx_lenR2;(conv=>lhs;whnf)<;>exact rfl;(with_reducible assumption))|(apply OKx_lenO;(conv=>lhs;whnf)<;>exact rfl;(first | exact at0|exact at1|exact at2|exact at3|exact at4|exact at5|exact at6|exact at7))|(apply OKx_lss;exact rfl;exact rfl;all_goals (intro _; try (exfalso;omega)))|(apply OKx_neq;exact rfl;exact rfl;all_goals (intro _; try (exfalso;omega)))|(apply OKx_idxO;exact rfl;exact rfl;omega)|(apply OKx_idxR;(conv=>lhs;whnf)<;>exact rfl;(with_reducible assumption);exact rfl;omega;intro _ _)|(apply OKx_idxR2;(conv=>lhs;whnf)<;>exact rfl;(with_reducible assumption);exact rfl;omega;intro _ _)|(apply OKx_idxOz;exact rfl;exact rfl;omega;omega)|(apply OKx_idxRz;(conv=>lhs;whnf)<;>exact rfl;(with_reducible assumption);exact rfl;omega;omega;intro _ _)|(apply OKx_fldO;exact rfl;exact rfl)|(apply OKx_fldR;(conv=>lhs;whnf)<;>exact rfl;(with_reducible assumption); decide;intro _ _)|(apply OKx_inc;exact rfl;exact rfl;omega)|(apply OKx_addN;exact rfl;exact rfl;omega)|(apply OKx_add;exact rfl;exact rfl;omega;omega)|(apply OKx_boxA;exact rfl;intro _)|(apply OKx_allocA;intro _)|(apply OKx_ldBA;exact rfl;(first | exact at0|exact at1|exact at2|exact at3|exact at4|exact at5|exact at6|exact at7);exact rfl)|(apply OKx_ldRA;(conv=>lhs;whnf)<;>exact rfl;(with_reducible assumption))|(apply OKx_stB;exact rfl;(conv=>lhs;whnf)<;>exact rfl;exact rfl;exact rfl;(first | exact at0|exact at1|exact at2|exact at3|exact at4|exact at5|exact at6|exact at7);exact rfl;exact rfl;exact rfl)|(apply OKx_ldBo;exact rfl;(first | exact at0|exact at1|exact at2|exact at3|exact at4|exact at5|exact at6|exact at7);omega)|(apply OKx_stBo;exact rfl;exact rfl;(first | exact at0|exact at1|exact at2|exact at3|exact at4|exact at5|exact at6|exact at7);omega;exact rfl)|(apply OKx_slit1;(conv=>lhs;whnf)<;>exact rfl;exact rfl;intro _)|(apply OKx_func;exact rfl;exact rfl))
    refine bodyQ_r2 (by ((conv=>lhs;whnf)<;>exact rfl)) (by ((conv=>lhs;whnf)<;>exact rfl)) ?_
    exact ⟨_, Ent.nil, .inl ⟨hc, rfl, rfl⟩⟩
  obtain ⟨h0, h1, h2⟩ := chkI_zero hc
  obtain ⟨_, hn64, _, hpl, _⟩ := stCheck_len s h0
  have hok := stCheck_okPar s h0
  obtain ⟨j, rfl⟩ := Int.eq_ofNat_of_zero_le h1
  unfold DscR
  rw [Int.toNat_natCast]
  have hset0 := frmC_set (fun _ => false) (dscF s.par j (j + 1)) j true (fun q hq => by
    unfold dscF
    by_cases e : q = j
    · subst e; rw [if_pos rfl, dscL_new, if_neg (by omega), if_pos rfl]
    · rw [if_neg e]
      by_cases e2 : q < j
      · exact dscL_low s.par j q e2 _
      · exact getD_ge _ _ _ (by rw [dscL_len];omega))
  have hfl := fun f => frmC_len f
  refine SatL.of 44 [4, 5] Tryz.func13 (by kernel_rfl) (by kernel_rfl) rfl rfl rfl rfl ?_
  repeat' (first|(apply OK_seq)|(apply thenQ_n)|(apply OK_region)|(apply OKx_gc 40;exact rfl; refine OKx_callV (f := 40) (v := .int .i64 0) rfl rfl rfl (fun w1 hp => by rw [← hc]; exact chk36_sat _ s j w1 (hst.below hp.below)) ?_)|(refine OKx_allocE (frmC fun _ => false) (by rfl) ?_; intro g7)|(apply OKx_gi; refine OKx_idxA Tryz.underlying62 rfl rfl (by omega) ?_; rw [Nat.zero_add])|(apply OKx_gs; refine OKx_stBg 0 rfl rfl rfl rfl rfl (by rw [hfl];omega) hset0 rfl ?_)|(apply OKx_nilK)|(apply OK_block)|(apply blockQ_n)|(apply blockQ_s)|(apply thenQ_e)|(apply blockQ_e;exact rfl)|(apply thenQ_r)|(apply blockQ_r)|(apply OK_condT;exact rfl)|(apply OK_condF;exact rfl)|(apply OK_skip)|(apply OK_exit)|(apply OK_ret)|(apply OKx_move;(conv=>lhs;whnf)<;>exact rfl)|(apply OKx_assign;(conv=>lhs;whnf)<;>exact rfl)|(apply OKx_ldB;exact rfl;(first | exact at0|exact at1|exact at2|exact at3|exact at4|exact at5|exact at6|exact at7);exact rfl)|(apply OKx_ldR;(conv=>lhs;whnf)<;>exact rfl;(with_reducible assumption))|(apply OKx_len;exact rfl)|(apply OKx_lenR;(conv=>lhs;whnf)<;>exact rfl;(with_reducible assumption))|(apply OKx_lenR2;(conv=>lhs;whnf)<;>exact rfl;(with_reducible assumption))|(apply OKx_lenO;(conv=>lhs;whnf)<;>exact rfl;(first | exact at0|exact at1|exact at2|exact at3|exact at4|exact at5|exact at6|exact at7))|(apply OKx_lss;exact rfl;exact rfl;all_goals (intro _; try (exfalso;omega)))|(apply OKx_neq;exact rfl;exact rfl;all_goals (intro _; try (exfalso;omega)))|(apply OKx_idxO;exact rfl;exact rfl;omega)|(apply OKx_idxR;(conv=>lhs;whnf)<;>exact rfl;(with_reducible assumption);exact rfl;omega;intro _ _)|(apply OKx_idxR2;(conv=>lhs;whnf)<;>exact rfl;(with_reducible assumption);exact rfl;omega;intro _ _)|(apply OKx_idxOz;exact rfl;exact rfl;omega;omega)|(apply OKx_idxRz;(conv=>lhs;whnf)<;>exact rfl;(with_reducible assumption);exact rfl;omega;omega;intro _ _)|(apply OKx_fldO;exact rfl;exact rfl)|(apply OKx_fldR;(conv=>lhs;whnf)<;>exact rfl;(with_reducible assumption); decide;intro _ _)|(apply OKx_inc;exact rfl;exact rfl;omega)|(apply OKx_addN;exact rfl;exact rfl;omega)|(apply OKx_add;exact rfl;exact rfl;omega;omega)|(apply OKx_boxA;exact rfl;intro _)|(apply OKx_allocA;intro _)|(apply OKx_ldBA;exact rfl;(first | exact at0|exact at1|exact at2|exact at3|exact at4|exact at5|exact at6|exact at7);exact rfl)|(apply OKx_ldRA;(conv=>lhs;whnf)<;>exact rfl;(with_reducible assumption))|(apply OKx_stB;exact rfl;(conv=>lhs;whnf)<;>exact rfl;exact rfl;exact rfl;(first | exact at0|exact at1|exact at2|exact at3|exact at4|exact at5|exact at6|exact at7);exact rfl;exact rfl;exact rfl)|(apply OKx_ldBo;exact rfl;(first | exact at0|exact at1|exact at2|exact at3|exact at4|exact at5|exact at6|exact at7);omega)|(apply OKx_stBo;exact rfl;exact rfl;(first | exact at0|exact at1|exact at2|exact at3|exact at4|exact at5|exact at6|exact at7);omega;exact rfl)|(apply OKx_slit1;(conv=>lhs;whnf)<;>exact rfl;exact rfl;intro _)|(apply OKx_func;exact rfl;exact rfl))
  rename_i g2 _
  refine OK_loop2 8 9 [8, 9, 20, 21, 22, 23, 24, 25, 26, 27, 28, 29, 30, 31, 32, 33, 34, 35, 36, 37, 38, 39, 40, 41, 42] (fun m u v L => ∃ (k n : Nat) (a : Option Addr) (c : Nat), k + m = s.par.length ∧ j < k ∧ n = (dsnL s.par j k).length ∧ u = .slice a n c ∧ (0 < n → ∃ g, a = some ⟨g, 0, none⟩) ∧ v = .int .i64 (k : Int) ∧
    L = [.row 3 1 (.slice a n c) n (ints (dsnL s.par j k)), .box 62 g7 (frmC (dscF s.par j k)), .box 26 g2 [nv, ev, pv]]) (s.par.length - (j + 1)) _ (Ent.mk fun w1 hp => hp.nil 3 1) ⟨j + 1, 0, none, 0, by omega, by omega, by rw [dsnL_start]; rfl, rfl, fun h => absurd h (by omega), rfl, by rw [dsnL_start]; rfl⟩ ?_
  rintro m u v L G ⟨k, n, a, c, hm, hjk, hn, rfl, ha, rfl, rfl⟩
  by_cases hk : k < s.par.length
  rotate_left
  · obtain rfl : k = s.par.length := by omega
    repeat' (first|(apply OK_seq)|(apply thenQ_n)|(apply OK_region)|(apply OKx_nilK)|(apply OK_block)|(apply blockQ_n)|(apply blockQ_s)|(apply thenQ_e)|(apply blockQ_e;exact rfl)|(apply thenQ_r)|(apply blockQ_r)|(apply OK_condT;exact rfl)|(apply OK_condF;exact rfl)|(apply OK_skip)|(apply OK_exit)|(apply OK_ret)|(apply OKx_move;(conv=>lhs;whnf)<;>exact rfl)|(apply OKx_assign;(conv=>lhs;whnf)<;>exact rfl)|(apply OKx_ldB;exact rfl;(first | exact at0|exact at1|exact at2|exact at3|exact at4|exact at5|exact at6|exact at7);exact rfl)|(apply OKx_ldR;(conv=>lhs;whnf)<;>exact rfl;(with_reducible assumption))|(apply OKx_len;exact rfl)|(apply OKx_lenR;(conv=>lhs;whnf)<;>exact rfl;(with_reducible assumption))|(apply OKx_lenR2;(conv=>lhs;whnf)<;>exact rfl;(with_reducible assumption))|(apply OKx_lenO;(conv=>lhs;whnf)<;>exact rfl;(first | exact at0|exact at1|exact at2|exact at3|exact at4|exact at5|exact at6|exact at7))|(apply OKx_lss;exact rfl;exact rfl;all_goals (intro _; try (exfalso;omega)))|(apply OKx_neq;exact rfl;exact rfl;all_goals (intro _; try (exfalso;omega)))|(apply OKx_idxO;exact rfl;exact rfl;omega)|(apply OKx_idxR;(conv=>lhs;whnf)<;>exact rfl;(with_reducible assumption);exact rfl;omega;intro _ _)|(apply OKx_idxR2;(conv=>lhs;whnf)<;>exact rfl;(with_reducible assumption);exact rfl;omega;intro _ _)|(apply OKx_idxOz;exact rfl;exact rfl;omega;omega)|(apply OKx_idxRz;(conv=>lhs;whnf)<;>exact rfl;(with_reducible assumption);exact rfl;omega;omega;intro _ _)|(apply OKx_fldO;exact rfl;exact rfl)|(apply OKx_fldR;(conv=>lhs;whnf)<;>exact rfl;(with_reducible assumption); decide;intro _ _)|(apply OKx_inc;exact rfl;exact rfl;omega)|(apply OKx_addN;exact rfl;exact rfl;omega)|(apply OKx_add;exact rfl;exact rfl;omega;omega)|(apply OKx_boxA;exact rfl;intro _)|(apply OKx_allocA;intro _)|(apply OKx_ldBA;exact rfl;(first | exact at0|exact at1|exact at2|exact at3|exact at4|exact at5|exact at6|exact at7);exact rfl)|(apply OKx_ldRA;(conv=>lhs;whnf)<;>exact rfl;(with_reducible assumption))|(apply OKx_stB;exact rfl;(conv=>lhs;whnf)<;>exact rfl;exact rfl;exact rfl;(first | exact at0|exact at1|exact at2|exact at3|exact at4|exact at5|exact at6|exact at7);exact rfl;exact rfl;exact rfl)|(apply OKx_ldBo;exact rfl;(first | exact at0|exact at1|exact at2|exact at3|exact at4|exact at5|exact at6|exact at7);omega)|(apply OKx_stBo;exact rfl;exact rfl;(first | exact at0|exact at1|exact at2|exact at3|exact at4|exact at5|exact at6|exact at7);omega;exact rfl)|(apply OKx_slit1;(conv=>lhs;whnf)<;>exact rfl;exact rfl;intro _)|(apply OKx_func;exact rfl;exact rfl))
    refine bodyQ_r2 (by ((conv=>lhs;whnf)<;>exact rfl)) (by ((conv=>lhs;whnf)<;>exact rfl)) ?_
    exact ⟨_, Ent.pick [0] rfl, .inr ⟨hc, a, n, c, hn, rfl, ha, rfl⟩⟩
  have hr : ∀ q, q < (s.par.getD k []).length → 0 ≤ (s.par.getD k []).getD q 0 ∧ (s.par.getD k []).getD q 0 < k := fun q hq => by
    have hg : s.par.getD k [] = s.par[k] := getD_lt _ _ _ hk
    exact hok k hk _ (by rw [getD_lt _ _ _ hq]; exact hg ▸ List.getElem_mem hq)
  have hs := dsnL_step s.par j k
  have hle := dsnL_len s.par j k
  have hnew : dscF s.par j (k + 1) k = (s.par.getD k []).any fun p => dscF s.par j k p.toNat := by
    unfold dscF
    rw [dscL_new, if_neg (by omega), if_neg (by omega)]
  have hset := frmC_set (dscF s.par j k) (dscF s.par j (k + 1)) k (dscF s.par j (k + 1) k) (fun q hq => by
    by_cases e : q = k
    · subst e; rw [if_pos rfl]
    · rw [if_neg e]
      unfold dscF
      by_cases e2 : q < k
      · exact dscL_old s.par j q k e2
      · rw [getD_ge _ _ _ (by rw [dscL_len];omega), getD_ge _ _ _ (by rw [dscL_len];omega)])
  have hxi := (hrow k).sl
  have hget := frmC_at (dscF s.par j (k + 1)) k (by omega)
  generalize hys : dsnL s.par j k = ys at *
  generalize hxs : s.par.getD k [] = xs at *
  generalize hbb : dscF s.par j (k + 1) k = b at *
  have hcall : ∀ (w1 : World) (L : List Res) (f : Nat → Bool), f = dscF s.par j k → Hp w.heap.size w w1 L → L[1]? = some (.box 62 g7 (frmC f)) → SatV Tryz.prog 41 [fv k, .func (.func 42) #[] #[.pointer (some ⟨g7, 0, none⟩)]] w1 (.bool b) := fun w1 L f hf hp hL => by
    rw [hnew, ← anyN_any39 xs, ← hf]
    exact containsF_int_sat _ _ _ (fun q => f (xs.getD q 0).toNat) _ _ w1 (hxi.below hp.below) (fun q hq w2 hb2 => dsc1_sat g7 f _ w2 (fun y hy => by
      have h3 := (hp.boxAt 1 hL).1 y
      rw [frmC_at f y hy] at h3
      exact (hb2.cell (World.block_lt_of_cell? w1 _ h3)).trans h3) (hr q hq).1 (by have := hr q hq;omega))
  repeat' (first|(apply OK_seq)|(apply thenQ_n)|(apply OK_region)|(apply OKx_gc 41;exact rfl; refine OKx_callV (f := 41) rfl rfl rfl (fun w1 hp => hcall w1 _ _ rfl hp rfl) ?_)|(apply OKx_gi; refine OKx_idxA Tryz.underlying62 rfl rfl (by omega) ?_; rw [Nat.zero_add])|(apply OKx_gs; refine OKx_stBg 1 rfl rfl rfl rfl rfl (by rw [hfl];omega) hset rfl ?_)|(apply OKx_gl; refine OKx_ldB 1 rfl rfl hget ?_; cases hb2 : b)|(apply OKx_gb; refine OKx_appI 1 0 rfl rfl rfl rfl (by omega) (by omega) ?_; intro g5 c5)|(apply OKx_nilK)|(apply OK_block)|(apply blockQ_n)|(apply blockQ_s)|(apply thenQ_e)|(apply blockQ_e;exact rfl)|(apply thenQ_r)|(apply blockQ_r)|(apply OK_condT;exact rfl)|(apply OK_condF;exact rfl)|(apply OK_skip)|(apply OK_exit)|(apply OK_ret)|(apply OKx_move;(conv=>lhs;whnf)<;>exact rfl)|(apply OKx_assign;(conv=>lhs;whnf)<;>exact rfl)|(apply OKx_ldB;exact rfl;(first | exact at0|exact at1|exact at2|exact at3|exact at4|exact at5|exact at6|exact at7);exact rfl)|(apply OKx_ldR;(conv=>lhs;whnf)<;>exact rfl;(with_reducible assumption))|(apply OKx_len;exact rfl)|(apply OKx_lenR;(conv=>lhs;whnf)<;>exact rfl;(with_reducible assumption))|(apply OKx_lenR2;(conv=>lhs;whnf)<;>exact rfl;(with_reducible assumption))|(apply OKx_lenO;(conv=>lhs;whnf)<;>exact rfl;(first | exact at0|exact at1|exact at2|exact at3|exact at4|exact at5|exact at6|exact at7))|(apply OKx_lss;exact rfl;exact rfl;all_goals (intro _; try (exfalso;omega)))|(apply OKx_neq;exact rfl;exact rfl;all_goals (intro _; try (exfalso;omega)))|(apply OKx_idxO;exact rfl;exact rfl;omega)|(apply OKx_idxR;(conv=>lhs;whnf)<;>exact rfl;(with_reducible assumption);exact rfl;omega;intro _ _)|(apply OKx_idxR2;(conv=>lhs;whnf)<;>exact rfl;(with_reducible assumption);exact rfl;omega;intro _ _)|(apply OKx_idxOz;exact rfl;exact rfl;omega;omega)|(apply OKx_idxRz;(conv=>lhs;whnf)<;>exact rfl;(with_reducible assumption);exact rfl;omega;omega;intro _ _)|(apply OKx_fldO;exact rfl;exact rfl)|(apply OKx_fldR;(conv=>lhs;whnf)<;>exact rfl;(with_reducible assumption); decide;intro _ _)|(apply OKx_inc;exact rfl;exact rfl;omega)|(apply OKx_addN;exact rfl;exact rfl;omega)|(apply OKx_add;exact rfl;exact rfl;omega;omega)|(apply OKx_boxA;exact rfl;intro _)|(apply OKx_allocA;intro _)|(apply OKx_ldBA;exact rfl;(first | exact at0|exact at1|exact at2|exact at3|exact at4|exact at5|exact at6|exact at7);exact rfl)|(apply OKx_ldRA;(conv=>lhs;whnf)<;>exact rfl;(with_reducible assumption))|(apply OKx_stB;exact rfl;(conv=>lhs;whnf)<;>exact rfl;exact rfl;exact rfl;(first | exact at0|exact at1|exact at2|exact at3|exact at4|exact at5|exact at6|exact at7);exact rfl;exact rfl;exact rfl)|(apply OKx_ldBo;exact rfl;(first | exact at0|exact at1|exact at2|exact at3|exact at4|exact at5|exact at6|exact at7);omega)|(apply OKx_stBo;exact rfl;exact rfl;(first | exact at0|exact at1|exact at2|exact at3|exact at4|exact at5|exact at6|exact at7);omega;exact rfl)|(apply OKx_slit1;(conv=>lhs;whnf)<;>exact rfl;exact rfl;intro _)|(apply OKx_func;exact rfl;exact rfl))
  · rw [if_neg (by rw [hb2]; simp), List.append_nil] at hs
    refine ⟨by (repeat' (first | refine agree_upd rfl ?_ | exact agree_over | exact agree_refl _ _ | refine agree_over2 rfl ?_)), m - 1, _, by omega, Ent.refl _ _, ?_⟩
    exact ⟨k + 1, n, a, c, by omega, by omega, by rw [hs]; exact hn, rfl, ha, rfl, by rw [hs]; rfl⟩
  · rw [if_pos ⟨hjk, hb2⟩] at hs
    refine ⟨by (repeat' (first | refine agree_upd rfl ?_ | exact agree_over | exact agree_refl _ _ | refine agree_over2 rfl ?_)), m - 1, _, by omega, Ent.pick [1, 2, 3] rfl, ?_⟩
    exact ⟨k + 1, n + 1, _, c5, by omega, by omega, by rw [hs, List.length_append, hn]; rfl, rfl, fun _ => ⟨_, rfl⟩, rfl, by rw [hs]; rfl⟩
end Go.Proofs.YtpfemholpigdeaaGreatDoor
namespace Go.Proofs.YtpfemholpigdeaaGreatDoor
open Go.RowKit
section
variable {P : Program} {ops : Array Oper}
theorem any_in {ro : Option Nat} {Q Q' : Exit → Act → World → Prop} (hp : ∀ c a w, ¬ Q (.panic c) a w) (ho : ¬ LetsOut Q) (hn : ∀ (i : Nat) (o : Oper), ops[i]? = some o → noDef o = true) (hq : ∀ a w, Q .normal a w → Q' .normal a w) :
    ∀ (fuel : Nat) (listed : Array Bool) (a : Act) (w : World), wpAny P .any ops Q fuel listed a w → wpAnyIn (fen ro) 0 P .any ops Q' fuel listed a w
  | 0, _, _, _, h => ⟨h.1, hq _ _ h.2⟩
  | fuel + 1, listed, a, w, h => by
    refine ⟨fun h0 => hq _ _ (h.1 h0), fun i hi => ?_⟩
    have h1 := h.2 i hi
    unfold wpOp at h1
    unfold wpOpIn
    cases ho2 : ops[i]? with
    | none => rw [ho2] at h1; exact any_in hp ho hn hq fuel _ _ _ h1
    | some o =>
      rw [ho2] at h1
      dsimp only at h1 ⊢
      split
      · rename_i hw
        rw [if_pos hw] at h1
        rcases h1 with h1 | h1
        · exact oper_in (hn i o ho2) hp ho (Oper.wp_mono (fun a w h => any_in hp ho hn hq fuel _ _ _ h) h1)
        · exact absurd h1.2 ho
      · rename_i hw
        rw [if_neg hw] at h1
        exact ⟨fun f _ => fen_fn ro f, any_in hp ho hn hq fuel _ _ _ h1⟩
end
section
variable {P : Program} {ops : Array Oper} {Q : Exit → Act → World → Prop}
theorem wpAny_mix {a : Act} {w : World} {C Cw : World → Prop} (A B A' T : List Nat) (la lb la' lt : List Oper) (hB : mixB ops A B A' T = true)
    (h1 : A.map (fun t => ops[t]?) = la.map some) (h2 : B.map (fun t => ops[t]?) = lb.map some) (h3 : A'.map (fun t => ops[t]?) = la'.map some) (h4 : T.map (fun t => ops[t]?) = lt.map some)
    (hQ : ∀ c a w, ¬ Q (.panic c) a w) (hc : C w.drew) (hcw : Cw w.drew)
    (h : wpPure P ops Cw (fun a1 => wpPure P ops C (fun a2 => wpPure P ops Cw (fun a3 => wpListC P ops Cw Q lt a3 w.drew) la' a2) lb a1) la a) : wpAny P .any ops Q ops.size (Array.replicate ops.size false) a w.drew := by
  simp only [mixB, Bool.and_eq_true] at hB
  obtain ⟨⟨hsel, hsz⟩, hch⟩ := hB
  have hsz' := Nat.eq_of_beq_eq_true hsz
  have e := anyC_early (P := P) (ops := ops) (Q := Q) (wf := w.drew) (Cw := Cw) T lt h4 hcw hsel hQ _ (Array.replicate ops.size false) a hch (by
    unfold started
    rw [List.any_eq_false]
    intro t _
    simp only [Array.getD_eq_getD_getElem?, Array.getElem?_replicate]
    split <;> simp) (by
    refine wpEarly_append _ _ a (wpEarly_of_pure false (fun w hw => by simpa using hw) A la a h1 ?_)
    have mono : ∀ {C : World → Prop} {Q1 Q2 : Act → Prop} (hq : ∀ a, Q1 a → Q2 a) (l : List Oper) (a : Act), wpPure P ops C Q1 l a → wpPure P ops C Q2 l a := by
      intro C Q1 Q2 hq l
      induction l with
      | nil => intro a h; exact hq _ h
      | cons o l ih =>
        intro a h
        unfold wpPure at h ⊢
        split
        · rename_i hw
          rw [if_pos hw] at h
          obtain ⟨v, h1, h2⟩ := h
          exact ⟨v, h1, ih _ h2⟩
        · rename_i hw
          rw [if_neg hw] at h
          exact ih _ h
    refine mono (fun a1 h => wpEarly_append _ _ a1 (wpEarly_of_pure true (fun w' hw => by simp only [if_true] at hw; subst hw; exact hc) B lb a1 h2 (mono (fun a2 h => wpEarly_of_pure false (fun w hw => by simpa using hw) A' la' a2 h3 h) lb a1 h))) la a h)
  have hlen : (List.map (fun i => (i, false)) A ++ (List.map (fun i => (i, true)) B ++ List.map (fun i => (i, false)) A')).length + T.length = ops.size := by
    simp only [List.length_append, List.length_map];omega
  rw [hlen] at e
  exact anyC_any _ _ _ _ e
theorem wpAny_mix2 {a : Act} {w : World} {C Cw : World → Prop} {Qm : Exit → Act → World → Prop} (A B A' T1 T2 : List Nat) (la lb la' l1 l2 : List Oper) (hB : mixB2 ops A B A' T1 T2 = true)
    (h1 : A.map (fun t => ops[t]?) = la.map some) (h2 : B.map (fun t => ops[t]?) = lb.map some) (h3 : A'.map (fun t => ops[t]?) = la'.map some) (h4 : T1.map (fun t => ops[t]?) = l1.map some) (h5 : T2.map (fun t => ops[t]?) = l2.map some)
    (hQ : ∀ c a w, ¬ Q (.panic c) a w) (hQm : ∀ c a w, ¬ Qm (.panic c) a w) (hQo : ¬ LetsOut Qm) (anyQ : ∀ {o : Oper} {a : Act} {w : World} {K : Act → World → Prop}, o.wp P a w K Qm → o.wp P a w K Q) (hq : ∀ a w, Qm .normal a w → wpListC P ops (fun _ => True) Q l2 a w) (hc : C w.drew) (hcw : Cw w.drew)
    (h : wpPure P ops Cw (fun a1 => wpPure P ops C (fun a2 => wpPure P ops Cw (fun a3 => wpListC P ops Cw Qm l1 a3 w.drew) la' a2) lb a1) la a) : wpAny P .any ops Q ops.size (Array.replicate ops.size false) a w.drew := by
  simp only [mixB2, Bool.and_eq_true] at hB
  obtain ⟨⟨hsel, hsz⟩, hch⟩ := hB
  have hsz' := Nat.eq_of_beq_eq_true hsz
  have e := anyC_early2 (P := P) (ops := ops) (Q := Q) (wf := w.drew) (Cw := Cw) (Kf := fun a3 => wpListC P ops Cw Qm l1 a3 w.drew) (T1 ++ T2) T2 (fun t ht => List.mem_append_right _ ht)
    (fun listed a hB h => anyC_seqA hQm hQo anyQ (T1 ++ T2) T2 l2 h5 hq (fun t ht => List.mem_append_right _ ht) T1 l1 listed a _ h4 (fun t ht => List.mem_append_left _ ht) hB (fun _ => rfl) h) hsel hQ _ (Array.replicate ops.size false) a hch (by
    unfold started
    rw [List.any_eq_false]
    intro t _
    simp only [Array.getD_eq_getD_getElem?, Array.getElem?_replicate]
    split <;> simp) (by
    refine wpEarly_append _ _ a (wpEarly_of_pure false (fun w hw => by simpa using hw) A la a h1 ?_)
    have mono : ∀ {C : World → Prop} {Q1 Q2 : Act → Prop} (hq : ∀ a, Q1 a → Q2 a) (l : List Oper) (a : Act), wpPure P ops C Q1 l a → wpPure P ops C Q2 l a := by
      intro C Q1 Q2 hq l
      induction l with
      | nil => intro a h; exact hq _ h
      | cons o l ih =>
        intro a h
        unfold wpPure at h ⊢
        split
        · rename_i hw
          rw [if_pos hw] at h
          obtain ⟨v, h1, h2⟩ := h
          exact ⟨v, h1, ih _ h2⟩
        · rename_i hw
          rw [if_neg hw] at h
          exact ih _ h
    refine mono (fun a1 h => wpEarly_append _ _ a1 (wpEarly_of_pure true (fun w' hw => by simp only [if_true] at hw; subst hw; exact hc) B lb a1 h2 (mono (fun a2 h => wpEarly_of_pure false (fun w hw => by simpa using hw) A' la' a2 h3 h) lb a1 h))) la a h)
  have hlen : (List.map (fun i => (i, false)) A ++ (List.map (fun i => (i, true)) B ++ List.map (fun i => (i, false)) A')).length + (T1 ++ T2).length = ops.size := by
    simp only [List.length_append, List.length_map] at hsz' ⊢;omega
  rw [hlen] at e
  exact anyC_any _ _ _ _ e
end
section
variable {P : Program} {n : Nat} {w0 : World} {ro : Nat} {Q : Exit → Fm → List Res → Prop} {F : Fm} {L : List Res}
theorem OKr_of_any {id : Nat} {l : List Oper} (hm : P.follows .mixedOrders = true) (hn : l.all noDef = true) (h : ∀ w a, Fr n a F → Hp w0.heap.size w0 w L → wpAny P .any l.toArray (liftN n w0 (Q .normal)) l.toArray.size (Array.replicate l.toArray.size false) a w.drew) : OKr P n w0 ro Q (.region id l.toArray true) F L := by
  unfold OKr
  intro w a hf hp
  refine wpIn_region_any hm (any_in (Q := liftN n w0 (Q .normal)) liftN_noPanic liftN_noOut (fun i o hi => ?_) (fun a w h => ?_) _ _ _ _ (h w a hf hp))
  · rw [List.getElem?_toArray] at hi
    exact List.all_eq_true.1 hn o (List.mem_of_getElem? hi)
  · obtain ⟨_, F', L', h1, h2, h3⟩ := h
    exact ⟨F', L', h1, h2, h3⟩
theorem OKr_rid (id : Nat) {a : Array Oper} {b : Bool} (h : OKr P n w0 ro Q (.region id a b) F L) : OKr P n w0 ro Q (.region id a b) F L := h
theorem OKr_quiet {id : Nat} {l : List Oper} (hm : P.follows .mixedOrders = true) (hB : Region.lexB .any l.toArray = true) (h : OKx P n w0 .quiet l.toArray (Q .normal) l F L) (hn : l.all noDef = true := by rfl) : OKr P n w0 ro Q (.region id l.toArray true) F L := by
  refine OKr_of_any hm hn fun w a hf hp => ?_
  simp only [Region.lexB, Bool.and_eq_true] at hB
  refine wpAny_of_quiet (C := fun w => Hp w0.heap.size w0 w L) (Q := fun a' => ∃ F', Fr n a' F' ∧ Q .normal F' L) (fun a w hc h => (by obtain ⟨F', h1, h2⟩ := h; exact ⟨rfl, F', L, h1, hc, h2⟩)) _ _ _ _ hp.drew ?_
  have := wpAnyQ_lex (P := P) (C := fun w => Hp w0.heap.size w0 w L) (md := .any) hB.1 l 0 (Array.replicate l.toArray.size false) a (by simp) (by simpa using hB.2) (h.useQ a hf)
  simpa using this
theorem OKr_mix (A B A' T : List Nat) (Lw : List Res) {id : Nat} {l la lb la' lt : List Oper} (hm : P.follows .mixedOrders = true) (hB : mixB l.toArray A B A' T = true) (hI : ((A ++ (B ++ (A' ++ T))).all fun i => Nat.ble (i + 1) l.length) = true) (e : Ent w0 L Lw) (hA : pickO l A = la) (hB' : pickO l B = lb) (hA' : pickO l A' = la') (hT : pickO l T = lt)
    (h : OKx P n w0 .pure l.toArray (fun F1 _ => OKx P n w0 .pure l.toArray (fun F2 _ => OKx P n w0 .pure l.toArray (fun F3 _ => OKx P n w0 (.seq Lw) l.toArray (Q .normal) lt F3 L) la' F2 Lw) lb F1 L) la F Lw) (hn : l.all noDef = true := by rfl) : OKr P n w0 ro Q (.region id l.toArray true) F L := by
  subst hA hB' hA' hT
  refine OKr_of_any hm hn fun w a hf hp => ?_
  simp only [List.all_append, Bool.and_eq_true] at hI
  refine wpAny_mix (P := P) (ops := l.toArray) (a := a) (w := w) (Q := liftN n w0 (Q .normal)) (C := fun w => Hp w0.heap.size w0 w L) (Cw := fun w => Hp w0.heap.size w0 w Lw) A B A' T _ _ _ _ hB (pickO_at l A hI.1) (pickO_at l B hI.2.1) (pickO_at l A' hI.2.2.1) (pickO_at l T hI.2.2.2)
    (fun c a w h => by cases h.1) hp.drew (e.use _ hp.drew) ?_
  · have mono : ∀ {C : World → Prop} {Q1 Q2 : Act → Prop} (hq : ∀ a, Q1 a → Q2 a) (l' : List Oper) (a : Act), wpPure P l.toArray C Q1 l' a → wpPure P l.toArray C Q2 l' a := by
      intro C Q1 Q2 hq l'
      induction l' with
      | nil => intro a h; exact hq _ h
      | cons o l' ih =>
        intro a h
        unfold wpPure at h ⊢
        split
        · rename_i hw
          rw [if_pos hw] at h
          obtain ⟨v, h1, h2⟩ := h
          exact ⟨v, h1, ih _ h2⟩
        · rename_i hw
          rw [if_neg hw] at h
          exact ih _ h
    refine mono ?_ _ a (h.useP a hf)
    rintro a1 ⟨F1, hf1, h⟩
    refine mono ?_ _ a1 (h.useP a1 hf1)
    rintro a2 ⟨F2, hf2, h⟩
    refine mono ?_ _ a2 (h.useP a2 hf2)
    rintro a3 ⟨F3, hf3, h⟩
    exact h.use _ a3 hf3 hp.drew
theorem OKr_mix2 (A B A' T1 T2 : List Nat) (Lw : List Res) {id : Nat} {l la lb la' l1 l2 : List Oper} (hm : P.follows .mixedOrders = true) (hB : mixB2 l.toArray A B A' T1 T2 = true) (hI : ((A ++ (B ++ (A' ++ (T1 ++ T2)))).all fun i => Nat.ble (i + 1) l.length) = true) (e : Ent w0 L Lw) (hA : pickO l A = la) (hB' : pickO l B = lb) (hA' : pickO l A' = la') (hT1 : pickO l T1 = l1) (hT2 : pickO l T2 = l2)
    (h : OKx P n w0 .pure l.toArray (fun F1 _ => OKx P n w0 .pure l.toArray (fun F2 _ => OKx P n w0 .pure l.toArray (fun F3 _ => OKx P n w0 (.seq Lw) l.toArray (fun F4 L4 => OKx P n w0 (.seq []) l.toArray (Q .normal) l2 F4 L4) l1 F3 L) la' F2 Lw) lb F1 L) la F Lw) (hn : l.all noDef = true := by rfl) : OKr P n w0 ro Q (.region id l.toArray true) F L := by
  subst hA hB' hA' hT1 hT2
  refine OKr_of_any hm hn fun w a hf hp => ?_
  simp only [List.all_append, Bool.and_eq_true] at hI
  refine wpAny_mix2 (P := P) (ops := l.toArray) (a := a) (w := w) (Q := liftN n w0 (Q .normal)) (Qm := liftN n w0 (fun F4 L4 => OKx P n w0 (.seq []) l.toArray (Q .normal) (pickO l T2) F4 L4)) (C := fun w => Hp w0.heap.size w0 w L) (Cw := fun w => Hp w0.heap.size w0 w Lw) A B A' T1 T2 _ _ _ _ _ hB (pickO_at l A hI.1) (pickO_at l B hI.2.1) (pickO_at l A' hI.2.2.1) (pickO_at l T1 hI.2.2.2.1) (pickO_at l T2 hI.2.2.2.2)
    (fun c a w h => by cases h.1) (fun c a w h => by cases h.1) (by rintro ⟨a, w, h, _⟩; cases h) (fun h => wp_anyQ (fun c a w h => by cases h.1) (by rintro ⟨a, w, h, _⟩; cases h) h) ?_ hp.drew (e.use _ hp.drew) ?_
  · rintro a' w' ⟨_, F', L', h1, h2, h3⟩
    have h4 := h3.use w' a' h1 h2
    have weak : ∀ (l' : List Oper) (a : Act) (w : World), wpListC P l.toArray (fun w => Hp w0.heap.size w0 w []) (liftN n w0 (Q .normal)) l' a w → wpListC P l.toArray (fun _ => True) (liftN n w0 (Q .normal)) l' a w := by
      intro l'
      induction l' with
      | nil => intro a w h; exact ⟨trivial, h.2⟩
      | cons o l' ih =>
        intro a w h
        obtain ⟨_, h⟩ := h
        refine ⟨trivial, ?_⟩
        split
        · rename_i hw
          rw [if_pos hw] at h
          exact Oper.wp_mono (fun a w h => ih a w h) h
        · rename_i hw
          rw [if_neg hw] at h
          exact ih _ _ h
    exact weak _ _ _ h4
  · have mono : ∀ {C : World → Prop} {Q1 Q2 : Act → Prop} (hq : ∀ a, Q1 a → Q2 a) (l' : List Oper) (a : Act), wpPure P l.toArray C Q1 l' a → wpPure P l.toArray C Q2 l' a := by
      intro C Q1 Q2 hq l'
      induction l' with
      | nil => intro a h; exact hq _ h
      | cons o l' ih =>
        intro a h
        unfold wpPure at h ⊢
        split
        · rename_i hw
          rw [if_pos hw] at h
          obtain ⟨v, h1, h2⟩ := h
          exact ⟨v, h1, ih _ h2⟩
        · rename_i hw
          rw [if_neg hw] at h
          exact ih _ h
    refine mono ?_ _ a (h.useP a hf)
    rintro a1 ⟨F1, hf1, h⟩
    refine mono ?_ _ a1 (h.useP a1 hf1)
    rintro a2 ⟨F2, hf2, h⟩
    refine mono ?_ _ a2 (h.useP a2 hf2)
    rintro a3 ⟨F3, hf3, h⟩
    exact h.use _ a3 hf3 hp.drew
end
end Go.Proofs.YtpfemholpigdeaaGreatDoor
