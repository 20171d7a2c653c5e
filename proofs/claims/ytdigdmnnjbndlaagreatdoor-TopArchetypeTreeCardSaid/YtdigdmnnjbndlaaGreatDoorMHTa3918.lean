/-
  Part 18 of the proof: Ro39. No statement of the seat is proved here.
-/
import Derived.Test.YtdigdmnnjbndlaaGreatDoorMHTa3917
namespace Go.Proofs.YtdigdmnnjbndlaaGreatDoor
open Go.RowKit
section
variable {P : Program} {n : Nat} {w0 : World} {Q : Exit → Fm → List Res → Prop} {K : Fm → List Res → Prop} {F : Fm} {L : List Res} {m : Md} {ops : Array Oper} {rest : List Oper} {d : Option Nat} {ty : TypeId} {pos : String} {aft : Array Edge}
theorem OK_world {c : Code} (h : ∀ w, Hp w0.heap.size w0 w L → OK P n w0 Q c F L) : OK P n w0 Q c F L := OK.mk' fun w a hf hp => (h w hp).use w a hf hp
theorem OKx_ldH {t : TypeId} {z : Value} [T : TOne P t z] {x : Operand} {b k : Nat} {v : Value} (hx : rv n F x = .pointer (some ⟨b, k, none⟩)) (hc : ∀ w, Hp w0.heap.size w0 w L → w.cell? ⟨b, k, none⟩ = some v)
    (kk : OKx P n w0 m ops K rest (updo F d v) L) : OKx P n w0 m ops K (⟨d, .load t x, ty, pos, aft, none⟩ :: rest) F L :=
  OKx_still (fun w hp _ _ _ _ => run_load1 T hx (hc w hp) _ _ _ _) kk
theorem Sl.form {v : Value} {N : Nat} {f : Nat → Value} {C : World → Prop} (h : ∀ w, C w → Sl w v 1 N f) (w1 : World) (h1 : C w1) : ∃ a c, v = .slice a N c ∧ (0 < N → ∃ b o, a = some ⟨b, o, none⟩ ∧ ∀ w, C w → ∀ j, j < N → w.cell? ⟨b, o + j, none⟩ = some (f j)) := by
  obtain ⟨a, c, rfl, _⟩ := (h w1 h1).out
  refine ⟨a, c, rfl, fun h0 => ?_⟩
  obtain ⟨a2, c2, e, hc⟩ := (h w1 h1).out
  simp only [Value.slice.injEq] at e
  obtain ⟨rfl, _, rfl⟩ := e
  rcases hc with hc | ⟨b, o, rfl, _⟩
  · omega
  refine ⟨b, o, rfl, fun w hw j hj => ?_⟩
  obtain ⟨a2, c2, e, hc⟩ := (h w hw).out
  simp only [Value.slice.injEq] at e
  obtain ⟨rfl, _, rfl⟩ := e
  rcases hc with hc | ⟨b2, o2, e2, hc⟩
  · omega
  simp only [Option.some.injEq, Addr.mk.injEq] at e2
  obtain ⟨rfl, rfl, _⟩ := e2
  exact hc j (by omega)
end
def rtL (par : List (List Int)) (k : Nat) : List Int := ((List.range k).filter (fun i => decide ((par.getD i []).length = 0))).map (fun i : Nat => (i : Int))
theorem rtL_step (par : List (List Int)) (k : Nat) : rtL par (k + 1) = rtL par k ++ if (par.getD k []).length = 0 then [(k : Int)] else [] := by
  unfold rtL
  rw [List.range_succ, List.filter_append, List.map_append]
  congr 1
  by_cases h : (par.getD k []).length = 0
  · rw [if_pos h, List.filter_cons_of_pos (by simpa using h)]; rfl
  · rw [if_neg h, List.filter_cons_of_neg (by simpa using h)]; rfl
theorem rtL_len (par : List (List Int)) (k : Nat) : (rtL par k).length ≤ k := by
  unfold rtL
  rw [List.length_map]
  exact Nat.le_trans (List.length_filter_le _ _) (by simp)
theorem rtL_nat (par : List (List Int)) (k : Nat) : ∀ u ∈ rtL par k, 0 ≤ u ∧ u.toNat < k := by
  intro u hu
  unfold rtL at hu
  simp only [List.mem_map, List.mem_filter, List.mem_range] at hu
  obtain ⟨i, ⟨h1, _⟩, rfl⟩ := hu
  omega
def rts (s : Stem) : List Int := rtL s.par s.par.length
def RtsR (s : Stem) (u : Value) (L : List Res) : Prop :=
  (stCheck s ≠ 0 ∧ u = .tuple #[.slice none 0 0, .int .i64 1] ∧ L = []) ∨
  (stCheck s = 0 ∧ ∃ a c, u = .tuple #[.slice a (rts s).length c, .int .i64 0] ∧ (0 < (rts s).length → ∃ g, a = some ⟨g, 0, none⟩) ∧ L = [.row 3 1 (.slice a (rts s).length c) (rts s).length (ints (rts s))])
set_option maxRecDepth 100000 in
set_option maxHeartbeats 4000000 in
theorem rts1_sat (v : Value) (xs : List Int) (w : World) (h : Ints w v xs) : SatV Tryz.prog 73 [v] w (.bool (decide (xs.length = 0))) := by
  have hv := h.sl
  refine SatL.of 6 [2] Tryz.func73 (by kernel_rfl) (by kernel_rfl) rfl rfl rfl rfl ?_
  repeat' (first|(apply OK_seq)|(apply thenQ_n)|(apply OK_region)|(apply OKx_nilK)|(apply OK_block)|(apply blockQ_n)|(apply blockQ_s)|(apply thenQ_e)|(apply blockQ_e;exact rfl)|(apply thenQ_r)|(apply blockQ_r)|(apply OK_condT;exact rfl)|(apply OK_condF;exact rfl)|(apply OK_skip)|(apply OK_exit)|(apply OK_ret)|(apply OKx_move;(conv=>lhs;whnf)<;>exact rfl)|(apply OKx_assign;(conv=>lhs;whnf)<;>exact rfl)|(apply OKx_len;exact rfl)|(apply OKx_lenR;(conv=>lhs;whnf)<;>exact rfl;(with_reducible assumption))|(apply OKx_lenR2;(conv=>lhs;whnf)<;>exact rfl;(with_reducible assumption))|(apply OKx_lenO;(conv=>lhs;whnf)<;>exact rfl;(first | exact at0|exact at1|exact at2|exact at3|exact at4|exact at5|exact at6|exact at7))|(apply OKx_eql;exact rfl;exact rfl;all_goals (intro _; try (exfalso;omega))))
  · refine bodyQ_r1 (by ((conv=>lhs;whnf)<;>exact rfl)) ?_
    exact ⟨_, Ent.nil, bool_eq (decide_eq_true (by omega)).symm, rfl⟩
  · refine bodyQ_r1 (by ((conv=>lhs;whnf)<;>exact rfl)) ?_
    exact ⟨_, Ent.nil, bool_eq (decide_eq_false (by omega)).symm, rfl⟩
set_option maxRecDepth 100000 in
set_option maxHeartbeats 4000000 in
theorem nodesR_sat (v : Value) (s : Stem) (w : World) (h : Stm w v s) : Sat Tryz.prog 71 [v, .func (.func 73) #[] #[]] w (RtsR s) := by
  have hst := h
  obtain ⟨nv, ev, pv, rfl, _, _, hP⟩ := h
  obtain ⟨fv, hpv, hrow⟩ := hP.rows
  have hpb := hpv.bound
  by_cases hc : stCheck s = 0
  rotate_left
  · refine SatL.of 29 [4, 5] Tryz.func71 (by kernel_rfl) (by kernel_rfl) rfl rfl rfl rfl ?_
    repeat' (first|(apply OK_seq)|(apply thenQ_n)|(apply OK_region)|(apply OKx_gc 23;exact rfl; refine OKx_callV (f := 23) rfl rfl rfl (fun w1 hp => stCheck_sat _ s w1 (hst.below hp.below)) ?_)|(apply OKx_nilK)|(apply OK_block)|(apply blockQ_n)|(apply blockQ_s)|(apply thenQ_e)|(apply blockQ_e;exact rfl)|(apply thenQ_r)|(apply blockQ_r)|(apply OK_condT;exact rfl)|(apply OK_condF;exact rfl)|(apply OK_skip)|(apply OK_exit)|(apply OK_ret)|(apply OKx_move;(conv=>lhs;whnf)<;>exact rfl)|(apply OKx_assign;(conv=>lhs;whnf)<;>exact rfl)|(apply OKx_ldB;exact rfl;(first | exact at0|exact at1|exact at2|exact at3|exact at4|exact at5|exact at6|exact at7);exact rfl)|(apply OKx_ldR;(conv=>lhs;whnf)<;>exact rfl;(with_reducible assumption))|(apply OKx_len;exact rfl)|(apply OKx_lenR;(conv=>lhs;whnf)<;>exact rfl;(with_reducible assumption))|(apply OKx_lenR2;(conv=>lhs;whnf)<;>exact rfl;(with_reducible assumption))|(apply OKx_lenO;(conv=>lhs;whnf)<;>exact rfl;(first | exact at0|exact at1|exact at2|exact at3|exact at4|exact at5|exact at6|exact at7))|(apply OKx_lss;exact rfl;exact rfl;all_goals (intro _; try (exfalso;omega)))|(apply OKx_neq;exact rfl;exact rfl;all_goals (intro _; try (exfalso;omega)))|(apply OKx_idxO;exact rfl;exact rfl;omega)|(apply OKx_idxR;(conv=>lhs;whnf)<;>exact rfl;(with_reducible assumption);exact rfl;omega;intro _ _)|(apply OKx_idxOz;exact rfl;exact rfl;omega;omega)|(apply OKx_idxRz;(conv=>lhs;whnf)<;>exact rfl;(with_reducible assumption);exact rfl;omega;omega;intro _ _)|(apply OKx_fldO;exact rfl;exact rfl)|(apply OKx_fldR;(conv=>lhs;whnf)<;>exact rfl;(with_reducible assumption); decide;intro _ _)|(apply OKx_inc;exact rfl;exact rfl;omega)|(apply OKx_addN;exact rfl;exact rfl;omega)|(apply OKx_add;exact rfl;exact rfl;omega;omega)|(apply OKx_boxA;exact rfl;intro _)|(apply OKx_ldBA;exact rfl;(first | exact at0|exact at1|exact at2|exact at3|exact at4|exact at5|exact at6|exact at7);exact rfl)|(apply OKx_ldRA;(conv=>lhs;whnf)<;>exact rfl;(with_reducible assumption))|(apply OKx_slit1;(conv=>lhs;whnf)<;>exact rfl;exact rfl;intro _))
    refine bodyQ_r2 (by ((conv=>lhs;whnf)<;>exact rfl)) (by ((conv=>lhs;whnf)<;>exact rfl)) ?_
    exact ⟨_, Ent.nil, .inl ⟨hc, rfl, rfl⟩⟩
  have hlen := stCheck_len s hc
  refine SatL.of 29 [4, 5] Tryz.func71 (by kernel_rfl) (by kernel_rfl) rfl rfl rfl rfl ?_
  repeat' (first|(apply OK_seq)|(apply thenQ_n)|(apply OK_region)|(apply OKx_gc 23;exact rfl; refine OKx_callV (f := 23) (v := .int .i64 0) rfl rfl rfl (fun w1 hp => by rw [← hc]; exact stCheck_sat _ s w1 (hst.below hp.below)) ?_)|(apply OKx_nilK)|(apply OK_block)|(apply blockQ_n)|(apply blockQ_s)|(apply thenQ_e)|(apply blockQ_e;exact rfl)|(apply thenQ_r)|(apply blockQ_r)|(apply OK_condT;exact rfl)|(apply OK_condF;exact rfl)|(apply OK_skip)|(apply OK_exit)|(apply OK_ret)|(apply OKx_move;(conv=>lhs;whnf)<;>exact rfl)|(apply OKx_assign;(conv=>lhs;whnf)<;>exact rfl)|(apply OKx_ldB;exact rfl;(first | exact at0|exact at1|exact at2|exact at3|exact at4|exact at5|exact at6|exact at7);exact rfl)|(apply OKx_ldR;(conv=>lhs;whnf)<;>exact rfl;(with_reducible assumption))|(apply OKx_len;exact rfl)|(apply OKx_lenR;(conv=>lhs;whnf)<;>exact rfl;(with_reducible assumption))|(apply OKx_lenR2;(conv=>lhs;whnf)<;>exact rfl;(with_reducible assumption))|(apply OKx_lenO;(conv=>lhs;whnf)<;>exact rfl;(first | exact at0|exact at1|exact at2|exact at3|exact at4|exact at5|exact at6|exact at7))|(apply OKx_lss;exact rfl;exact rfl;all_goals (intro _; try (exfalso;omega)))|(apply OKx_neq;exact rfl;exact rfl;all_goals (intro _; try (exfalso;omega)))|(apply OKx_idxO;exact rfl;exact rfl;omega)|(apply OKx_idxR;(conv=>lhs;whnf)<;>exact rfl;(with_reducible assumption);exact rfl;omega;intro _ _)|(apply OKx_idxOz;exact rfl;exact rfl;omega;omega)|(apply OKx_idxRz;(conv=>lhs;whnf)<;>exact rfl;(with_reducible assumption);exact rfl;omega;omega;intro _ _)|(apply OKx_fldO;exact rfl;exact rfl)|(apply OKx_fldR;(conv=>lhs;whnf)<;>exact rfl;(with_reducible assumption); decide;intro _ _)|(apply OKx_inc;exact rfl;exact rfl;omega)|(apply OKx_addN;exact rfl;exact rfl;omega)|(apply OKx_add;exact rfl;exact rfl;omega;omega)|(apply OKx_boxA;exact rfl;intro _)|(apply OKx_ldBA;exact rfl;(first | exact at0|exact at1|exact at2|exact at3|exact at4|exact at5|exact at6|exact at7);exact rfl)|(apply OKx_ldRA;(conv=>lhs;whnf)<;>exact rfl;(with_reducible assumption))|(apply OKx_slit1;(conv=>lhs;whnf)<;>exact rfl;exact rfl;intro _))
  rename_i g2 _
  refine OK_loop2 6 15 [6, 7, 8, 15, 16, 17, 18, 19, 20, 21, 22, 23, 24, 25, 26, 27] (fun m u v L => ∃ (k n : Nat) (a : Option Addr) (c : Nat), k + m = s.par.length ∧ n = (rtL s.par k).length ∧ u = .slice a n c ∧ (0 < n → ∃ g, a = some ⟨g, 0, none⟩) ∧ v = .int .i64 (k : Int) ∧ L = [.row 3 1 (.slice a n c) n (ints (rtL s.par k)), .box 34 g2 [nv, ev, pv]]) s.par.length _ (Ent.mk fun w1 hp => hp.nil 3 1) ⟨0, 0, none, 0, by omega, rfl, rfl, fun h => absurd h (by omega), rfl, rfl⟩ ?_
  rintro m u v L G ⟨k, n, a, c, hm, hn, rfl, ha, rfl, rfl⟩
  by_cases hk : k < s.par.length
  rotate_left
  · obtain rfl : k = s.par.length := by omega
    subst hn
    repeat' (first|(apply OK_seq)|(apply thenQ_n)|(apply OK_region)|(apply OKx_nilK)|(apply OK_block)|(apply blockQ_n)|(apply blockQ_s)|(apply thenQ_e)|(apply blockQ_e;exact rfl)|(apply thenQ_r)|(apply blockQ_r)|(apply OK_condT;exact rfl)|(apply OK_condF;exact rfl)|(apply OK_skip)|(apply OK_exit)|(apply OK_ret)|(apply OKx_move;(conv=>lhs;whnf)<;>exact rfl)|(apply OKx_assign;(conv=>lhs;whnf)<;>exact rfl)|(apply OKx_ldB;exact rfl;(first | exact at0|exact at1|exact at2|exact at3|exact at4|exact at5|exact at6|exact at7);exact rfl)|(apply OKx_ldR;(conv=>lhs;whnf)<;>exact rfl;(with_reducible assumption))|(apply OKx_len;exact rfl)|(apply OKx_lenR;(conv=>lhs;whnf)<;>exact rfl;(with_reducible assumption))|(apply OKx_lenR2;(conv=>lhs;whnf)<;>exact rfl;(with_reducible assumption))|(apply OKx_lenO;(conv=>lhs;whnf)<;>exact rfl;(first | exact at0|exact at1|exact at2|exact at3|exact at4|exact at5|exact at6|exact at7))|(apply OKx_lss;exact rfl;exact rfl;all_goals (intro _; try (exfalso;omega)))|(apply OKx_neq;exact rfl;exact rfl;all_goals (intro _; try (exfalso;omega)))|(apply OKx_idxO;exact rfl;exact rfl;omega)|(apply OKx_idxR;(conv=>lhs;whnf)<;>exact rfl;(with_reducible assumption);exact rfl;omega;intro _ _)|(apply OKx_idxOz;exact rfl;exact rfl;omega;omega)|(apply OKx_idxRz;(conv=>lhs;whnf)<;>exact rfl;(with_reducible assumption);exact rfl;omega;omega;intro _ _)|(apply OKx_fldO;exact rfl;exact rfl)|(apply OKx_fldR;(conv=>lhs;whnf)<;>exact rfl;(with_reducible assumption); decide;intro _ _)|(apply OKx_inc;exact rfl;exact rfl;omega)|(apply OKx_addN;exact rfl;exact rfl;omega)|(apply OKx_add;exact rfl;exact rfl;omega;omega)|(apply OKx_boxA;exact rfl;intro _)|(apply OKx_ldBA;exact rfl;(first | exact at0|exact at1|exact at2|exact at3|exact at4|exact at5|exact at6|exact at7);exact rfl)|(apply OKx_ldRA;(conv=>lhs;whnf)<;>exact rfl;(with_reducible assumption))|(apply OKx_slit1;(conv=>lhs;whnf)<;>exact rfl;exact rfl;intro _))
    refine bodyQ_r2 (by ((conv=>lhs;whnf)<;>exact rfl)) (by ((conv=>lhs;whnf)<;>exact rfl)) ?_
    exact ⟨_, Ent.pick [0] rfl, .inr ⟨hc, a, c, rfl, ha, rfl⟩⟩
  have hs := rtL_step s.par k
  have hle := rtL_len s.par k
  have hrk := hrow k
  generalize hys : rtL s.par k = ys at *
  by_cases hz : (s.par.getD k []).length = 0
  · rw [if_pos hz] at hs
    repeat' (first|(apply OK_seq)|(apply thenQ_n)|(apply OK_region)|(apply OKx_gc 73;exact rfl; refine OKx_callV (f := 73) (v := .bool true) rfl rfl rfl (fun w1 hp => by have := rts1_sat _ _ w1 (hrk.below hp.below); rwa [decide_eq_true hz] at this) ?_)|(apply OKx_gb; refine OKx_appI 1 0 rfl rfl rfl rfl (by omega) (by omega) ?_; intro g5 c5)|(apply OKx_nilK)|(apply OK_block)|(apply blockQ_n)|(apply blockQ_s)|(apply thenQ_e)|(apply blockQ_e;exact rfl)|(apply thenQ_r)|(apply blockQ_r)|(apply OK_condT;exact rfl)|(apply OK_condF;exact rfl)|(apply OK_skip)|(apply OK_exit)|(apply OK_ret)|(apply OKx_move;(conv=>lhs;whnf)<;>exact rfl)|(apply OKx_assign;(conv=>lhs;whnf)<;>exact rfl)|(apply OKx_ldB;exact rfl;(first | exact at0|exact at1|exact at2|exact at3|exact at4|exact at5|exact at6|exact at7);exact rfl)|(apply OKx_ldR;(conv=>lhs;whnf)<;>exact rfl;(with_reducible assumption))|(apply OKx_len;exact rfl)|(apply OKx_lenR;(conv=>lhs;whnf)<;>exact rfl;(with_reducible assumption))|(apply OKx_lenR2;(conv=>lhs;whnf)<;>exact rfl;(with_reducible assumption))|(apply OKx_lenO;(conv=>lhs;whnf)<;>exact rfl;(first | exact at0|exact at1|exact at2|exact at3|exact at4|exact at5|exact at6|exact at7))|(apply OKx_lss;exact rfl;exact rfl;all_goals (intro _; try (exfalso;omega)))|(apply OKx_neq;exact rfl;exact rfl;all_goals (intro _; try (exfalso;omega)))|(apply OKx_idxO;exact rfl;exact rfl;omega)|(apply OKx_idxR;(conv=>lhs;whnf)<;>exact rfl;(with_reducible assumption);exact rfl;omega;intro _ _)|(apply OKx_idxOz;exact rfl;exact rfl;omega;omega)|(apply OKx_idxRz;(conv=>lhs;whnf)<;>exact rfl;(with_reducible assumption);exact rfl;omega;omega;intro _ _)|(apply OKx_fldO;exact rfl;exact rfl)|(apply OKx_fldR;(conv=>lhs;whnf)<;>exact rfl;(with_reducible assumption); decide;intro _ _)|(apply OKx_inc;exact rfl;exact rfl;omega)|(apply OKx_addN;exact rfl;exact rfl;omega)|(apply OKx_add;exact rfl;exact rfl;omega;omega)|(apply OKx_boxA;exact rfl;intro _)|(apply OKx_ldBA;exact rfl;(first | exact at0|exact at1|exact at2|exact at3|exact at4|exact at5|exact at6|exact at7);exact rfl)|(apply OKx_ldRA;(conv=>lhs;whnf)<;>exact rfl;(with_reducible assumption))|(apply OKx_slit1;(conv=>lhs;whnf)<;>exact rfl;exact rfl;intro _))
    refine ⟨by (repeat' (first | refine agree_upd rfl ?_ | exact agree_over | exact agree_refl _ _ | refine agree_over2 rfl ?_)), m - 1, _, by omega, Ent.pick [1, 2] rfl, ?_⟩
    exact ⟨k + 1, n + 1, _, c5, by omega, by rw [hs, List.length_append, hn]; rfl, rfl, fun _ => ⟨_, rfl⟩, rfl, by rw [hs]; rfl⟩
  · rw [if_neg hz, List.append_nil] at hs
    repeat' (first|(apply OK_seq)|(apply thenQ_n)|(apply OK_region)|(apply OKx_gc 73;exact rfl; refine OKx_callV (f := 73) (v := .bool false) rfl rfl rfl (fun w1 hp => by have := rts1_sat _ _ w1 (hrk.below hp.below); rwa [decide_eq_false hz] at this) ?_)|(apply OKx_nilK)|(apply OK_block)|(apply blockQ_n)|(apply blockQ_s)|(apply thenQ_e)|(apply blockQ_e;exact rfl)|(apply thenQ_r)|(apply blockQ_r)|(apply OK_condT;exact rfl)|(apply OK_condF;exact rfl)|(apply OK_skip)|(apply OK_exit)|(apply OK_ret)|(apply OKx_move;(conv=>lhs;whnf)<;>exact rfl)|(apply OKx_assign;(conv=>lhs;whnf)<;>exact rfl)|(apply OKx_ldB;exact rfl;(first | exact at0|exact at1|exact at2|exact at3|exact at4|exact at5|exact at6|exact at7);exact rfl)|(apply OKx_ldR;(conv=>lhs;whnf)<;>exact rfl;(with_reducible assumption))|(apply OKx_len;exact rfl)|(apply OKx_lenR;(conv=>lhs;whnf)<;>exact rfl;(with_reducible assumption))|(apply OKx_lenR2;(conv=>lhs;whnf)<;>exact rfl;(with_reducible assumption))|(apply OKx_lenO;(conv=>lhs;whnf)<;>exact rfl;(first | exact at0|exact at1|exact at2|exact at3|exact at4|exact at5|exact at6|exact at7))|(apply OKx_lss;exact rfl;exact rfl;all_goals (intro _; try (exfalso;omega)))|(apply OKx_neq;exact rfl;exact rfl;all_goals (intro _; try (exfalso;omega)))|(apply OKx_idxO;exact rfl;exact rfl;omega)|(apply OKx_idxR;(conv=>lhs;whnf)<;>exact rfl;(with_reducible assumption);exact rfl;omega;intro _ _)|(apply OKx_idxOz;exact rfl;exact rfl;omega;omega)|(apply OKx_idxRz;(conv=>lhs;whnf)<;>exact rfl;(with_reducible assumption);exact rfl;omega;omega;intro _ _)|(apply OKx_fldO;exact rfl;exact rfl)|(apply OKx_fldR;(conv=>lhs;whnf)<;>exact rfl;(with_reducible assumption); decide;intro _ _)|(apply OKx_inc;exact rfl;exact rfl;omega)|(apply OKx_addN;exact rfl;exact rfl;omega)|(apply OKx_add;exact rfl;exact rfl;omega;omega)|(apply OKx_boxA;exact rfl;intro _)|(apply OKx_ldBA;exact rfl;(first | exact at0|exact at1|exact at2|exact at3|exact at4|exact at5|exact at6|exact at7);exact rfl)|(apply OKx_ldRA;(conv=>lhs;whnf)<;>exact rfl;(with_reducible assumption))|(apply OKx_slit1;(conv=>lhs;whnf)<;>exact rfl;exact rfl;intro _))
    refine ⟨by (repeat' (first | refine agree_upd rfl ?_ | exact agree_over | exact agree_refl _ _ | refine agree_over2 rfl ?_)), m - 1, _, by omega, Ent.refl _ _, ?_⟩
    exact ⟨k + 1, n, a, c, by omega, by rw [hs]; exact hn, rfl, ha, rfl, by rw [hs]⟩
set_option maxRecDepth 100000 in
set_option maxHeartbeats 4000000 in
theorem Roots_sat (v : Value) (s : Stem) (w : World) (h : Stm w v s) : Sat Tryz.prog 31 [v] w (RtsR s) := by
  have hst := h
  obtain ⟨nv, ev, pv, rfl, _, _, _⟩ := h
  refine SatL.of 8 [2, 3] Tryz.func31 (by kernel_rfl) (by kernel_rfl) rfl rfl rfl rfl ?_
  repeat' (first|(apply OK_seq)|(apply thenQ_n)|(apply OK_region)|(apply OKx_gc 71;exact rfl; refine OKx_call (f := 71) rfl rfl (fun w1 hp => nodesR_sat _ s w1 (hst.below hp.below)) ?_; rintro _ _ (⟨h1, rfl, rfl⟩ | ⟨h1, a, c, rfl, ha, rfl⟩))|(apply OKx_nilK)|(apply OK_block)|(apply blockQ_n)|(apply blockQ_s)|(apply thenQ_e)|(apply blockQ_e;exact rfl)|(apply thenQ_r)|(apply blockQ_r)|(apply OK_condT;exact rfl)|(apply OK_condF;exact rfl)|(apply OK_skip)|(apply OK_exit)|(apply OK_ret)|(apply OKx_assign;(conv=>lhs;whnf)<;>exact rfl)|(apply OKx_extract;exact rfl;(conv=>lhs;whnf)<;>exact rfl)|(apply OKx_boxA;exact rfl;intro _)|(apply OKx_ldBA;exact rfl;(first | exact at0|exact at1|exact at2|exact at3|exact at4|exact at5|exact at6|exact at7);exact rfl)|(apply OKx_ldRA;(conv=>lhs;whnf)<;>exact rfl;(with_reducible assumption)))
  · refine bodyQ_r2 (by ((conv=>lhs;whnf)<;>exact rfl)) (by ((conv=>lhs;whnf)<;>exact rfl)) ?_
    exact ⟨_, Ent.nil, .inl ⟨h1, rfl, rfl⟩⟩
  · refine bodyQ_r2 (by ((conv=>lhs;whnf)<;>exact rfl)) (by ((conv=>lhs;whnf)<;>exact rfl)) ?_
    exact ⟨_, Ent.pick [0] rfl, .inr ⟨h1, a, c, rfl, ha, rfl⟩⟩
def rooE (s : Stem) (st : List Int) : Int := if chkC s st ≠ 0 then chkC s st else if (rts s).length ≠ 1 then 25 else 0
def rooV (s : Stem) (st : List Int) : Int := if rooE s st ≠ 0 then 0 else (rts s).getD 0 0
set_option maxRecDepth 100000 in
set_option maxHeartbeats 4000000 in
theorem root_sat (v sv : Value) (s : Stem) (st : List Int) (w : World) (h : Stm w v s) (hs : Ints w sv st) : SatV Tryz.prog 77 [v, sv] w (.tuple #[.int .i64 (rooV s st), .int .i64 (rooE s st)]) := by
  have hst := h
  obtain ⟨nv, ev, pv, rfl, _, _, _⟩ := h
  by_cases hc : chkC s st = 0
  rotate_left
  · have he : rooE s st = chkC s st := if_pos hc
    have hv : rooV s st = 0 := if_pos (by omega)
    refine SatL.of 30 [4, 5] Tryz.func77 (by kernel_rfl) (by kernel_rfl) rfl rfl rfl rfl ?_
    repeat' (first|(apply OK_seq)|(apply thenQ_n)|(apply OK_region)|(apply OKx_gc 82;exact rfl; refine OKx_callV (f := 82) (v := .int .i64 (chkC s st)) rfl rfl rfl (fun w1 hp => Chk_sat _ _ s st w1 (hst.below hp.below) (hs.below hp.below)) ?_)|(apply OKx_nilK)|(apply OK_block)|(apply blockQ_n)|(apply blockQ_s)|(apply thenQ_e)|(apply blockQ_e;exact rfl)|(apply thenQ_r)|(apply blockQ_r)|(apply OK_condT;exact rfl)|(apply OK_condF;exact rfl)|(apply OK_skip)|(apply OK_exit)|(apply OK_ret)|(apply OKx_move;(conv=>lhs;whnf)<;>exact rfl)|(apply OKx_assign;(conv=>lhs;whnf)<;>exact rfl)|(apply OKx_ldB;exact rfl;(first | exact at0|exact at1|exact at2|exact at3|exact at4|exact at5|exact at6|exact at7);exact rfl)|(apply OKx_ldR;(conv=>lhs;whnf)<;>exact rfl;(with_reducible assumption))|(apply OKx_ldI;exact rfl;(first | exact at0|exact at1|exact at2|exact at3|exact at4|exact at5|exact at6|exact at7);omega)|(apply OKx_len;exact rfl)|(apply OKx_lenR;(conv=>lhs;whnf)<;>exact rfl;(with_reducible assumption))|(apply OKx_lenR2;(conv=>lhs;whnf)<;>exact rfl;(with_reducible assumption))|(apply OKx_lenO;(conv=>lhs;whnf)<;>exact rfl;(first | exact at0|exact at1|exact at2|exact at3|exact at4|exact at5|exact at6|exact at7))|(apply OKx_neq;exact rfl;exact rfl;all_goals (intro _; try (exfalso;omega)))|(apply OKx_idxO;exact rfl;exact rfl;omega)|(apply OKx_idxR;(conv=>lhs;whnf)<;>exact rfl;(with_reducible assumption);exact rfl;omega;intro _ _)|(apply OKx_idxOz;exact rfl;exact rfl;omega;omega)|(apply OKx_idxRz;(conv=>lhs;whnf)<;>exact rfl;(with_reducible assumption);exact rfl;omega;omega;intro _ _)|(apply OKx_pickT;exact rfl;(conv=>lhs;whnf)<;>exact rfl)|(apply OKx_pickF;exact rfl;(conv=>lhs;whnf)<;>exact rfl)|(apply OKx_guardT;exact rfl;exact rfl)|(apply OKx_guardF;exact rfl;exact rfl)|(apply OKx_guardU;exact rfl;exact rfl)|(apply OKx_extract;exact rfl;(conv=>lhs;whnf)<;>exact rfl)|(apply OKx_boxA;exact rfl;intro _)|(apply OKx_ldBA;exact rfl;(first | exact at0|exact at1|exact at2|exact at3|exact at4|exact at5|exact at6|exact at7);exact rfl)|(apply OKx_ldRA;(conv=>lhs;whnf)<;>exact rfl;(with_reducible assumption)))
    refine bodyQ_r2 (by ((conv=>lhs;whnf)<;>exact rfl)) (by ((conv=>lhs;whnf)<;>exact rfl)) ?_
    exact ⟨_, Ent.nil, by rw [hv, he], rfl⟩
  have h0 := (chkC_zero hc).1
  have hrl : (rts s).length ≤ s.par.length := rtL_len _ _
  have hlen := stCheck_len s h0
  by_cases h1 : (rts s).length = 1
  · have he : rooE s st = 0 := by unfold rooE; rw [if_neg (by omega), if_neg (by omega)]
    have hv : rooV s st = (rts s).getD 0 0 := if_neg (by omega)
    refine SatL.of 30 [4, 5] Tryz.func77 (by kernel_rfl) (by kernel_rfl) rfl rfl rfl rfl ?_
    repeat' (first|(apply OK_seq)|(apply thenQ_n)|(apply OK_region)|(apply OKx_gc 82;exact rfl; refine OKx_callV (f := 82) (v := .int .i64 0) rfl rfl rfl (fun w1 hp => by rw [← hc]; exact Chk_sat _ _ s st w1 (hst.below hp.below) (hs.below hp.below)) ?_)|(apply OKx_gc 31;exact rfl; refine OKx_call (f := 31) rfl rfl (fun w1 hp => Roots_sat _ s w1 (hst.below hp.below)) ?_; rintro _ _ (⟨h2, rfl, rfl⟩ | ⟨h2, a, c, rfl, ha, rfl⟩) <;> first | exact absurd h0 h2 | (obtain ⟨ga, rfl⟩ := ha (by omega)))|(apply OKx_gi; refine OKx_idxO (i := 0) rfl rfl (by omega) ?_)|(apply OKx_nilK)|(apply OK_block)|(apply blockQ_n)|(apply blockQ_s)|(apply thenQ_e)|(apply blockQ_e;exact rfl)|(apply thenQ_r)|(apply blockQ_r)|(apply OK_condT;exact rfl)|(apply OK_condF;exact rfl)|(apply OK_skip)|(apply OK_exit)|(apply OK_ret)|(apply OKx_move;(conv=>lhs;whnf)<;>exact rfl)|(apply OKx_assign;(conv=>lhs;whnf)<;>exact rfl)|(apply OKx_ldB;exact rfl;(first | exact at0|exact at1|exact at2|exact at3|exact at4|exact at5|exact at6|exact at7);exact rfl)|(apply OKx_ldR;(conv=>lhs;whnf)<;>exact rfl;(with_reducible assumption))|(apply OKx_ldI;exact rfl;(first | exact at0|exact at1|exact at2|exact at3|exact at4|exact at5|exact at6|exact at7);omega)|(apply OKx_len;exact rfl)|(apply OKx_lenR;(conv=>lhs;whnf)<;>exact rfl;(with_reducible assumption))|(apply OKx_lenR2;(conv=>lhs;whnf)<;>exact rfl;(with_reducible assumption))|(apply OKx_lenO;(conv=>lhs;whnf)<;>exact rfl;(first | exact at0|exact at1|exact at2|exact at3|exact at4|exact at5|exact at6|exact at7))|(apply OKx_neq;exact rfl;exact rfl;all_goals (intro _; try (exfalso;omega)))|(apply OKx_idxO;exact rfl;exact rfl;omega)|(apply OKx_idxR;(conv=>lhs;whnf)<;>exact rfl;(with_reducible assumption);exact rfl;omega;intro _ _)|(apply OKx_idxOz;exact rfl;exact rfl;omega;omega)|(apply OKx_idxRz;(conv=>lhs;whnf)<;>exact rfl;(with_reducible assumption);exact rfl;omega;omega;intro _ _)|(apply OKx_pickT;exact rfl;(conv=>lhs;whnf)<;>exact rfl)|(apply OKx_pickF;exact rfl;(conv=>lhs;whnf)<;>exact rfl)|(apply OKx_guardT;exact rfl;exact rfl)|(apply OKx_guardF;exact rfl;exact rfl)|(apply OKx_guardU;exact rfl;exact rfl)|(apply OKx_extract;exact rfl;(conv=>lhs;whnf)<;>exact rfl)|(apply OKx_boxA;exact rfl;intro _)|(apply OKx_ldBA;exact rfl;(first | exact at0|exact at1|exact at2|exact at3|exact at4|exact at5|exact at6|exact at7);exact rfl)|(apply OKx_ldRA;(conv=>lhs;whnf)<;>exact rfl;(with_reducible assumption)))
    refine bodyQ_r2 (by ((conv=>lhs;whnf)<;>exact rfl)) (by ((conv=>lhs;whnf)<;>exact rfl)) ?_
    exact ⟨_, Ent.nil, by rw [hv, he], rfl⟩
  · have he : rooE s st = 25 := by unfold rooE; rw [if_neg (by omega), if_pos h1]
    have hv : rooV s st = 0 := if_pos (by omega)
    refine SatL.of 30 [4, 5] Tryz.func77 (by kernel_rfl) (by kernel_rfl) rfl rfl rfl rfl ?_
    repeat' (first|(apply OK_seq)|(apply thenQ_n)|(apply OK_region)|(apply OKx_gc 82;exact rfl; refine OKx_callV (f := 82) (v := .int .i64 0) rfl rfl rfl (fun w1 hp => by rw [← hc]; exact Chk_sat _ _ s st w1 (hst.below hp.below) (hs.below hp.below)) ?_)|(apply OKx_gc 31;exact rfl; refine OKx_call (f := 31) rfl rfl (fun w1 hp => Roots_sat _ s w1 (hst.below hp.below)) ?_; rintro _ _ (⟨h2, rfl, rfl⟩ | ⟨h2, a, c, rfl, ha, rfl⟩) <;> first | exact absurd h0 h2 | skip)|(apply OKx_nilK)|(apply OK_block)|(apply blockQ_n)|(apply blockQ_s)|(apply thenQ_e)|(apply blockQ_e;exact rfl)|(apply thenQ_r)|(apply blockQ_r)|(apply OK_condT;exact rfl)|(apply OK_condF;exact rfl)|(apply OK_skip)|(apply OK_exit)|(apply OK_ret)|(apply OKx_move;(conv=>lhs;whnf)<;>exact rfl)|(apply OKx_assign;(conv=>lhs;whnf)<;>exact rfl)|(apply OKx_ldB;exact rfl;(first | exact at0|exact at1|exact at2|exact at3|exact at4|exact at5|exact at6|exact at7);exact rfl)|(apply OKx_ldR;(conv=>lhs;whnf)<;>exact rfl;(with_reducible assumption))|(apply OKx_ldI;exact rfl;(first | exact at0|exact at1|exact at2|exact at3|exact at4|exact at5|exact at6|exact at7);omega)|(apply OKx_len;exact rfl)|(apply OKx_lenR;(conv=>lhs;whnf)<;>exact rfl;(with_reducible assumption))|(apply OKx_lenR2;(conv=>lhs;whnf)<;>exact rfl;(with_reducible assumption))|(apply OKx_lenO;(conv=>lhs;whnf)<;>exact rfl;(first | exact at0|exact at1|exact at2|exact at3|exact at4|exact at5|exact at6|exact at7))|(apply OKx_neq;exact rfl;exact rfl;all_goals (intro _; try (exfalso;omega)))|(apply OKx_idxO;exact rfl;exact rfl;omega)|(apply OKx_idxR;(conv=>lhs;whnf)<;>exact rfl;(with_reducible assumption);exact rfl;omega;intro _ _)|(apply OKx_idxOz;exact rfl;exact rfl;omega;omega)|(apply OKx_idxRz;(conv=>lhs;whnf)<;>exact rfl;(with_reducible assumption);exact rfl;omega;omega;intro _ _)|(apply OKx_pickT;exact rfl;(conv=>lhs;whnf)<;>exact rfl)|(apply OKx_pickF;exact rfl;(conv=>lhs;whnf)<;>exact rfl)|(apply OKx_guardT;exact rfl;exact rfl)|(apply OKx_guardF;exact rfl;exact rfl)|(apply OKx_guardU;exact rfl;exact rfl)|(apply OKx_extract;exact rfl;(conv=>lhs;whnf)<;>exact rfl)|(apply OKx_boxA;exact rfl;intro _)|(apply OKx_ldBA;exact rfl;(first | exact at0|exact at1|exact at2|exact at3|exact at4|exact at5|exact at6|exact at7);exact rfl)|(apply OKx_ldRA;(conv=>lhs;whnf)<;>exact rfl;(with_reducible assumption)))
    refine bodyQ_r2 (by ((conv=>lhs;whnf)<;>exact rfl)) (by ((conv=>lhs;whnf)<;>exact rfl)) ?_
    exact ⟨_, Ent.nil, by rw [hv, he], rfl⟩
theorem rooE_zero {s : Stem} {st : List Int} (h : rooE s st = 0) : chkC s st = 0 ∧ (rts s).length = 1 := by
  unfold rooE at h
  split at h
  · omega
  · split at h
    · omega
    · omega
theorem rooV_at {s : Stem} {st : List Int} (h : rooE s st = 0) : 0 ≤ rooV s st ∧ (rooV s st).toNat < st.length := by
  obtain ⟨h1, h2⟩ := rooE_zero h
  have e : rooV s st = (rts s).getD 0 0 := if_neg (by omega)
  have := rtL_nat s.par s.par.length _ (getD_mem (rts s) 0 0 (by omega))
  rw [e]
  have := (chkC_zero h1).2.1
  omega
def rtE (s : Stem) (st : List Int) : Int := if rooE s st ≠ 0 then rooE s st else scE s st
def RooR (s : Stem) (st : List Int) (w0 : World) (u : Value) (L : List Res) : Prop :=
  (rtE s st ≠ 0 ∧ u = .tuple #[.slice none 0 0, .int .i64 (rtE s st)] ∧ L = []) ∨
  (rtE s st = 0 ∧ ∃ v, u = .tuple #[v, .int .i64 0] ∧ ∀ w0 w, Hp w0.heap.size w0 w L → Ints w v (posL s st (rooV s st).toNat))
set_option maxRecDepth 100000 in
set_option maxHeartbeats 4000000 in
theorem Root_sat (v sv : Value) (s : Stem) (st : List Int) (wb w : World) (hb0 : Below wb.heap.size wb w) (hh : Stm wb v s) (hhs : Ints wb sv st) : Sat Tryz.prog 38 [v, sv] w (RooR s st wb) := by
  have h := hh.below hb0
  have hs := hhs.below hb0
  have hst := h
  obtain ⟨nv, ev, pv, rfl, _, _, _⟩ := h
  by_cases hr : rooE s st = 0
  rotate_left
  · have he : rtE s st = rooE s st := if_pos hr
    refine SatL.of 31 [4, 5] Tryz.func38 (by kernel_rfl) (by kernel_rfl) rfl rfl rfl rfl ?_
    repeat' (first|(apply OK_seq)|(apply thenQ_n)|(apply OK_region)|(apply OKx_gc 77;exact rfl; refine OKx_callV (f := 77) rfl rfl rfl (fun w1 hp => root_sat _ _ s st w1 (hst.below hp.below) (hs.below hp.below)) ?_)|(apply OKx_nilK)|(apply OK_block)|(apply blockQ_n)|(apply blockQ_s)|(apply thenQ_e)|(apply blockQ_e;exact rfl)|(apply thenQ_r)|(apply blockQ_r)|(apply OK_condT;exact rfl)|(apply OK_condF;exact rfl)|(apply OK_skip)|(apply OK_exit)|(apply OK_ret)|(apply OKx_move;(conv=>lhs;whnf)<;>exact rfl)|(apply OKx_assign;(conv=>lhs;whnf)<;>exact rfl)|(apply OKx_ldB;exact rfl;(first | exact at0|exact at1|exact at2|exact at3|exact at4|exact at5|exact at6|exact at7);exact rfl)|(apply OKx_ldR;(conv=>lhs;whnf)<;>exact rfl;(with_reducible assumption))|(apply OKx_neq;exact rfl;exact rfl;all_goals (intro _; try (exfalso;omega)))|(apply OKx_idxO;exact rfl;exact rfl;omega)|(apply OKx_idxR;(conv=>lhs;whnf)<;>exact rfl;(with_reducible assumption);exact rfl;omega;intro _ _)|(apply OKx_idxOz;exact rfl;exact rfl;omega;omega)|(apply OKx_idxRz;(conv=>lhs;whnf)<;>exact rfl;(with_reducible assumption);exact rfl;omega;omega;intro _ _)|(apply OKx_extract;exact rfl;(conv=>lhs;whnf)<;>exact rfl)|(apply OKx_boxA;exact rfl;intro _)|(apply OKx_ldBA;exact rfl;(first | exact at0|exact at1|exact at2|exact at3|exact at4|exact at5|exact at6|exact at7);exact rfl)|(apply OKx_ldRA;(conv=>lhs;whnf)<;>exact rfl;(with_reducible assumption)))
    refine bodyQ_r2 (by ((conv=>lhs;whnf)<;>exact rfl)) (by ((conv=>lhs;whnf)<;>exact rfl)) ?_
    exact ⟨_, Ent.nil, .inl ⟨by omega, by rw [he], rfl⟩⟩
  have he : rtE s st = scE s st := if_neg (by omega)
  have hra := rooV_at hr
  obtain ⟨r, hrv⟩ : ∃ r : Nat, rooV s st = (r : Int) := ⟨(rooV s st).toNat, by omega⟩
  unfold RooR
  rw [hrv] at hra ⊢
  rw [Int.toNat_natCast] at hra ⊢
  by_cases h0 : scE s st = 0
  rotate_left
  · refine SatL.of 31 [4, 5] Tryz.func38 (by kernel_rfl) (by kernel_rfl) rfl rfl rfl rfl ?_
    repeat' (first|(apply OK_seq)|(apply thenQ_n)|(apply OK_region)|(apply OKx_gc 77;exact rfl; refine OKx_callV (f := 77) (v := .tuple #[.int .i64 (r : Int), .int .i64 0]) rfl rfl rfl (fun w1 hp => by rw [← hrv, ← hr]; exact root_sat _ _ s st w1 (hst.below hp.below) (hs.below hp.below)) ?_)|(apply OKx_gc 78;exact rfl; refine OKx_call (f := 78) rfl rfl (fun w1 hp => Poss39_sat _ _ s st w w1 hp.below hst hs) ?_; rintro _ _ (⟨h1, rfl, rfl⟩ | ⟨h1, _⟩) <;> first | exact absurd h1 h0 | skip)|(apply OKx_nilK)|(apply OK_block)|(apply blockQ_n)|(apply blockQ_s)|(apply thenQ_e)|(apply blockQ_e;exact rfl)|(apply thenQ_r)|(apply blockQ_r)|(apply OK_condT;exact rfl)|(apply OK_condF;exact rfl)|(apply OK_skip)|(apply OK_exit)|(apply OK_ret)|(apply OKx_move;(conv=>lhs;whnf)<;>exact rfl)|(apply OKx_assign;(conv=>lhs;whnf)<;>exact rfl)|(apply OKx_ldB;exact rfl;(first | exact at0|exact at1|exact at2|exact at3|exact at4|exact at5|exact at6|exact at7);exact rfl)|(apply OKx_ldR;(conv=>lhs;whnf)<;>exact rfl;(with_reducible assumption))|(apply OKx_neq;exact rfl;exact rfl;all_goals (intro _; try (exfalso;omega)))|(apply OKx_idxO;exact rfl;exact rfl;omega)|(apply OKx_idxR;(conv=>lhs;whnf)<;>exact rfl;(with_reducible assumption);exact rfl;omega;intro _ _)|(apply OKx_idxOz;exact rfl;exact rfl;omega;omega)|(apply OKx_idxRz;(conv=>lhs;whnf)<;>exact rfl;(with_reducible assumption);exact rfl;omega;omega;intro _ _)|(apply OKx_extract;exact rfl;(conv=>lhs;whnf)<;>exact rfl)|(apply OKx_boxA;exact rfl;intro _)|(apply OKx_ldBA;exact rfl;(first | exact at0|exact at1|exact at2|exact at3|exact at4|exact at5|exact at6|exact at7);exact rfl)|(apply OKx_ldRA;(conv=>lhs;whnf)<;>exact rfl;(with_reducible assumption)))
    refine bodyQ_r2 (by ((conv=>lhs;whnf)<;>exact rfl)) (by ((conv=>lhs;whnf)<;>exact rfl)) ?_
    exact ⟨_, Ent.nil, .inl ⟨by omega, by rw [he], rfl⟩⟩
  refine SatL.of 31 [4, 5] Tryz.func38 (by kernel_rfl) (by kernel_rfl) rfl rfl rfl rfl ?_
  repeat' (first|(apply OK_seq)|(apply thenQ_n)|(apply OK_region)|(apply OKx_gc 77;exact rfl; refine OKx_callV (f := 77) (v := .tuple #[.int .i64 (r : Int), .int .i64 0]) rfl rfl rfl (fun w1 hp => by rw [← hrv, ← hr]; exact root_sat _ _ s st w1 (hst.below hp.below) (hs.below hp.below)) ?_)|(apply OKx_gc 78;exact rfl; refine OKx_call (f := 78) rfl rfl (fun w1 hp => Poss39_sat _ _ s st wb w1 (hb0.trans (hp.below.mono hb0.size)) hh hhs) ?_; rintro _ _ (⟨h1, _⟩ | ⟨h1, g, c, vs, Z, rfl, hvs, hZ, rfl⟩) <;> first | exact absurd h0 h1 | rw [List.cons_append])|(apply OKx_gi; refine OKx_idxO (i := r) rfl rfl (by omega) ?_)|(apply OKx_gl; refine OKx_ldW 0 rfl rfl (by omega) (by rw [List.getElem?_eq_getElem (by omega)]) ?_)|(apply OKx_nilK)|(apply OK_block)|(apply blockQ_n)|(apply blockQ_s)|(apply thenQ_e)|(apply blockQ_e;exact rfl)|(apply thenQ_r)|(apply blockQ_r)|(apply OK_condT;exact rfl)|(apply OK_condF;exact rfl)|(apply OK_skip)|(apply OK_exit)|(apply OK_ret)|(apply OKx_move;(conv=>lhs;whnf)<;>exact rfl)|(apply OKx_assign;(conv=>lhs;whnf)<;>exact rfl)|(apply OKx_ldB;exact rfl;(first | exact at0|exact at1|exact at2|exact at3|exact at4|exact at5|exact at6|exact at7);exact rfl)|(apply OKx_ldR;(conv=>lhs;whnf)<;>exact rfl;(with_reducible assumption))|(apply OKx_neq;exact rfl;exact rfl;all_goals (intro _; try (exfalso;omega)))|(apply OKx_idxO;exact rfl;exact rfl;omega)|(apply OKx_idxR;(conv=>lhs;whnf)<;>exact rfl;(with_reducible assumption);exact rfl;omega;intro _ _)|(apply OKx_idxOz;exact rfl;exact rfl;omega;omega)|(apply OKx_idxRz;(conv=>lhs;whnf)<;>exact rfl;(with_reducible assumption);exact rfl;omega;omega;intro _ _)|(apply OKx_extract;exact rfl;(conv=>lhs;whnf)<;>exact rfl)|(apply OKx_boxA;exact rfl;intro _)|(apply OKx_ldBA;exact rfl;(first | exact at0|exact at1|exact at2|exact at3|exact at4|exact at5|exact at6|exact at7);exact rfl)|(apply OKx_ldRA;(conv=>lhs;whnf)<;>exact rfl;(with_reducible assumption)))
  refine bodyQ_r2 (by ((conv=>lhs;whnf)<;>exact rfl)) (by ((conv=>lhs;whnf)<;>exact rfl)) ?_
  refine ⟨_, Ent.sub (List.sublist_append_left _ _ |>.cons _), .inr ⟨by omega, _, rfl, fun _ w1 hp => ?_⟩⟩
  have := hZ _ w1 hp r (by omega)
  rwa [getD_lt _ _ _ (show r < vs.length by omega)] at this
def cerV (xs : List Int) : Int := if xs.length = 1 then xs.getD 0 0 else -1
def cerL (s : Stem) (st : List Int) (k : Nat) : List Int := (List.range k).map fun i => cerV (posL s st i)
theorem cerL_step (s : Stem) (st : List Int) (k : Nat) : cerL s st (k + 1) = cerL s st k ++ [cerV (posL s st k)] := by
  unfold cerL
  rw [List.range_succ, List.map_append]; rfl
theorem cerL_len (s : Stem) (st : List Int) (k : Nat) : (cerL s st k).length = k := by simp [cerL]
def CerR (s : Stem) (st : List Int) (u : Value) (L : List Res) : Prop :=
  (scE s st ≠ 0 ∧ u = .tuple #[.slice none 0 0, .int .i64 (scE s st)] ∧ L = []) ∨
  (scE s st = 0 ∧ ∃ a c, u = .tuple #[.slice a st.length c, .int .i64 0] ∧ (0 < st.length → ∃ g, a = some ⟨g, 0, none⟩) ∧ L = [.row 3 1 (.slice a st.length c) st.length (ints (cerL s st st.length))])
theorem posL_len (s : Stem) (st : List Int) (i : Nat) : (posL s st i).length ≤ 16 := by
  unfold posL
  rw [List.length_map]
  exact Nat.le_trans (List.length_filter_le _ _) (by simp)
set_option maxRecDepth 100000 in
set_option maxHeartbeats 4000000 in
theorem Certain_sat (v sv : Value) (s : Stem) (st : List Int) (w : World) (h : Stm w v s) (hs : Ints w sv st) : Sat Tryz.prog 74 [v, sv] w (CerR s st) := by
  have hst := h
  obtain ⟨nv, ev, pv, rfl, _, _, _⟩ := h
  have hsb := hs.sl.bound
  by_cases h0 : scE s st = 0
  rotate_left
  · refine SatL.of 40 [4, 5] Tryz.func74 (by kernel_rfl) (by kernel_rfl) rfl rfl rfl rfl ?_
    repeat' (first|(apply OK_seq)|(apply thenQ_n)|(apply OK_region)|(apply OKx_gc 78;exact rfl; refine OKx_call (f := 78) rfl rfl (fun w1 hp => Poss39_sat _ _ s st w w1 hp.below hst hs) ?_; rintro _ _ (⟨h1, rfl, rfl⟩ | ⟨h1, _⟩) <;> first | exact absurd h1 h0 | skip)|(apply OKx_nilK)|(apply OK_block)|(apply blockQ_n)|(apply blockQ_s)|(apply thenQ_e)|(apply blockQ_e;exact rfl)|(apply thenQ_r)|(apply blockQ_r)|(apply OK_condT;exact rfl)|(apply OK_condF;exact rfl)|(apply OK_skip)|(apply OK_exit)|(apply OK_ret)|(apply OKx_move;(conv=>lhs;whnf)<;>exact rfl)|(apply OKx_assign;(conv=>lhs;whnf)<;>exact rfl)|(apply OKx_ldB;exact rfl;(first | exact at0|exact at1|exact at2|exact at3|exact at4|exact at5|exact at6|exact at7);exact rfl)|(apply OKx_ldR;(conv=>lhs;whnf)<;>exact rfl;(with_reducible assumption))|(apply OKx_ldI;exact rfl;(first | exact at0|exact at1|exact at2|exact at3|exact at4|exact at5|exact at6|exact at7);omega)|(apply OKx_len;exact rfl)|(apply OKx_lenR;(conv=>lhs;whnf)<;>exact rfl;(with_reducible assumption))|(apply OKx_lenR2;(conv=>lhs;whnf)<;>exact rfl;(with_reducible assumption))|(apply OKx_lenO;(conv=>lhs;whnf)<;>exact rfl;(first | exact at0|exact at1|exact at2|exact at3|exact at4|exact at5|exact at6|exact at7))|(apply OKx_lss;exact rfl;exact rfl;all_goals (intro _; try (exfalso;omega)))|(apply OKx_eql;exact rfl;exact rfl;all_goals (intro _; try (exfalso;omega)))|(apply OKx_neq;exact rfl;exact rfl;all_goals (intro _; try (exfalso;omega)))|(apply OKx_idxO;exact rfl;exact rfl;omega)|(apply OKx_idxR;(conv=>lhs;whnf)<;>exact rfl;(with_reducible assumption);exact rfl;omega;intro _ _)|(apply OKx_idxOz;exact rfl;exact rfl;omega;omega)|(apply OKx_idxRz;(conv=>lhs;whnf)<;>exact rfl;(with_reducible assumption);exact rfl;omega;omega;intro _ _)|(apply OKx_inc;exact rfl;exact rfl;omega)|(apply OKx_addN;exact rfl;exact rfl;omega)|(apply OKx_add;exact rfl;exact rfl;omega;omega)|(apply OKx_extract;exact rfl;(conv=>lhs;whnf)<;>exact rfl)|(apply OKx_boxA;exact rfl;intro _)|(apply OKx_ldBA;exact rfl;(first | exact at0|exact at1|exact at2|exact at3|exact at4|exact at5|exact at6|exact at7);exact rfl)|(apply OKx_ldRA;(conv=>lhs;whnf)<;>exact rfl;(with_reducible assumption))|(apply OKx_slit1;(conv=>lhs;whnf)<;>exact rfl;exact rfl;intro _))
    refine bodyQ_r2 (by ((conv=>lhs;whnf)<;>exact rfl)) (by ((conv=>lhs;whnf)<;>exact rfl)) ?_
    exact ⟨_, Ent.nil, .inl ⟨h0, rfl, rfl⟩⟩
  have hl := chkC_le (scE_inv h0).1
  have hl64 := (stCheck_len s (chkC_zero (scE_inv h0).1).1).2.1
  refine SatL.of 40 [4, 5] Tryz.func74 (by kernel_rfl) (by kernel_rfl) rfl rfl rfl rfl ?_
  repeat' (first|(apply OK_seq)|(apply thenQ_n)|(apply OK_region)|(apply OKx_gc 78;exact rfl; refine OKx_call (f := 78) rfl rfl (fun w1 hp => Poss39_sat _ _ s st w w1 hp.below hst hs) ?_; rintro _ _ (⟨h1, _⟩ | ⟨h1, g, c, vs, Z, rfl, hvs, hZ, rfl⟩) <;> first | exact absurd h0 h1 | rw [List.cons_append])|(apply OKx_nilK)|(apply OK_block)|(apply blockQ_n)|(apply blockQ_s)|(apply thenQ_e)|(apply blockQ_e;exact rfl)|(apply thenQ_r)|(apply blockQ_r)|(apply OK_condT;exact rfl)|(apply OK_condF;exact rfl)|(apply OK_skip)|(apply OK_exit)|(apply OK_ret)|(apply OKx_move;(conv=>lhs;whnf)<;>exact rfl)|(apply OKx_assign;(conv=>lhs;whnf)<;>exact rfl)|(apply OKx_ldB;exact rfl;(first | exact at0|exact at1|exact at2|exact at3|exact at4|exact at5|exact at6|exact at7);exact rfl)|(apply OKx_ldR;(conv=>lhs;whnf)<;>exact rfl;(with_reducible assumption))|(apply OKx_ldI;exact rfl;(first | exact at0|exact at1|exact at2|exact at3|exact at4|exact at5|exact at6|exact at7);omega)|(apply OKx_len;exact rfl)|(apply OKx_lenR;(conv=>lhs;whnf)<;>exact rfl;(with_reducible assumption))|(apply OKx_lenR2;(conv=>lhs;whnf)<;>exact rfl;(with_reducible assumption))|(apply OKx_lenO;(conv=>lhs;whnf)<;>exact rfl;(first | exact at0|exact at1|exact at2|exact at3|exact at4|exact at5|exact at6|exact at7))|(apply OKx_lss;exact rfl;exact rfl;all_goals (intro _; try (exfalso;omega)))|(apply OKx_eql;exact rfl;exact rfl;all_goals (intro _; try (exfalso;omega)))|(apply OKx_neq;exact rfl;exact rfl;all_goals (intro _; try (exfalso;omega)))|(apply OKx_idxO;exact rfl;exact rfl;omega)|(apply OKx_idxR;(conv=>lhs;whnf)<;>exact rfl;(with_reducible assumption);exact rfl;omega;intro _ _)|(apply OKx_idxOz;exact rfl;exact rfl;omega;omega)|(apply OKx_idxRz;(conv=>lhs;whnf)<;>exact rfl;(with_reducible assumption);exact rfl;omega;omega;intro _ _)|(apply OKx_inc;exact rfl;exact rfl;omega)|(apply OKx_addN;exact rfl;exact rfl;omega)|(apply OKx_add;exact rfl;exact rfl;omega;omega)|(apply OKx_extract;exact rfl;(conv=>lhs;whnf)<;>exact rfl)|(apply OKx_boxA;exact rfl;intro _)|(apply OKx_ldBA;exact rfl;(first | exact at0|exact at1|exact at2|exact at3|exact at4|exact at5|exact at6|exact at7);exact rfl)|(apply OKx_ldRA;(conv=>lhs;whnf)<;>exact rfl;(with_reducible assumption))|(apply OKx_slit1;(conv=>lhs;whnf)<;>exact rfl;exact rfl;intro _))
  rename_i g2 _
  refine OK_loop2 8 22 [8, 10, 22, 23, 24, 25, 26, 27, 28, 29, 30, 31, 32, 33, 34, 35, 36, 37, 38] (fun m u v L => ∃ (k : Nat) (oa : Option Addr) (oc : Nat), k + m = st.length ∧ u = .slice oa k oc ∧ v = .int .i64 (k : Int) ∧ (0 < k → ∃ g, oa = some ⟨g, 0, none⟩) ∧
    L = .row 3 1 (.slice oa k oc) k (ints (cerL s st k)) :: .row 22 1 (.slice (some ⟨g, 0, none⟩) st.length c) st.length vs :: Z) st.length _
    (Ent.mk fun w1 hp => ((hp.sub ((List.sublist_append_left _ _).cons_cons _)).nil 3 1)) ⟨0, none, 0, by omega, rfl, rfl, fun h => absurd h (by omega), rfl⟩ ?_
  rintro m u v L G ⟨k, oa, oc, hm, rfl, rfl, hoa, rfl⟩
  by_cases hk : k < st.length
  rotate_left
  · obtain rfl : k = st.length := by omega
    repeat' (first|(apply OK_seq)|(apply thenQ_n)|(apply OK_region)|(apply OKx_nilK)|(apply OK_block)|(apply blockQ_n)|(apply blockQ_s)|(apply thenQ_e)|(apply blockQ_e;exact rfl)|(apply thenQ_r)|(apply blockQ_r)|(apply OK_condT;exact rfl)|(apply OK_condF;exact rfl)|(apply OK_skip)|(apply OK_exit)|(apply OK_ret)|(apply OKx_move;(conv=>lhs;whnf)<;>exact rfl)|(apply OKx_assign;(conv=>lhs;whnf)<;>exact rfl)|(apply OKx_ldB;exact rfl;(first | exact at0|exact at1|exact at2|exact at3|exact at4|exact at5|exact at6|exact at7);exact rfl)|(apply OKx_ldR;(conv=>lhs;whnf)<;>exact rfl;(with_reducible assumption))|(apply OKx_ldI;exact rfl;(first | exact at0|exact at1|exact at2|exact at3|exact at4|exact at5|exact at6|exact at7);omega)|(apply OKx_len;exact rfl)|(apply OKx_lenR;(conv=>lhs;whnf)<;>exact rfl;(with_reducible assumption))|(apply OKx_lenR2;(conv=>lhs;whnf)<;>exact rfl;(with_reducible assumption))|(apply OKx_lenO;(conv=>lhs;whnf)<;>exact rfl;(first | exact at0|exact at1|exact at2|exact at3|exact at4|exact at5|exact at6|exact at7))|(apply OKx_lss;exact rfl;exact rfl;all_goals (intro _; try (exfalso;omega)))|(apply OKx_eql;exact rfl;exact rfl;all_goals (intro _; try (exfalso;omega)))|(apply OKx_neq;exact rfl;exact rfl;all_goals (intro _; try (exfalso;omega)))|(apply OKx_idxO;exact rfl;exact rfl;omega)|(apply OKx_idxR;(conv=>lhs;whnf)<;>exact rfl;(with_reducible assumption);exact rfl;omega;intro _ _)|(apply OKx_idxOz;exact rfl;exact rfl;omega;omega)|(apply OKx_idxRz;(conv=>lhs;whnf)<;>exact rfl;(with_reducible assumption);exact rfl;omega;omega;intro _ _)|(apply OKx_inc;exact rfl;exact rfl;omega)|(apply OKx_addN;exact rfl;exact rfl;omega)|(apply OKx_add;exact rfl;exact rfl;omega;omega)|(apply OKx_extract;exact rfl;(conv=>lhs;whnf)<;>exact rfl)|(apply OKx_boxA;exact rfl;intro _)|(apply OKx_ldBA;exact rfl;(first | exact at0|exact at1|exact at2|exact at3|exact at4|exact at5|exact at6|exact at7);exact rfl)|(apply OKx_ldRA;(conv=>lhs;whnf)<;>exact rfl;(with_reducible assumption))|(apply OKx_slit1;(conv=>lhs;whnf)<;>exact rfl;exact rfl;intro _))
    refine bodyQ_r2 (by ((conv=>lhs;whnf)<;>exact rfl)) (by ((conv=>lhs;whnf)<;>exact rfl)) ?_
    exact ⟨_, Ent.pickT [_] (_ :: Z) [0] rfl |>.trans (Ent.sub (List.sublist_append_left _ _)), .inr ⟨h0, oa, oc, rfl, hoa, rfl⟩⟩
  have hs1 := cerL_step s st k
  have hcl := cerL_len s st k
  have hpl := posL_len s st k
  refine OK_world fun w1 hp1 => ?_
  obtain ⟨xa, xc, hxv, hxc⟩ := Sl.form (C := fun w1 => Hp w.heap.size w w1 Z) (fun w2 hp2 => (hZ _ w2 hp2 k hk).sl) w1 hp1.drop1.drop1
  have hgk : vs[k]? = some (.slice xa (posL s st k).length xc) := by rw [← hxv]; exact List.getElem?_eq_getElem (by omega) |>.trans (by rw [getD_lt _ _ _ (show k < vs.length by omega)])
  have hcv : cerV (posL s st k) = if (posL s st k).length = 1 then (posL s st k).getD 0 0 else -1 := rfl
  generalize hxs : posL s st k = xs at *
  generalize hcs : cerL s st k = cs at *
  by_cases hx1 : xs.length = 1
  · rw [if_pos hx1] at hcv
    obtain ⟨b, o, rfl, hcell⟩ := hxc (by omega)
    repeat' (first|(apply OK_seq)|(apply thenQ_n)|(apply OK_region)|(apply OKx_gi; refine OKx_idxO (i := k) rfl rfl (by omega) ?_)|(apply OKx_gl; refine OKx_ldW 1 rfl rfl (by omega) hgk ?_)|(apply OKx_gi; refine OKx_idxOs (sz := 1) rfl rfl (by omega) (by omega) ?_)|(apply OKx_gl; refine OKx_ldH rfl (fun w2 hp2 => hcell w2 hp2.drop1.drop1 0 (by omega)) ?_)|(apply OKx_gb; refine OKx_appI 1 0 rfl rfl rfl rfl (by omega) (by omega) ?_; intro g5 c5)|(apply OKx_nilK)|(apply OK_block)|(apply blockQ_n)|(apply blockQ_s)|(apply thenQ_e)|(apply blockQ_e;exact rfl)|(apply thenQ_r)|(apply blockQ_r)|(apply OK_condT;exact rfl)|(apply OK_condF;exact rfl)|(apply OK_skip)|(apply OK_exit)|(apply OK_ret)|(apply OKx_move;(conv=>lhs;whnf)<;>exact rfl)|(apply OKx_assign;(conv=>lhs;whnf)<;>exact rfl)|(apply OKx_ldB;exact rfl;(first | exact at0|exact at1|exact at2|exact at3|exact at4|exact at5|exact at6|exact at7);exact rfl)|(apply OKx_ldR;(conv=>lhs;whnf)<;>exact rfl;(with_reducible assumption))|(apply OKx_ldI;exact rfl;(first | exact at0|exact at1|exact at2|exact at3|exact at4|exact at5|exact at6|exact at7);omega)|(apply OKx_len;exact rfl)|(apply OKx_lenR;(conv=>lhs;whnf)<;>exact rfl;(with_reducible assumption))|(apply OKx_lenR2;(conv=>lhs;whnf)<;>exact rfl;(with_reducible assumption))|(apply OKx_lenO;(conv=>lhs;whnf)<;>exact rfl;(first | exact at0|exact at1|exact at2|exact at3|exact at4|exact at5|exact at6|exact at7))|(apply OKx_lss;exact rfl;exact rfl;all_goals (intro _; try (exfalso;omega)))|(apply OKx_eql;exact rfl;exact rfl;all_goals (intro _; try (exfalso;omega)))|(apply OKx_neq;exact rfl;exact rfl;all_goals (intro _; try (exfalso;omega)))|(apply OKx_idxO;exact rfl;exact rfl;omega)|(apply OKx_idxR;(conv=>lhs;whnf)<;>exact rfl;(with_reducible assumption);exact rfl;omega;intro _ _)|(apply OKx_idxOz;exact rfl;exact rfl;omega;omega)|(apply OKx_idxRz;(conv=>lhs;whnf)<;>exact rfl;(with_reducible assumption);exact rfl;omega;omega;intro _ _)|(apply OKx_inc;exact rfl;exact rfl;omega)|(apply OKx_addN;exact rfl;exact rfl;omega)|(apply OKx_add;exact rfl;exact rfl;omega;omega)|(apply OKx_extract;exact rfl;(conv=>lhs;whnf)<;>exact rfl)|(apply OKx_boxA;exact rfl;intro _)|(apply OKx_ldBA;exact rfl;(first | exact at0|exact at1|exact at2|exact at3|exact at4|exact at5|exact at6|exact at7);exact rfl)|(apply OKx_ldRA;(conv=>lhs;whnf)<;>exact rfl;(with_reducible assumption))|(apply OKx_slit1;(conv=>lhs;whnf)<;>exact rfl;exact rfl;intro _))
    refine ⟨by (repeat' (first | refine agree_upd rfl ?_ | exact agree_over | exact agree_refl _ _ | refine agree_over2 rfl ?_)), m - 1, _, by omega, Ent.sub ((List.Sublist.refl _).cons _), ?_⟩
    exact ⟨k + 1, _, c5, by omega, rfl, rfl, fun _ => ⟨_, rfl⟩, by rw [hs1, hcv]; rfl⟩
  · rw [if_neg hx1] at hcv
    repeat' (first|(apply OK_seq)|(apply thenQ_n)|(apply OK_region)|(apply OKx_gi; refine OKx_idxO (i := k) rfl rfl (by omega) ?_)|(apply OKx_gl; refine OKx_ldW 1 rfl rfl (by omega) hgk ?_)|(apply OKx_gb; refine OKx_appI 1 0 rfl rfl rfl rfl (by omega) (by omega) ?_; intro g5 c5)|(apply OKx_nilK)|(apply OK_block)|(apply blockQ_n)|(apply blockQ_s)|(apply thenQ_e)|(apply blockQ_e;exact rfl)|(apply thenQ_r)|(apply blockQ_r)|(apply OK_condT;exact rfl)|(apply OK_condF;exact rfl)|(apply OK_skip)|(apply OK_exit)|(apply OK_ret)|(apply OKx_move;(conv=>lhs;whnf)<;>exact rfl)|(apply OKx_assign;(conv=>lhs;whnf)<;>exact rfl)|(apply OKx_ldB;exact rfl;(first | exact at0|exact at1|exact at2|exact at3|exact at4|exact at5|exact at6|exact at7);exact rfl)|(apply OKx_ldR;(conv=>lhs;whnf)<;>exact rfl;(with_reducible assumption))|(apply OKx_ldI;exact rfl;(first | exact at0|exact at1|exact at2|exact at3|exact at4|exact at5|exact at6|exact at7);omega)|(apply OKx_len;exact rfl)|(apply OKx_lenR;(conv=>lhs;whnf)<;>exact rfl;(with_reducible assumption))|(apply OKx_lenR2;(conv=>lhs;whnf)<;>exact rfl;(with_reducible assumption))|(apply OKx_lenO;(conv=>lhs;whnf)<;>exact rfl;(first | exact at0|exact at1|exact at2|exact at3|exact at4|exact at5|exact at6|exact at7))|(apply OKx_lss;exact rfl;exact rfl;all_goals (intro _; try (exfalso;omega)))|(apply OKx_eql;exact rfl;exact rfl;all_goals (intro _; try (exfalso;omega)))|(apply OKx_neq;exact rfl;exact rfl;all_goals (intro _; try (exfalso;omega)))|(apply OKx_idxO;exact rfl;exact rfl;omega)|(apply OKx_idxR;(conv=>lhs;whnf)<;>exact rfl;(with_reducible assumption);exact rfl;omega;intro _ _)|(apply OKx_idxOz;exact rfl;exact rfl;omega;omega)|(apply OKx_idxRz;(conv=>lhs;whnf)<;>exact rfl;(with_reducible assumption);exact rfl;omega;omega;intro _ _)|(apply OKx_inc;exact rfl;exact rfl;omega)|(apply OKx_addN;exact rfl;exact rfl;omega)|(apply OKx_add;exact rfl;exact rfl;omega;omega)|(apply OKx_extract;exact rfl;(conv=>lhs;whnf)<;>exact rfl)|(apply OKx_boxA;exact rfl;intro _)|(apply OKx_ldBA;exact rfl;(first | exact at0|exact at1|exact at2|exact at3|exact at4|exact at5|exact at6|exact at7);exact rfl)|(apply OKx_ldRA;(conv=>lhs;whnf)<;>exact rfl;(with_reducible assumption))|(apply OKx_slit1;(conv=>lhs;whnf)<;>exact rfl;exact rfl;intro _))
    refine ⟨by (repeat' (first | refine agree_upd rfl ?_ | exact agree_over | exact agree_refl _ _ | refine agree_over2 rfl ?_)), m - 1, _, by omega, Ent.sub ((List.Sublist.refl _).cons _), ?_⟩
    exact ⟨k + 1, _, c5, by omega, rfl, rfl, fun _ => ⟨_, rfl⟩, by rw [hs1, hcv]; rfl⟩
end Go.Proofs.YtdigdmnnjbndlaaGreatDoor
