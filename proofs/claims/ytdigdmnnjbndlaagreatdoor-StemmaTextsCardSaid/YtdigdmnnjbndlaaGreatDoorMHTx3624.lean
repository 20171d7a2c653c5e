/-
  Part 24 of the proof: Aw36, Ls36, Sx36. No statement of the seat is proved here.
-/
import Derived.Test.YtdigdmnnjbndlaaGreatDoorMHTx3623
namespace Go.Proofs.YtdigdmnnjbndlaaGreatDoor
open Go.RowKit
def cmL (par : List (List Int)) (k : Nat) : List Int := ((List.range k).filter (fun i => decide (1 < (par.getD i []).length))).map (fun i : Nat => (i : Int))
theorem cmL_step (par : List (List Int)) (k : Nat) : cmL par (k + 1) = cmL par k ++ if 1 < (par.getD k []).length then [(k : Int)] else [] := by
  unfold cmL
  rw [List.range_succ, List.filter_append, List.map_append]
  congr 1
  by_cases h : 1 < (par.getD k []).length
  · rw [if_pos h, List.filter_cons_of_pos (by simpa using h)]; rfl
  · rw [if_neg h, List.filter_cons_of_neg (by simpa using h)]; rfl
theorem cmL_len (par : List (List Int)) (k : Nat) : (cmL par k).length ≤ k := by
  unfold cmL
  rw [List.length_map]
  exact Nat.le_trans (List.length_filter_le _ _) (by simp)
def cms (s : Stem) : List Int := cmL s.par s.par.length
def CmsR (s : Stem) (u : Value) (L : List Res) : Prop :=
  (stCheck s ≠ 0 ∧ u = .tuple #[.slice none 0 0, .int .i64 1] ∧ L = []) ∨
  (stCheck s = 0 ∧ ∃ a c, u = .tuple #[.slice a (cms s).length c, .int .i64 0] ∧ (0 < (cms s).length → ∃ g, a = some ⟨g, 0, none⟩) ∧ L = [.row 3 1 (.slice a (cms s).length c) (cms s).length (ints (cms s))])
set_option maxRecDepth 100000 in
set_option maxHeartbeats 4000000 in
theorem cms1_sat (v : Value) (xs : List Int) (w : World) (h : Ints w v xs) : SatV Tryz.prog 72 [v] w (.bool (decide (1 < xs.length))) := by
  have hv := h.sl
  refine SatL.of 6 [2] Tryz.func72 (by kernel_rfl) (by kernel_rfl) rfl rfl rfl rfl ?_
  repeat' (first|(apply OK_seq)|(apply thenQ_n)|(apply OK_region)|(apply OKx_nilK)|(apply OK_block)|(apply blockQ_n)|(apply blockQ_s)|(apply thenQ_e)|(apply blockQ_e;exact rfl)|(apply thenQ_r)|(apply blockQ_r)|(apply OK_condT;exact rfl)|(apply OK_condF;exact rfl)|(apply OK_skip)|(apply OK_exit)|(apply OK_ret)|(apply OKx_move;(conv=>lhs;whnf)<;>exact rfl)|(apply OKx_assign;(conv=>lhs;whnf)<;>exact rfl)|(apply OKx_len;exact rfl)|(apply OKx_lenR;(conv=>lhs;whnf)<;>exact rfl;(with_reducible assumption))|(apply OKx_lenR2;(conv=>lhs;whnf)<;>exact rfl;(with_reducible assumption))|(apply OKx_lenO;(conv=>lhs;whnf)<;>exact rfl;(first | exact at0|exact at1|exact at2|exact at3|exact at4|exact at5|exact at6|exact at7))|(apply OKx_gtr;exact rfl;exact rfl;all_goals (intro _; try (exfalso;omega))))
  · refine bodyQ_r1 (by ((conv=>lhs;whnf)<;>exact rfl)) ?_
    exact ⟨_, Ent.nil, bool_eq (decide_eq_true (by omega)).symm, rfl⟩
  · refine bodyQ_r1 (by ((conv=>lhs;whnf)<;>exact rfl)) ?_
    exact ⟨_, Ent.nil, bool_eq (decide_eq_false (by omega)).symm, rfl⟩
set_option maxRecDepth 100000 in
set_option maxHeartbeats 4000000 in
theorem nodesC_sat (v : Value) (s : Stem) (w : World) (h : Stm w v s) : Sat Tryz.prog 71 [v, .func (.func 72) #[] #[]] w (CmsR s) := by
  have hst := h
  obtain ⟨nv, ev, pv, rfl, _, _, hP⟩ := h
  obtain ⟨fv, hpv, hrow⟩ := hP.rows
  have hpb := hpv.bound
  by_cases hc : stCheck s = 0
  rotate_left
  · refine SatL.of 29 [4, 5] Tryz.func71 (by kernel_rfl) (by kernel_rfl) rfl rfl rfl rfl ?_
    repeat' (first|(apply OK_seq)|(apply thenQ_n)|(apply OK_region)|(apply OKx_gc 23;exact rfl; refine OKx_callV (f := 23) rfl rfl rfl (fun w1 hp => stCheck_sat _ s w1 (hst.below hp.below)) ?_)|(apply OKx_nilK)|(apply OK_block)|(apply blockQ_n)|(apply blockQ_s)|(apply thenQ_e)|(apply blockQ_e;exact rfl)|(apply thenQ_r)|(apply blockQ_r)|(apply OK_condT;exact rfl)|(apply OK_condF;exact rfl)|(apply OK_skip)|(apply OK_exit)|(apply OK_ret)|(apply OKx_move;(conv=>lhs;whnf)<;>exact rfl)|(apply OKx_assign;(conv=>lhs;whnf)<;>exact rfl)|(apply OKx_ldB;exact rfl;(first | exact at0|exact at1|exact at2|exact at3|exact at4|exact at5|exact at6|exact at7);exact rfl)|(apply OKx_ldR;(conv=>lhs;whnf)<;>exact rfl;(with_reducible assumption))|(apply OKx_len;exact rfl)|(apply OKx_lenR;(conv=>lhs;whnf)<;>exact rfl;(with_reducible assumption))|(apply OKx_lenR2;(conv=>lhs;whnf)<;>exact rfl;(with_reducible assumption))|(apply OKx_lenO;(conv=>lhs;whnf)<;>exact rfl;(first | exact at0|exact at1|exact at2|exact at3|exact at4|exact at5|exact at6|exact at7))|(apply OKx_lss;exact rfl;exact rfl;all_goals (intro _; try (exfalso;omega)))|(apply OKx_neq;exact rfl;exact rfl;all_goals (intro _; try (exfalso;omega)))|(apply OKx_idxO;exact rfl;exact rfl;omega)|(apply OKx_idxR;(conv=>lhs;whnf)<;>exact rfl;(with_reducible assumption);exact rfl;omega;intro _ _)|(apply OKx_idxOz;exact rfl;exact rfl;omega;omega)|(apply OKx_idxRz;(conv=>lhs;whnf)<;>exact rfl;(with_reducible assumption);exact rfl;omega;omega;intro _ _)|(apply OKx_fldO;exact rfl;exact rfl)|(apply OKx_fldR;(conv=>lhs;whnf)<;>exact rfl;(with_reducible assumption); decide;intro _ _)|(apply OKx_inc;exact rfl;exact rfl;omega)|(apply OKx_addN;exact rfl;exact rfl;omega)|(apply OKx_add;exact rfl;exact rfl;omega;omega)|(apply OKx_boxA;exact rfl;intro _)|(apply OKx_ldBA;exact rfl;(first | exact at0|exact at1|exact at2|exact at3|exact at4|exact at5|exact at6|exact at7);exact rfl)|(apply OKx_ldRA;(conv=>lhs;whnf)<;>exact rfl;(with_reducible assumption))|(apply OKx_slit1;(conv=>lhs;whnf)<;>exact rfl;exact rfl;intro _))
    refine bodyQ_r2 (by ((conv=>lhs;whnf)<;>exact rfl)) (by ((conv=>lhs;whnf)<;>exact rfl)) ?_
    exact ⟨_, Ent.nil, .inl ⟨hc, rfl, rfl⟩⟩
  have hlen := stCheck_len s hc
  refine SatL.of 29 [4, 5] Tryz.func71 (by kernel_rfl) (by kernel_rfl) rfl rfl rfl rfl ?_
  repeat' (first|(apply OK_seq)|(apply thenQ_n)|(apply OK_region)|(apply OKx_gc 23;exact rfl; refine OKx_callV (f := 23) (v := .int .i64 0) rfl rfl rfl (fun w1 hp => by rw [← hc]; exact stCheck_sat _ s w1 (hst.below hp.below)) ?_)|(apply OKx_nilK)|(apply OK_block)|(apply blockQ_n)|(apply blockQ_s)|(apply thenQ_e)|(apply blockQ_e;exact rfl)|(apply thenQ_r)|(apply blockQ_r)|(apply OK_condT;exact rfl)|(apply OK_condF;exact rfl)|(apply OK_skip)|(apply OK_exit)|(apply OK_ret)|(apply OKx_move;(conv=>lhs;whnf)<;>exact rfl)|(apply OKx_assign;(conv=>lhs;whnf)<;>exact rfl)|(apply OKx_ldB;exact rfl;(first | exact at0|exact at1|exact at2|exact at3|exact at4|exact at5|exact at6|exact at7);exact rfl)|(apply OKx_ldR;(conv=>lhs;whnf)<;>exact rfl;(with_reducible assumption))|(apply OKx_len;exact rfl)|(apply OKx_lenR;(conv=>lhs;whnf)<;>exact rfl;(with_reducible assumption))|(apply OKx_lenR2;(conv=>lhs;whnf)<;>exact rfl;(with_reducible assumption))|(apply OKx_lenO;(conv=>lhs;whnf)<;>exact rfl;(first | exact at0|exact at1|exact at2|exact at3|exact at4|exact at5|exact at6|exact at7))|(apply OKx_lss;exact rfl;exact rfl;all_goals (intro _; try (exfalso;omega)))|(apply OKx_neq;exact rfl;exact rfl;all_goals (intro _; try (exfalso;omega)))|(apply OKx_idxO;exact rfl;exact rfl;omega)|(apply OKx_idxR;(conv=>lhs;whnf)<;>exact rfl;(with_reducible assumption);exact rfl;omega;intro _ _)|(apply OKx_idxOz;exact rfl;exact rfl;omega;omega)|(apply OKx_idxRz;(conv=>lhs;whnf)<;>exact rfl;(with_reducible assumption);exact rfl;omega;omega;intro _ _)|(apply OKx_fldO;exact rfl;exact rfl)|(apply OKx_fldR;(conv=>lhs;whnf)<;>exact rfl;(with_reducible assumption); decide;intro _ _)|(apply OKx_inc;exact rfl;exact rfl;omega)|(apply OKx_addN;exact rfl;exact rfl;omega)|(apply OKx_add;exact rfl;exact rfl;omega;omega)|(apply OKx_boxA;exact rfl;intro _)|(apply OKx_ldBA;exact rfl;(first | exact at0|exact at1|exact at2|exact at3|exact at4|exact at5|exact at6|exact at7);exact rfl)|(apply OKx_ldRA;(conv=>lhs;whnf)<;>exact rfl;(with_reducible assumption))|(apply OKx_slit1;(conv=>lhs;whnf)<;>exact rfl;exact rfl;intro _))
  rename_i g2 _
  refine OK_loop2 6 15 [6, 7, 8, 15, 16, 17, 18, 19, 20, 21, 22, 23, 24, 25, 26, 27] (fun m u v L => ∃ (k n : Nat) (a : Option Addr) (c : Nat), k + m = s.par.length ∧ n = (cmL s.par k).length ∧ u = .slice a n c ∧ (0 < n → ∃ g, a = some ⟨g, 0, none⟩) ∧ v = .int .i64 (k : Int) ∧ L = [.row 3 1 (.slice a n c) n (ints (cmL s.par k)), .box 34 g2 [nv, ev, pv]]) s.par.length _ (Ent.mk fun w1 hp => hp.nil 3 1) ⟨0, 0, none, 0, by omega, rfl, rfl, fun h => absurd h (by omega), rfl, rfl⟩ ?_
  rintro m u v L G ⟨k, n, a, c, hm, hn, rfl, ha, rfl, rfl⟩
  by_cases hk : k < s.par.length
  rotate_left
  · obtain rfl : k = s.par.length := by omega
    subst hn
    repeat' (first|(apply OK_seq)|(apply thenQ_n)|(apply OK_region)|(apply OKx_nilK)|(apply OK_block)|(apply blockQ_n)|(apply blockQ_s)|(apply thenQ_e)|(apply blockQ_e;exact rfl)|(apply thenQ_r)|(apply blockQ_r)|(apply OK_condT;exact rfl)|(apply OK_condF;exact rfl)|(apply OK_skip)|(apply OK_exit)|(apply OK_ret)|(apply OKx_move;(conv=>lhs;whnf)<;>exact rfl)|(apply OKx_assign;(conv=>lhs;whnf)<;>exact rfl)|(apply OKx_ldB;exact rfl;(first | exact at0|exact at1|exact at2|exact at3|exact at4|exact at5|exact at6|exact at7);exact rfl)|(apply OKx_ldR;(conv=>lhs;whnf)<;>exact rfl;(with_reducible assumption))|(apply OKx_len;exact rfl)|(apply OKx_lenR;(conv=>lhs;whnf)<;>exact rfl;(with_reducible assumption))|(apply OKx_lenR2;(conv=>lhs;whnf)<;>exact rfl;(with_reducible assumption))|(apply OKx_lenO;(conv=>lhs;whnf)<;>exact rfl;(first | exact at0|exact at1|exact at2|exact at3|exact at4|exact at5|exact at6|exact at7))|(apply OKx_lss;exact rfl;exact rfl;all_goals (intro _; try (exfalso;omega)))|(apply OKx_neq;exact rfl;exact rfl;all_goals (intro _; try (exfalso;omega)))|(apply OKx_idxO;exact rfl;exact rfl;omega)|(apply OKx_idxR;(conv=>lhs;whnf)<;>exact rfl;(with_reducible assumption);exact rfl;omega;intro _ _)|(apply OKx_idxOz;exact rfl;exact rfl;omega;omega)|(apply OKx_idxRz;(conv=>lhs;whnf)<;>exact rfl;(with_reducible assumption);exact rfl;omega;omega;intro _ _)|(apply OKx_fldO;exact rfl;exact rfl)|(apply OKx_fldR;(conv=>lhs;whnf)<;>exact rfl;(with_reducible assumption); decide;intro _ _)|(apply OKx_inc;exact rfl;exact rfl;omega)|(apply OKx_addN;exact rfl;exact rfl;omega)|(apply OKx_add;exact rfl;exact rfl;omega;omega)|(apply OKx_boxA;exact rfl;intro _)|(apply OKx_ldBA;exact rfl;(first | exact at0|exact at1|exact at2|exact at3|exact at4|exact at5|exact at6|exact at7);exact rfl)|(apply OKx_ldRA;(conv=>lhs;whnf)<;>exact rfl;(with_reducible assumption))|(apply OKx_slit1;(conv=>lhs;whnf)<;>exact rfl;exact rfl;intro _))
    refine bodyQ_r2 (by ((conv=>lhs;whnf)<;>exact rfl)) (by ((conv=>lhs;whnf)<;>exact rfl)) ?_
    exact ⟨_, Ent.pick [0] rfl, .inr ⟨hc, a, c, rfl, ha, rfl⟩⟩
  have hs := cmL_step s.par k
  have hle := cmL_len s.par k
  have hrk := hrow k
  generalize hys : cmL s.par k = ys at *
  by_cases hz : 1 < (s.par.getD k []).length
  · rw [if_pos hz] at hs
    repeat' (first|(apply OK_seq)|(apply thenQ_n)|(apply OK_region)|(apply OKx_gc 72;exact rfl; refine OKx_callV (f := 72) (v := .bool true) rfl rfl rfl (fun w1 hp => by have := cms1_sat _ _ w1 (hrk.below hp.below); rwa [decide_eq_true hz] at this) ?_)|(apply OKx_gb; refine OKx_appI 1 0 rfl rfl rfl rfl (by omega) (by omega) ?_; intro g5 c5)|(apply OKx_nilK)|(apply OK_block)|(apply blockQ_n)|(apply blockQ_s)|(apply thenQ_e)|(apply blockQ_e;exact rfl)|(apply thenQ_r)|(apply blockQ_r)|(apply OK_condT;exact rfl)|(apply OK_condF;exact rfl)|(apply OK_skip)|(apply OK_exit)|(apply OK_ret)|(apply OKx_move;(conv=>lhs;whnf)<;>exact rfl)|(apply OKx_assign;(conv=>lhs;whnf)<;>exact rfl)|(apply OKx_ldB;exact rfl;(first | exact at0|exact at1|exact at2|exact at3|exact at4|exact at5|exact at6|exact at7);exact rfl)|(apply OKx_ldR;(conv=>lhs;whnf)<;>exact rfl;(with_reducible assumption))|(apply OKx_len;exact rfl)|(apply OKx_lenR;(conv=>lhs;whnf)<;>exact rfl;(with_reducible assumption))|(apply OKx_lenR2;(conv=>lhs;whnf)<;>exact rfl;(with_reducible assumption))|(apply OKx_lenO;(conv=>lhs;whnf)<;>exact rfl;(first | exact at0|exact at1|exact at2|exact at3|exact at4|exact at5|exact at6|exact at7))|(apply OKx_lss;exact rfl;exact rfl;all_goals (intro _; try (exfalso;omega)))|(apply OKx_neq;exact rfl;exact rfl;all_goals (intro _; try (exfalso;omega)))|(apply OKx_idxO;exact rfl;exact rfl;omega)|(apply OKx_idxR;(conv=>lhs;whnf)<;>exact rfl;(with_reducible assumption);exact rfl;omega;intro _ _)|(apply OKx_idxOz;exact rfl;exact rfl;omega;omega)|(apply OKx_idxRz;(conv=>lhs;whnf)<;>exact rfl;(with_reducible assumption);exact rfl;omega;omega;intro _ _)|(apply OKx_fldO;exact rfl;exact rfl)|(apply OKx_fldR;(conv=>lhs;whnf)<;>exact rfl;(with_reducible assumption); decide;intro _ _)|(apply OKx_inc;exact rfl;exact rfl;omega)|(apply OKx_addN;exact rfl;exact rfl;omega)|(apply OKx_add;exact rfl;exact rfl;omega;omega)|(apply OKx_boxA;exact rfl;intro _)|(apply OKx_ldBA;exact rfl;(first | exact at0|exact at1|exact at2|exact at3|exact at4|exact at5|exact at6|exact at7);exact rfl)|(apply OKx_ldRA;(conv=>lhs;whnf)<;>exact rfl;(with_reducible assumption))|(apply OKx_slit1;(conv=>lhs;whnf)<;>exact rfl;exact rfl;intro _))
    refine ⟨by (repeat' (first | refine agree_upd rfl ?_ | exact agree_over | exact agree_refl _ _ | refine agree_over2 rfl ?_)), m - 1, _, by omega, Ent.pick [1, 2] rfl, ?_⟩
    exact ⟨k + 1, n + 1, _, c5, by omega, by rw [hs, List.length_append, hn]; rfl, rfl, fun _ => ⟨_, rfl⟩, rfl, by rw [hs]; rfl⟩
  · rw [if_neg hz, List.append_nil] at hs
    repeat' (first|(apply OK_seq)|(apply thenQ_n)|(apply OK_region)|(apply OKx_gc 72;exact rfl; refine OKx_callV (f := 72) (v := .bool false) rfl rfl rfl (fun w1 hp => by have := cms1_sat _ _ w1 (hrk.below hp.below); rwa [decide_eq_false hz] at this) ?_)|(apply OKx_nilK)|(apply OK_block)|(apply blockQ_n)|(apply blockQ_s)|(apply thenQ_e)|(apply blockQ_e;exact rfl)|(apply thenQ_r)|(apply blockQ_r)|(apply OK_condT;exact rfl)|(apply OK_condF;exact rfl)|(apply OK_skip)|(apply OK_exit)|(apply OK_ret)|(apply OKx_move;(conv=>lhs;whnf)<;>exact rfl)|(apply OKx_assign;(conv=>lhs;whnf)<;>exact rfl)|(apply OKx_ldB;exact rfl;(first | exact at0|exact at1|exact at2|exact at3|exact at4|exact at5|exact at6|exact at7);exact rfl)|(apply OKx_ldR;(conv=>lhs;whnf)<;>exact rfl;(with_reducible assumption))|(apply OKx_len;exact rfl)|(apply OKx_lenR;(conv=>lhs;whnf)<;>exact rfl;(with_reducible assumption))|(apply OKx_lenR2;(conv=>lhs;whnf)<;>exact rfl;(with_reducible assumption))|(apply OKx_lenO;(conv=>lhs;whnf)<;>exact rfl;(first | exact at0|exact at1|exact at2|exact at3|exact at4|exact at5|exact at6|exact at7))|(apply OKx_lss;exact rfl;exact rfl;all_goals (intro _; try (exfalso;omega)))|(apply OKx_neq;exact rfl;exact rfl;all_goals (intro _; try (exfalso;omega)))|(apply OKx_idxO;exact rfl;exact rfl;omega)|(apply OKx_idxR;(conv=>lhs;whnf)<;>exact rfl;(with_reducible assumption);exact rfl;omega;intro _ _)|(apply OKx_idxOz;exact rfl;exact rfl;omega;omega)|(apply OKx_idxRz;(conv=>lhs;whnf)<;>exact rfl;(with_reducible assumption);exact rfl;omega;omega;intro _ _)|(apply OKx_fldO;exact rfl;exact rfl)|(apply OKx_fldR;(conv=>lhs;whnf)<;>exact rfl;(with_reducible assumption); decide;intro _ _)|(apply OKx_inc;exact rfl;exact rfl;omega)|(apply OKx_addN;exact rfl;exact rfl;omega)|(apply OKx_add;exact rfl;exact rfl;omega;omega)|(apply OKx_boxA;exact rfl;intro _)|(apply OKx_ldBA;exact rfl;(first | exact at0|exact at1|exact at2|exact at3|exact at4|exact at5|exact at6|exact at7);exact rfl)|(apply OKx_ldRA;(conv=>lhs;whnf)<;>exact rfl;(with_reducible assumption))|(apply OKx_slit1;(conv=>lhs;whnf)<;>exact rfl;exact rfl;intro _))
    refine ⟨by (repeat' (first | refine agree_upd rfl ?_ | exact agree_over | exact agree_refl _ _ | refine agree_over2 rfl ?_)), m - 1, _, by omega, Ent.refl _ _, ?_⟩
    exact ⟨k + 1, n, a, c, by omega, by rw [hs]; exact hn, rfl, ha, rfl, by rw [hs]⟩
set_option maxRecDepth 100000 in
set_option maxHeartbeats 4000000 in
theorem Cont_sat (v : Value) (s : Stem) (w : World) (h : Stm w v s) : Sat Tryz.prog 30 [v] w (CmsR s) := by
  have hst := h
  obtain ⟨nv, ev, pv, rfl, _, _, _⟩ := h
  refine SatL.of 8 [2, 3] Tryz.func30 (by kernel_rfl) (by kernel_rfl) rfl rfl rfl rfl ?_
  repeat' (first|(apply OK_seq)|(apply thenQ_n)|(apply OK_region)|(apply OKx_gc 71;exact rfl; refine OKx_call (f := 71) rfl rfl (fun w1 hp => nodesC_sat _ s w1 (hst.below hp.below)) ?_; rintro _ _ (⟨h1, rfl, rfl⟩ | ⟨h1, a, c, rfl, ha, rfl⟩))|(apply OKx_nilK)|(apply OK_block)|(apply blockQ_n)|(apply blockQ_s)|(apply thenQ_e)|(apply blockQ_e;exact rfl)|(apply thenQ_r)|(apply blockQ_r)|(apply OK_condT;exact rfl)|(apply OK_condF;exact rfl)|(apply OK_skip)|(apply OK_exit)|(apply OK_ret)|(apply OKx_assign;(conv=>lhs;whnf)<;>exact rfl)|(apply OKx_extract;exact rfl;(conv=>lhs;whnf)<;>exact rfl)|(apply OKx_boxA;exact rfl;intro _)|(apply OKx_ldBA;exact rfl;(first | exact at0|exact at1|exact at2|exact at3|exact at4|exact at5|exact at6|exact at7);exact rfl)|(apply OKx_ldRA;(conv=>lhs;whnf)<;>exact rfl;(with_reducible assumption)))
  · refine bodyQ_r2 (by ((conv=>lhs;whnf)<;>exact rfl)) (by ((conv=>lhs;whnf)<;>exact rfl)) ?_
    exact ⟨_, Ent.nil, .inl ⟨h1, rfl, rfl⟩⟩
  · refine bodyQ_r2 (by ((conv=>lhs;whnf)<;>exact rfl)) (by ((conv=>lhs;whnf)<;>exact rfl)) ?_
    exact ⟨_, Ent.pick [0] rfl, .inr ⟨h1, a, c, rfl, ha, rfl⟩⟩
abbrev tx36 : ByteArray := ⟨#[120, 32, 108, 111, 115, 116, 10, 65, 32, 101, 120, 116, 97, 110, 116, 32, 102, 114, 111, 109, 32, 120, 10, 66, 32, 101, 120, 116, 97, 110, 116, 32, 102, 114, 111, 109, 32, 120, 10, 67, 32, 101, 120, 116, 97, 110, 116, 32, 102, 114, 111, 109, 32, 65, 32, 66, 10]⟩
abbrev ty36 : ByteArray := ⟨#[120, 32, 108, 111, 115, 116, 10, 66, 32, 101, 120, 116, 97, 110, 116, 32, 102, 114, 111, 109, 32, 120, 10, 67, 32, 101, 120, 116, 97, 110, 116, 32, 102, 114, 111, 109, 32, 120, 32, 66, 10]⟩
theorem tx36E : psE tx36 = 0 := by decide +kernel
theorem tx36R : rts (psS tx36) = [0] := by decide +kernel
theorem tx36C : cms (psS tx36) = [3] := by decide +kernel
theorem tx36L : (psS tx36).names.length = 4 := by decide +kernel
theorem srtK_compact36 (xs : List Int) (h : ∀ x ∈ xs, 0 ≤ x ∧ x < 64) : srtK xs 64 = Lib.compact (srtL xs) := by
  refine asc_ext _ _ (srtK_asc _ _) (compact_asc _ (srtL_le _)) fun x => ?_
  rw [srtK_mem, compact_mem, srtL_mem]
  exact ⟨fun h => h.1, fun hx => ⟨hx, (h x hx).1, by have := (h x hx).2;omega⟩⟩
theorem tx36K : kpt 1 (psS tx36).names.length = [0, 2, 3] := by decide +kernel
theorem tx36B : ∀ k ∈ [0, 2, 3], ∀ x ∈ expL ((psS tx36).par.getD 1 []) 1 ((psS tx36).par.getD k []), 0 ≤ x ∧ x < 64 := by decide +kernel
theorem tx36M : remS (psS tx36) 1 = ⟨[⟨#[120]⟩, ⟨#[66]⟩, ⟨#[67]⟩], [false, true, true], [[], [0], [0, 1]]⟩ := by
  have e1 : [0, 2, 3].map (fun k => (psS tx36).names.getD k ByteArray.empty) = [⟨#[120]⟩, ⟨#[66]⟩, ⟨#[67]⟩] := by decide +kernel
  have e2 : [0, 2, 3].map (fun k => (psS tx36).ext.getD k false) = [false, true, true] := by decide +kernel
  have e3 : [0, 2, 3].map (fun k => (srtK (expL ((psS tx36).par.getD 1 []) 1 ((psS tx36).par.getD k [])) 64).map (decI 1)) = [[], [0], [0, 1]] := by decide +kernel
  have e4 : [0, 2, 3].map (remL (psS tx36) 1) = [0, 2, 3].map (fun k => (srtK (expL ((psS tx36).par.getD 1 []) 1 ((psS tx36).par.getD k [])) 64).map (decI 1)) := by
    apply List.map_congr_left
    intro k hk
    unfold remL remC
    rw [srtK_compact36 _ (tx36B k hk)]
  unfold remS
  rw [tx36K, e1, e2, e4, e3]
theorem tx36P : prE (remS (psS tx36) 1) = 0 ∧ prT (remS (psS tx36) 1) = ty36.data.toList := by
  rw [tx36M]
  decide +kernel
theorem tx36I : chkI (psS tx36) 1 = 0 := by decide +kernel
set_option maxRecDepth 100000 in
set_option maxHeartbeats 4000000 in
theorem PaA_sat (w : World) (hm : MxL w) : Sat Tryz.prog 18 [.string tx36] w (fun u Z => ∃ a b c d e f g h i, u = .tuple #[.agg #[.slice a b c, .slice d e f, .slice g h i], .int .i64 0] ∧ ∀ w0 w, Hp w0.heap.size w0 w Z → Stm w (.agg #[.slice a b c, .slice d e f, .slice g h i]) (psS tx36)) :=
  (Parse_sat tx36 w hm).mono fun u L h => by
    rcases h with ⟨h, _⟩ | ⟨_, na, nc, ea, ec, pa, pc, h1, h2⟩
    · exact absurd tx36E h
    · exact ⟨_, _, _, _, _, _, _, _, _, h1, h2⟩
set_option maxRecDepth 100000 in
set_option maxHeartbeats 4000000 in
theorem RtA_sat (v : Value) (w : World) (h : Stm w v (psS tx36)) : Sat Tryz.prog 31 [v] w (fun u L => ∃ a c, u = .tuple #[.slice a 1 c, .int .i64 0] ∧ L = [.row 3 1 (.slice a 1 c) 1 (ints [0])]) :=
  (Roots_sat v _ w h).mono fun u L h => by
    rcases h with ⟨h, _⟩ | ⟨_, a, c, h1, _, h2⟩
    · exact absurd (psE_parts tx36E).2.2.2 h
    · rw [tx36R] at h1 h2
      exact ⟨a, c, h1, h2⟩
set_option maxRecDepth 100000 in
set_option maxHeartbeats 4000000 in
theorem CmA_sat (v : Value) (w : World) (h : Stm w v (psS tx36)) : Sat Tryz.prog 30 [v] w (fun u L => ∃ a c, u = .tuple #[.slice a 1 c, .int .i64 0] ∧ L = [.row 3 1 (.slice a 1 c) 1 (ints [3])]) :=
  (Cont_sat v _ w h).mono fun u L h => by
    rcases h with ⟨h, _⟩ | ⟨_, a, c, h1, _, h2⟩
    · exact absurd (psE_parts tx36E).2.2.2 h
    · rw [tx36C] at h1 h2
      exact ⟨a, c, h1, h2⟩
set_option maxRecDepth 100000 in
set_option maxHeartbeats 4000000 in
theorem RmA_sat (v : Value) (w : World) (h : Stm w v (psS tx36)) : Sat Tryz.prog 56 [v, .int .i64 1] w (fun u Z => ∃ a b c d e f g h i, u = .tuple #[.agg #[.slice a b c, .slice d e f, .slice g h i], .int .i64 0] ∧ ∀ w0 w, Hp w0.heap.size w0 w Z → Stm w (.agg #[.slice a b c, .slice d e f, .slice g h i]) (remS (psS tx36) 1)) :=
  (Rem_sat v _ 1 w h).mono fun u L h => by
    rcases h with ⟨h, _⟩ | ⟨_, h, _⟩ | ⟨_, _, na, nc, ea, ec, pa, pc, h1, h2⟩
    · exact absurd tx36I h
    · rw [tx36L] at h;omega
    · exact ⟨_, _, _, _, _, _, _, _, _, h1, h2⟩
set_option maxRecDepth 100000 in
set_option maxHeartbeats 4000000 in
theorem PrA_sat (v : Value) (w : World) (h : Stm w v (remS (psS tx36) 1)) : SatV Tryz.prog 20 [v] w (.tuple #[.string ty36, .int .i64 0]) := by
  have := Print_sat v _ w h
  unfold prV at this
  rw [tx36P.1, if_pos rfl, tx36P.2] at this
  exact this
set_option maxRecDepth 100000 in
set_option maxHeartbeats 4000000 in
theorem awake36_sat (w : World) (hm : MxL w) : SatV Tryz.prog 17 [] w (.bool true) := by
  refine SatL.of 56 [0] Tryz.func17 (by kernel_rfl) (by kernel_rfl) rfl rfl rfl rfl ?_
  repeat' (first|(apply OK_seq)|(apply thenQ_n)|(apply OK_region)|(apply OKx_gb; refine OKx_max5 (r := 0) rfl rfl rfl rfl rfl (by decide) ?_)|(apply OKx_gc 18;exact rfl; refine OKx_call (f := 18) rfl rfl (fun w1 hp => PaA_sat w1 (hm.below hp.below)) ?_; rintro _ Z ⟨sa1, sa2, sa3, sb1, sb2, sb3, sc1, sc2, sc3, rfl, hZ⟩)|(apply OKx_gc 31;exact rfl; refine OKx_call (f := 31) rfl rfl (fun w1 hp => RtA_sat _ w1 (hZ w w1 (hp.sub (by repeat (first | exact List.Sublist.refl _ | exact List.sublist_append_left _ _ | apply List.Sublist.cons))))) ?_; rintro _ _ ⟨ra, rc, rfl, rfl⟩; rw [List.cons_append, List.nil_append])|(apply OKx_gc 30;exact rfl; refine OKx_call (f := 30) rfl rfl (fun w1 hp => CmA_sat _ w1 (hZ w w1 (hp.sub (by repeat (first | exact List.Sublist.refl _ | exact List.sublist_append_left _ _ | apply List.Sublist.cons))))) ?_; rintro _ _ ⟨ca, cc, rfl, rfl⟩; rw [List.cons_append, List.nil_append])|(apply OKx_gc 56;exact rfl; refine OKx_call (f := 56) rfl rfl (fun w1 hp => RmA_sat _ w1 (hZ w w1 (hp.sub (by repeat (first | exact List.Sublist.refl _ | exact List.sublist_append_left _ _ | apply List.Sublist.cons))))) ?_; rintro _ Z2 ⟨ta1, ta2, ta3, tb1, tb2, tb3, tc1, tc2, tc3, rfl, hZ2⟩; refine OKx_ent (Ent.perm List.perm_append_comm) ?_; simp only [List.set_cons_zero, List.cons_append])|(apply OKx_gc 20;exact rfl; refine OKx_callV (f := 20) rfl rfl rfl (fun w1 hp => PrA_sat _ w1 (hZ2 w w1 (hp.sub (((((List.sublist_append_right _ Z2).cons _).cons _).cons _).cons _)))) ?_)|(apply OKx_gc 33;exact rfl; refine OKx_callV (f := 33) (v := .bool true) rfl rfl rfl (fun w1 hp => equalT_sat (.slice ra 1 rc) _ [0] [0] w1 (hp.ints 3 rfl (by decide)) (hp.ints 0 rfl (by decide)) rfl) ?_)|(apply OKx_gc 33;exact rfl; refine OKx_callV (f := 33) (v := .bool true) rfl rfl rfl (fun w1 hp => equalT_sat (.slice ca 1 cc) _ [3] [3] w1 (hp.ints 3 rfl (by decide)) (hp.ints 0 rfl (by decide)) rfl) ?_)|(apply OKx_nilK)|(apply OK_block)|(apply blockQ_n)|(apply blockQ_s)|(apply thenQ_e)|(apply blockQ_e;exact rfl)|(apply thenQ_r)|(apply blockQ_r)|(apply OK_condT;exact rfl)|(apply OK_condF;exact rfl)|(apply OK_skip)|(apply OK_exit)|(apply OK_ret)|(apply OKx_move;(conv=>lhs;whnf)<;>exact rfl)|(apply OKx_assign;(conv=>lhs;whnf)<;>exact rfl)|(apply OKx_eql;exact rfl;exact rfl;all_goals (intro _; try (exfalso;omega)))|(apply OKx_seql;exact rfl;exact rfl; all_goals intro _)|(apply OKx_max;exact rfl;exact rfl)|(apply OKx_pickT;exact rfl;(conv=>lhs;whnf)<;>exact rfl)|(apply OKx_pickF;exact rfl;(conv=>lhs;whnf)<;>exact rfl)|(apply OKx_guardT;exact rfl;exact rfl)|(apply OKx_guardF;exact rfl;exact rfl)|(apply OKx_guardU;exact rfl;exact rfl)|(apply OKx_extract;exact rfl;(conv=>lhs;whnf)<;>exact rfl)|(apply OKx_allocA;intro _)|(apply OKx_ldBA;exact rfl;(first | exact at0|exact at1|exact at2|exact at3|exact at4|exact at5|exact at6|exact at7);exact rfl)|(apply OKx_ldRA;(conv=>lhs;whnf)<;>exact rfl;(with_reducible assumption))|(apply OKx_slit1;(conv=>lhs;whnf)<;>exact rfl;exact rfl;intro _)|(apply OKx_stBA; kernel_rfl;exact rfl;exact rfl;exact rfl;(first | exact at0|exact at1|exact at2|exact at3|exact at4|exact at5|exact at6|exact at7);exact rfl;exact rfl;exact rfl))
  · refine bodyQ_r1 (by ((conv=>lhs;whnf)<;>exact rfl)) ?_
    exact ⟨_, Ent.nil, rfl, rfl⟩
  · rename_i hs
    exact absurd rfl hs
end Go.Proofs.YtdigdmnnjbndlaaGreatDoor
namespace Go.Proofs.YtdigdmnnjbndlaaGreatDoor
open Go.RowKit
def IntQ (e : Int) (xs : List Int) (u : Value) (L : List Res) : Prop := ∃ v, u = .tuple #[v, .int .i64 e] ∧ ∀ w0 w, Hp w0.heap.size w0 w L → Ints w v xs
def StmQ (wb : World) (e : Int) (s : Stem) (u : Value) (L : List Res) : Prop := ∃ a n c a' n' c' a'' n'' c'', u = .tuple #[.agg #[.slice a n c, .slice a' n' c', .slice a'' n'' c''], .int .i64 e] ∧ ∀ w, Hp wb.heap.size wb w L → Stm w (.agg #[.slice a n c, .slice a' n' c', .slice a'' n'' c'']) s
def TriQ (wb : World) (e : Int) (t : Tre) (u : Value) (L : List Res) : Prop := ∃ a n c d k f, u = .tuple #[.agg #[.slice a n c, .slice d k f], .int .i64 e] ∧ ∀ w, Hp wb.heap.size wb w L → Tri w (.agg #[.slice a n c, .slice d k f]) t
theorem slNil (w : World) (f : Nat → Value) : Sl w (.slice none 0 0) 1 0 f := ⟨by omega, ⟨none, 0, rfl, .inl rfl⟩, fun a m c e => by cases e; exact Nat.le_refl _⟩
theorem Stm.nils (w : World) : Stm w (.agg #[.slice none 0 0, .slice none 0 0, .slice none 0 0]) ⟨[], [], []⟩ :=
  ⟨_, _, _, rfl, ⟨slNil w _, fun s hs => absurd hs (by simp)⟩, slNil w _, ⟨[], slNil w _, rfl, fun j hj => absurd hj (by simp)⟩⟩
theorem Tri.nils (w : World) : Tri w (.agg #[.slice none 0 0, .slice none 0 0]) ⟨[], []⟩ :=
  ⟨_, _, rfl, Ints.nil w, ⟨slNil w _, fun s hs => absurd hs (by simp)⟩⟩
theorem RtsR.q {s : Stem} {u : Value} {L : List Res} (h : RtsR s u L) : IntQ (if stCheck s = 0 then 0 else 1) (if stCheck s = 0 then rts s else []) u L := by
  rcases h with ⟨h, rfl, rfl⟩ | ⟨h, a, c, rfl, _, rfl⟩
  · rw [if_neg h, if_neg h]; exact ⟨_, rfl, fun _ w _ => Ints.nil w⟩
  · rw [if_pos h, if_pos h]
    have hl := stCheck_len s h
    have : (rts s).length ≤ s.par.length := rtL_len s.par s.par.length
    exact ⟨_, rfl, fun _ w hp => hp.ints 0 rfl (by omega)⟩
theorem CmsR.q {s : Stem} {u : Value} {L : List Res} (h : CmsR s u L) : IntQ (if stCheck s = 0 then 0 else 1) (if stCheck s = 0 then cms s else []) u L := by
  rcases h with ⟨h, rfl, rfl⟩ | ⟨h, a, c, rfl, _, rfl⟩
  · rw [if_neg h, if_neg h]; exact ⟨_, rfl, fun _ w _ => Ints.nil w⟩
  · rw [if_pos h, if_pos h]
    have hl := stCheck_len s h
    have : (cms s).length ≤ s.par.length := cmL_len s.par s.par.length
    exact ⟨_, rfl, fun _ w hp => hp.ints 0 rfl (by omega)⟩
theorem DscR.q {s : Stem} {i : Int} {u : Value} {L : List Res} (h : DscR s i u L) : IntQ (chkI s i) (if chkI s i = 0 then dsnL s.par i.toNat s.par.length else []) u L := by
  rcases h with ⟨h, rfl, rfl⟩ | ⟨h, a, n, c, hn, rfl, _, rfl⟩
  · rw [if_neg h]; exact ⟨_, rfl, fun _ w _ => Ints.nil w⟩
  · rw [if_pos h, h]
    have hl := stCheck_len s (chkI_zero h).1
    have := dsnL_len s.par i.toNat s.par.length
    exact ⟨_, rfl, fun _ w hp => hp.ints 0 rfl (by omega)⟩
def remE (s : Stem) (i : Int) : Int := if chkI s i ≠ 0 then chkI s i else if s.names.length = 1 then 5 else 0
def remQ (s : Stem) (i : Int) : Stem := if remE s i = 0 then remS s i.toNat else ⟨[], [], []⟩
theorem RemR.q {s : Stem} {i : Int} {u : Value} {L : List Res} (wb : World) (h : RemR s i u L) : StmQ wb (remE s i) (remQ s i) u L := by
  rcases h with ⟨h, rfl, rfl⟩ | ⟨h, h1, rfl, rfl⟩ | ⟨h, h1, na, nc, ea, ec, pa, pc, rfl, h2⟩
  · have e : remE s i = chkI s i := if_pos h
    have e2 : remQ s i = ⟨[], [], []⟩ := if_neg (by rw [e]; exact h)
    rw [e, e2]
    exact ⟨_, _, _, _, _, _, _, _, _, rfl, fun w _ => Stm.nils w⟩
  · have e : remE s i = 5 := by unfold remE; rw [if_neg (by rw [h]; simp), if_pos h1]
    have e2 : remQ s i = ⟨[], [], []⟩ := if_neg (by rw [e]; decide)
    rw [e, e2]
    exact ⟨_, _, _, _, _, _, _, _, _, rfl, fun w _ => Stm.nils w⟩
  · have e : remE s i = 0 := by unfold remE; rw [if_neg (by rw [h]; simp), if_neg (by omega)]
    have e2 : remQ s i = remS s i.toNat := if_pos e
    rw [e, e2]
    exact ⟨_, _, _, _, _, _, _, _, _, rfl, fun w hp => h2 _ w hp⟩
theorem ExtR.q {s : Stem} {c p : Int} {wb : World} {u : Value} {L : List Res} (h : ExtR s c p wb u L) : StmQ wb (extE s c p) (if extE s c p = 0 then extS s c p else ⟨[], [], []⟩) u L := by
  rcases h with ⟨h, rfl, rfl⟩ | ⟨h, na, nc, ea, ec, pa, pc, rfl, h2⟩
  · rw [if_neg h]
    exact ⟨_, _, _, _, _, _, _, _, _, rfl, fun w _ => Stm.nils w⟩
  · rw [if_pos h, h]
    exact ⟨_, _, _, _, _, _, _, _, _, rfl, h2⟩
open Classical in
noncomputable def triE (s : Stem) : Int := if stCheck s ≠ 0 then 1 else if treOk s then 0 else 8
open Classical in
noncomputable def triT (s : Stem) : Tre := if triE s = 0 then ⟨treP s s.names.length, treN s s.names.length⟩ else ⟨[], []⟩
theorem TreR.q {s : Stem} {u : Value} {L : List Res} (wb : World) (hn : ∀ x ∈ s.names, x.size ≤ 140737488355328) (h : TreR s u L) : TriQ wb (triE s) (triT s) u L := by
  rcases h with ⟨h, rfl, rfl⟩ | ⟨h, h1, rfl, rfl⟩ | ⟨h, h1, a, c, d, e, rfl, rfl⟩
  · have e1 : triE s = 1 := if_pos h
    have e2 : triT s = ⟨[], []⟩ := if_neg (by rw [e1]; decide)
    rw [e1, e2]
    exact ⟨_, _, _, _, _, _, rfl, fun w _ => Tri.nils w⟩
  · have e1 : triE s = 8 := by unfold triE; rw [if_neg (by rw [h]; simp), if_neg h1]
    have e2 : triT s = ⟨[], []⟩ := if_neg (by rw [e1]; decide)
    rw [e1, e2]
    exact ⟨_, _, _, _, _, _, rfl, fun w _ => Tri.nils w⟩
  · have e1 : triE s = 0 := by unfold triE; rw [if_neg (by rw [h]; simp), if_pos h1]
    have e2 : triT s = ⟨treP s s.names.length, treN s s.names.length⟩ := if_pos e1
    have hl := stCheck_len s h
    rw [e1, e2]
    refine ⟨_, _, _, _, _, _, rfl, fun w hp => ⟨_, _, rfl, hp.ints 1 rfl (by omega), hp.strs 0 rfl (by omega) fun x hx => ?_⟩⟩
    obtain ⟨i, hi, rfl⟩ := List.mem_map.1 hx
    rw [List.mem_range] at hi
    split
    · decide
    · exact hn _ (getD_mem s.names i _ hi)
end Go.Proofs.YtdigdmnnjbndlaaGreatDoor
namespace Go.Proofs.YtdigdmnnjbndlaaGreatDoor
open Go.RowKit
theorem PrsR.q {t : ByteArray} {u : Value} {L : List Res} (wb : World) (h : PrsR t u L) : StmQ wb (psE t) (if psE t = 0 then psS t else ⟨[], [], []⟩) u L := by
  rcases h with ⟨h, rfl, rfl⟩ | ⟨h, na, nc, ea, ec, pa, pc, rfl, h2⟩
  · rw [if_neg h]
    exact ⟨_, _, _, _, _, _, _, _, _, rfl, fun w _ => Stm.nils w⟩
  · rw [if_pos h, h]
    exact ⟨_, _, _, _, _, _, _, _, _, rfl, fun w hp => h2 _ w hp⟩
theorem FtrR.q {t : Tre} {u : Value} {L : List Res} (wb : World) (h : FtrR t u L) : StmQ wb (ftE t) (if ftE t = 0 then ftS t else ⟨[], [], []⟩) u L := by
  rcases h with ⟨h, rfl, rfl⟩ | ⟨h, na, nc, ea, ec, pa, pc, rfl, h2⟩
  · rw [if_neg h]
    exact ⟨_, _, _, _, _, _, _, _, _, rfl, fun w _ => Stm.nils w⟩
  · rw [if_pos h, h]
    exact ⟨_, _, _, _, _, _, _, _, _, rfl, fun w hp => h2 _ w hp⟩
set_option maxRecDepth 100000 in
set_option maxHeartbeats 4000000 in
theorem StemmaTexts_sat (v tv : Value) (s : Stem) (tx : ByteArray) (t : Tre) (w : World) (h : Stm w v s) (htx : tx.size ≤ 140737488355328) (ht : Tri w tv t) (hm : MxL w) : SatV Tryz.prog 4 [v, .string tx, tv] w (.bool true) := by
  have hst := h
  have htr := ht
  obtain ⟨nv, ev, pv, rfl, hN, hE, hP⟩ := h
  obtain ⟨qv, mv, rfl, hQ, hM⟩ := ht
  obtain ⟨tl, rfl⟩ : ∃ tl, tx = bOf tl := ⟨tx.data.toList, (bOf_data tx).symm⟩
  have hg1 := fun w1 (hb : Below w.heap.size w w1) => Great36_sat _ s 10 w1 (hst.below hb)
  have hg2 := fun w1 (hb : Below w.heap.size w w1) => Great31_sat _ t 18 w1 (htr.below hb)
  cases hgA : great36 s 10 <;> rw [hgA] at hg1
  rotate_left
  · refine SatL.of 99 [6] Tryz.func4 (by kernel_rfl) (by kernel_rfl) rfl rfl rfl rfl ?_
    repeat' (first|(apply OK_seq)|(apply thenQ_n)|(apply OK_region)|(apply OKx_gc 16;exact rfl; refine OKx_callV (f := 16) rfl rfl rfl (fun w1 hp => hg1 w1 hp.below) ?_)|(apply OKx_gc 7;exact rfl; refine OKx_callV (f := 7) rfl rfl rfl (fun w1 hp => hg2 w1 hp.below) ?_)|(apply OKx_gc 17;exact rfl; refine OKx_callV (f := 17) rfl rfl rfl (fun w1 hp => awake36_sat w1 (hm.below hp.below)) ?_)|(refine OK_rid 9 ?_; refine OK_quiet (id := 9) (by kernel_rfl) (by kernel_rfl) ?_)|(apply OKx_nilK)|(apply OK_block)|(apply blockQ_n)|(apply blockQ_s)|(apply thenQ_e)|(apply blockQ_e;exact rfl)|(apply thenQ_r)|(apply blockQ_r)|(apply OK_condT;exact rfl)|(apply OK_condF;exact rfl)|(apply OK_skip)|(apply OK_exit)|(apply OK_ret)|(apply OKx_move;(conv=>lhs;whnf)<;>exact rfl)|(apply OKx_assign;(conv=>lhs;whnf)<;>exact rfl)|(apply OKx_lenS;exact rfl)|(apply OKx_gtr;exact rfl;exact rfl;all_goals (intro _; try (exfalso;omega)))|(apply OKx_eql;exact rfl;exact rfl;all_goals (intro _; try (exfalso;omega)))|(apply OKx_seql;exact rfl;exact rfl; all_goals intro _)|(apply OKx_pickT;exact rfl;(conv=>lhs;whnf)<;>exact rfl)|(apply OKx_pickF;exact rfl;(conv=>lhs;whnf)<;>exact rfl)|(apply OKx_guardT;exact rfl;exact rfl)|(apply OKx_guardF;exact rfl;exact rfl)|(apply OKx_guardU;exact rfl;exact rfl)|(apply OKx_extract;exact rfl;(conv=>lhs;whnf)<;>exact rfl)|(apply OKx_boxA;exact rfl;intro _)|(apply OKx_allocA;intro _)|(apply OKx_ldBA;exact rfl;(first | exact at0|exact at1|exact at2|exact at3|exact at4|exact at5|exact at6|exact at7);exact rfl)|(apply OKx_ldRA;(conv=>lhs;whnf)<;>exact rfl;(with_reducible assumption))|(apply OKx_stBA; kernel_rfl;exact rfl;exact rfl;exact rfl;(first | exact at0|exact at1|exact at2|exact at3|exact at4|exact at5|exact at6|exact at7);exact rfl;exact rfl;exact rfl))
    refine bodyQ_r1 (by ((conv=>lhs;whnf)<;>exact rfl)) ?_
    exact ⟨_, Ent.nil, rfl, rfl⟩
  by_cases hl : 300 < (bOf tl).size
  · refine SatL.of 99 [6] Tryz.func4 (by kernel_rfl) (by kernel_rfl) rfl rfl rfl rfl ?_
    repeat' (first|(apply OK_seq)|(apply thenQ_n)|(apply OK_region)|(apply OKx_gc 16;exact rfl; refine OKx_callV (f := 16) rfl rfl rfl (fun w1 hp => hg1 w1 hp.below) ?_)|(apply OKx_gc 7;exact rfl; refine OKx_callV (f := 7) rfl rfl rfl (fun w1 hp => hg2 w1 hp.below) ?_)|(apply OKx_gc 17;exact rfl; refine OKx_callV (f := 17) rfl rfl rfl (fun w1 hp => awake36_sat w1 (hm.below hp.below)) ?_)|(refine OK_rid 9 ?_; refine OK_quiet (id := 9) (by kernel_rfl) (by kernel_rfl) ?_)|(apply OKx_nilK)|(apply OK_block)|(apply blockQ_n)|(apply blockQ_s)|(apply thenQ_e)|(apply blockQ_e;exact rfl)|(apply thenQ_r)|(apply blockQ_r)|(apply OK_condT;exact rfl)|(apply OK_condF;exact rfl)|(apply OK_skip)|(apply OK_exit)|(apply OK_ret)|(apply OKx_move;(conv=>lhs;whnf)<;>exact rfl)|(apply OKx_assign;(conv=>lhs;whnf)<;>exact rfl)|(apply OKx_lenS;exact rfl)|(apply OKx_gtr;exact rfl;exact rfl;all_goals (intro _; try (exfalso;omega)))|(apply OKx_eql;exact rfl;exact rfl;all_goals (intro _; try (exfalso;omega)))|(apply OKx_seql;exact rfl;exact rfl; all_goals intro _)|(apply OKx_pickT;exact rfl;(conv=>lhs;whnf)<;>exact rfl)|(apply OKx_pickF;exact rfl;(conv=>lhs;whnf)<;>exact rfl)|(apply OKx_guardT;exact rfl;exact rfl)|(apply OKx_guardF;exact rfl;exact rfl)|(apply OKx_guardU;exact rfl;exact rfl)|(apply OKx_extract;exact rfl;(conv=>lhs;whnf)<;>exact rfl)|(apply OKx_boxA;exact rfl;intro _)|(apply OKx_allocA;intro _)|(apply OKx_ldBA;exact rfl;(first | exact at0|exact at1|exact at2|exact at3|exact at4|exact at5|exact at6|exact at7);exact rfl)|(apply OKx_ldRA;(conv=>lhs;whnf)<;>exact rfl;(with_reducible assumption))|(apply OKx_stBA; kernel_rfl;exact rfl;exact rfl;exact rfl;(first | exact at0|exact at1|exact at2|exact at3|exact at4|exact at5|exact at6|exact at7);exact rfl;exact rfl;exact rfl))
    refine bodyQ_r1 (by ((conv=>lhs;whnf)<;>exact rfl)) ?_
    exact ⟨_, Ent.nil, rfl, rfl⟩
  cases hgB : great31 t 18 <;> rw [hgB] at hg2
  rotate_left
  · refine SatL.of 99 [6] Tryz.func4 (by kernel_rfl) (by kernel_rfl) rfl rfl rfl rfl ?_
    repeat' (first|(apply OK_seq)|(apply thenQ_n)|(apply OK_region)|(apply OKx_gc 16;exact rfl; refine OKx_callV (f := 16) rfl rfl rfl (fun w1 hp => hg1 w1 hp.below) ?_)|(apply OKx_gc 7;exact rfl; refine OKx_callV (f := 7) rfl rfl rfl (fun w1 hp => hg2 w1 hp.below) ?_)|(apply OKx_gc 17;exact rfl; refine OKx_callV (f := 17) rfl rfl rfl (fun w1 hp => awake36_sat w1 (hm.below hp.below)) ?_)|(refine OK_rid 9 ?_; refine OK_quiet (id := 9) (by kernel_rfl) (by kernel_rfl) ?_)|(apply OKx_nilK)|(apply OK_block)|(apply blockQ_n)|(apply blockQ_s)|(apply thenQ_e)|(apply blockQ_e;exact rfl)|(apply thenQ_r)|(apply blockQ_r)|(apply OK_condT;exact rfl)|(apply OK_condF;exact rfl)|(apply OK_skip)|(apply OK_exit)|(apply OK_ret)|(apply OKx_move;(conv=>lhs;whnf)<;>exact rfl)|(apply OKx_assign;(conv=>lhs;whnf)<;>exact rfl)|(apply OKx_lenS;exact rfl)|(apply OKx_gtr;exact rfl;exact rfl;all_goals (intro _; try (exfalso;omega)))|(apply OKx_eql;exact rfl;exact rfl;all_goals (intro _; try (exfalso;omega)))|(apply OKx_seql;exact rfl;exact rfl; all_goals intro _)|(apply OKx_pickT;exact rfl;(conv=>lhs;whnf)<;>exact rfl)|(apply OKx_pickF;exact rfl;(conv=>lhs;whnf)<;>exact rfl)|(apply OKx_guardT;exact rfl;exact rfl)|(apply OKx_guardF;exact rfl;exact rfl)|(apply OKx_guardU;exact rfl;exact rfl)|(apply OKx_extract;exact rfl;(conv=>lhs;whnf)<;>exact rfl)|(apply OKx_boxA;exact rfl;intro _)|(apply OKx_allocA;intro _)|(apply OKx_ldBA;exact rfl;(first | exact at0|exact at1|exact at2|exact at3|exact at4|exact at5|exact at6|exact at7);exact rfl)|(apply OKx_ldRA;(conv=>lhs;whnf)<;>exact rfl;(with_reducible assumption))|(apply OKx_stBA; kernel_rfl;exact rfl;exact rfl;exact rfl;(first | exact at0|exact at1|exact at2|exact at3|exact at4|exact at5|exact at6|exact at7);exact rfl;exact rfl;exact rfl))
    refine bodyQ_r1 (by ((conv=>lhs;whnf)<;>exact rfl)) ?_
    exact ⟨_, Ent.nil, rfl, rfl⟩
  refine SatL.of 99 [6] Tryz.func4 (by kernel_rfl) (by kernel_rfl) rfl rfl rfl rfl ?_
  repeat' (first|(apply OK_seq)|(apply thenQ_n)|(apply OK_region)|(apply OKx_gc 16;exact rfl; refine OKx_callV (f := 16) rfl rfl rfl (fun w1 hp => hg1 w1 hp.below) ?_)|(apply OKx_gc 7;exact rfl; refine OKx_callV (f := 7) rfl rfl rfl (fun w1 hp => hg2 w1 hp.below) ?_)|(apply OKx_gc 17;exact rfl; refine OKx_callV (f := 17) rfl rfl rfl (fun w1 hp => awake36_sat w1 (hm.below hp.below)) ?_)|(apply OKx_gc 18;exact rfl; refine OKx_call (f := 18) rfl rfl (fun w1 hp => (Parse_sat (bOf tl) w1 (hm.below hp.below)).mono fun u L h => h.q w) ?_; rintro _ Z1 ⟨pa, pb, pc, pd, pe, pf, pg, ph, pi, rfl, hZ1⟩; refine OKx_ent (Ent.perm (List.perm_append_comm (l₁ := Z1))) ?_; (try simp only [List.set_cons_zero]); simp only [List.cons_append, List.nil_append])|(apply OKx_gc 19;exact rfl; refine OKx_call (f := 19) rfl rfl (fun w1 hp => (rParse_sat tl w1).mono fun u L h => h.q w) ?_; rintro _ Z2 ⟨qa, qb, qc, qd, qe, qf, qg, qh, qi, rfl, hZ2⟩; refine OKx_ent (Ent.perm (List.perm_append_comm (l₁ := Z2))) ?_; (try simp only [List.set_cons_zero]); simp only [List.cons_append, List.nil_append])|(apply OKx_gc 20;exact rfl; refine OKx_callV (f := 20) rfl rfl rfl (fun w1 hp => Print_sat _ s w1 (hst.below hp.below)) ?_)|(apply OKx_gc 21;exact rfl; refine OKx_callV (f := 21) rfl rfl rfl (fun w1 hp => rPrint_sat _ s w1 (hst.below hp.below)) ?_)|(apply OKx_gc 10;exact rfl; refine OKx_call (f := 10) rfl rfl (fun w1 hp => (FromTree_sat _ t w1 (htr.below hp.below)).mono fun u L h => h.q w) ?_; rintro _ Z3 ⟨ua, ub, uc, ud, ue, uf, ug, uh, ui, rfl, hZ3⟩; refine OKx_ent (Ent.perm (List.perm_append_comm (l₁ := Z3))) ?_; (try simp only [List.set_cons_zero]); simp only [List.cons_append, List.nil_append])|(apply OKx_gc 22;exact rfl; refine OKx_call (f := 22) rfl rfl (fun w1 hp => (rFromTree_sat _ t w1 (htr.below hp.below)).mono fun u L h => h.q w) ?_; rintro _ Z4 ⟨va, vb, vc, vd, ve, vf, vg, vh, vi, rfl, hZ4⟩; refine OKx_ent (Ent.perm (List.perm_append_comm (l₁ := Z4))) ?_; (try simp only [List.set_cons_zero]); simp only [List.cons_append, List.nil_append])|(apply OKx_gc 23;exact rfl; refine OKx_callV (f := 23) rfl rfl rfl (fun w1 hp => stCheck_sat _ s w1 (hst.below hp.below)) ?_)|(apply OKx_gc 12;exact rfl; refine OKx_callV (f := 12) rfl rfl rfl (fun w1 hp => rstCheck_sat _ s w1 (hst.below hp.below)) ?_)|(apply OKx_gc 24;exact rfl; refine OKx_callV (f := 24) (v := .bool true) rfl rfl rfl (fun w1 hp => by have := Same36_sat _ _ _ _ w1 (hZ1 w1 (hp.sub (by repeat (first | exact List.Sublist.refl _ | exact List.sublist_append_right _ _ | apply List.sublist_append_of_sublist_left | apply List.Sublist.cons)))) (hZ2 w1 (hp.sub (by repeat (first | exact List.Sublist.refl _ | exact List.sublist_append_right _ _ | apply List.sublist_append_of_sublist_left | apply List.Sublist.cons)))); rwa [sameS_self] at this) ?_)|(apply OKx_gc 24;exact rfl; refine OKx_callV (f := 24) (v := .bool true) rfl rfl rfl (fun w1 hp => by have := Same36_sat _ _ _ _ w1 (hZ3 w1 (hp.sub (by repeat (first | exact List.Sublist.refl _ | exact List.sublist_append_right _ _ | apply List.sublist_append_of_sublist_left | apply List.Sublist.cons)))) (hZ4 w1 (hp.sub (by repeat (first | exact List.Sublist.refl _ | exact List.sublist_append_right _ _ | apply List.sublist_append_of_sublist_left | apply List.Sublist.cons)))); rwa [sameS_self] at this) ?_)|(apply OKx_gn; apply OKx_seql;exact rfl;exact rfl; all_goals (intro hs9; first | (exfalso; exact hs9 rfl) | skip))|(refine OK_rid 9 ?_; refine OK_quiet (id := 9) (by kernel_rfl) (by kernel_rfl) ?_)|(apply OKx_nilK)|(apply OK_block)|(apply blockQ_n)|(apply blockQ_s)|(apply thenQ_e)|(apply blockQ_e;exact rfl)|(apply thenQ_r)|(apply blockQ_r)|(apply OK_condT;exact rfl)|(apply OK_condF;exact rfl)|(apply OK_skip)|(apply OK_exit)|(apply OK_ret)|(apply OKx_move;(conv=>lhs;whnf)<;>exact rfl)|(apply OKx_assign;(conv=>lhs;whnf)<;>exact rfl)|(apply OKx_lenS;exact rfl)|(apply OKx_gtr;exact rfl;exact rfl;all_goals (intro _; try (exfalso;omega)))|(apply OKx_eql;exact rfl;exact rfl;all_goals (intro _; try (exfalso;omega)))|(apply OKx_seql;exact rfl;exact rfl; all_goals intro _)|(apply OKx_pickT;exact rfl;(conv=>lhs;whnf)<;>exact rfl)|(apply OKx_pickF;exact rfl;(conv=>lhs;whnf)<;>exact rfl)|(apply OKx_guardT;exact rfl;exact rfl)|(apply OKx_guardF;exact rfl;exact rfl)|(apply OKx_guardU;exact rfl;exact rfl)|(apply OKx_extract;exact rfl;(conv=>lhs;whnf)<;>exact rfl)|(apply OKx_boxA;exact rfl;intro _)|(apply OKx_allocA;intro _)|(apply OKx_ldBA;exact rfl;(first | exact at0|exact at1|exact at2|exact at3|exact at4|exact at5|exact at6|exact at7);exact rfl)|(apply OKx_ldRA;(conv=>lhs;whnf)<;>exact rfl;(with_reducible assumption))|(apply OKx_stBA; kernel_rfl;exact rfl;exact rfl;exact rfl;(first | exact at0|exact at1|exact at2|exact at3|exact at4|exact at5|exact at6|exact at7);exact rfl;exact rfl;exact rfl))
  refine bodyQ_r1 (by ((conv=>lhs;whnf)<;>exact rfl)) ?_
  exact ⟨_, Ent.nil, rfl, rfl⟩
end Go.Proofs.YtdigdmnnjbndlaaGreatDoor
