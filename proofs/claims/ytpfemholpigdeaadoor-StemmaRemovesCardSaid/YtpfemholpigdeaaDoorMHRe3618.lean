/-
  Part 18 of the proof: Aw36, Pr39, Pd36, Lr36, Sa36. No statement of the seat is proved here.
-/
import Derived.Test.YtpfemholpigdeaaDoorMHRe3617
namespace Go.Proofs.YtpfemholpigdeaaDoor
open Go.RowKit
def cmL (par : List (List Int)) (k : Nat) : List Int := ((List.range k).filter (fun i => decide (1 < (par.getD i []).length))).map (fun i : Nat => (i : Int))
theorem cmL_step (par : List (List Int)) (k : Nat) : cmL par (k + 1) = cmL par k ++ if 1 < (par.getD k []).length then [(k : Int)] else [] := by
  unfold cmL
  rw [List.range_succ, List.filter_append, List.map_append]
  congr 1
  by_cases h : 1 < (par.getD k []).length
  · rw [if_pos h, List.filter_cons_of_pos (by simpa using h)]; rfl
  · rw [if_neg h, List.filter_cons_of_neg (by simpa using h)]; rfl
theorem cmL_len (par : List (List Int)) (k : Nat) : (cmL par k).length ≤ k := by
  unfold cmL
  rw [List.length_map]
  exact Nat.le_trans (List.length_filter_le _ _) (by simp)
def cms (s : Stem) : List Int := cmL s.par s.par.length
def CmsR (s : Stem) (u : Value) (L : List Res) : Prop :=
  (stCheck s ≠ 0 ∧ u = .tuple #[.slice none 0 0, .int .i64 1] ∧ L = []) ∨
  (stCheck s = 0 ∧ ∃ a c, u = .tuple #[.slice a (cms s).length c, .int .i64 0] ∧ (0 < (cms s).length → ∃ g, a = some ⟨g, 0, none⟩) ∧ L = [.row 3 1 (.slice a (cms s).length c) (cms s).length (ints (cms s))])
set_option maxRecDepth 100000 in
set_option maxHeartbeats 4000000 in
theorem cms1_sat (v : Value) (xs : List Int) (w : World) (h : Ints w v xs) : SatV Tryd.prog 56 [v] w (.bool (decide (1 < xs.length))) := by
  have hv := h.sl
  refine SatL.of 6 [2] Tryd.func56 (by kernel_rfl) (by kernel_rfl) rfl rfl rfl rfl ?_
  repeat' (first|(apply OK_seq)|(apply thenQ_n)|(apply OK_region)|(apply OKx_nilK)|(apply OK_block)|(apply blockQ_n)|(apply blockQ_s)|(apply thenQ_e)|(apply blockQ_e;exact rfl)|(apply thenQ_r)|(apply blockQ_r)|(apply OK_condT;exact rfl)|(apply OK_condF;exact rfl)|(apply OK_skip)|(apply OK_exit)|(apply OK_ret)|(apply OKx_move;(conv=>lhs;whnf)<;>exact rfl)|(apply OKx_assign;(conv=>lhs;whnf)<;>exact rfl)|(apply OKx_len;exact rfl)|(apply OKx_lenR;(conv=>lhs;whnf)<;>exact rfl;(with_reducible assumption))|(apply OKx_lenR2;(conv=>lhs;whnf)<;>exact rfl;(with_reducible assumption))|(apply OKx_lenO;(conv=>lhs;whnf)<;>exact rfl;(first | exact at0|exact at1|exact at2|exact at3|exact at4|exact at5|exact at6|exact at7))|(apply OKx_gtr;exact rfl;exact rfl;all_goals (intro _; try (exfalso;omega))))
  · refine bodyQ_r1 (by ((conv=>lhs;whnf)<;>exact rfl)) ?_
    exact ⟨_, Ent.nil, bool_eq (decide_eq_true (by omega)).symm, rfl⟩
  · refine bodyQ_r1 (by ((conv=>lhs;whnf)<;>exact rfl)) ?_
    exact ⟨_, Ent.nil, bool_eq (decide_eq_false (by omega)).symm, rfl⟩
set_option maxRecDepth 100000 in
set_option maxHeartbeats 4000000 in
theorem nodesC_sat (v : Value) (s : Stem) (w : World) (h : Stm w v s) : Sat Tryd.prog 51 [v, .func (.func 56) #[] #[]] w (CmsR s) := by
  have hst := h
  obtain ⟨nv, ev, pv, rfl, _, _, hP⟩ := h
  obtain ⟨fv, hpv, hrow⟩ := hP.rows
  have hpb := hpv.bound
  by_cases hc : stCheck s = 0
  rotate_left
  · refine SatL.of 29 [4, 5] Tryd.func51 (by kernel_rfl) (by kernel_rfl) rfl rfl rfl rfl ?_
    repeat' (first|(apply OK_seq)|(apply thenQ_n)|(apply OK_region)|(apply OKx_gc 13;exact rfl; refine OKx_callV (f := 13) rfl rfl rfl (fun w1 hp => stCheck_sat _ s w1 (hst.below hp.below)) ?_)|(apply OKx_nilK)|(apply OK_block)|(apply blockQ_n)|(apply blockQ_s)|(apply thenQ_e)|(apply blockQ_e;exact rfl)|(apply thenQ_r)|(apply blockQ_r)|(apply OK_condT;exact rfl)|(apply OK_condF;exact rfl)|(apply OK_skip)|(apply OK_exit)|(apply OK_ret)|(apply OKx_move;(conv=>lhs;whnf)<;>exact rfl)|(apply OKx_assign;(conv=>lhs;whnf)<;>exact rfl)|(apply OKx_ldB;exact rfl;(first | exact at0|exact at1|exact at2|exact at3|exact at4|exact at5|exact at6|exact at7);exact rfl)|(apply OKx_ldR;(conv=>lhs;whnf)<;>exact rfl;(with_reducible assumption))|(apply OKx_len;exact rfl)|(apply OKx_lenR;(conv=>lhs;whnf)<;>exact rfl;(with_reducible assumption))|(apply OKx_lenR2;(conv=>lhs;whnf)<;>exact rfl;(with_reducible assumption))|(apply OKx_lenO;(conv=>lhs;whnf)<;>exact rfl;(first | exact at0|exact at1|exact at2|exact at3|exact at4|exact at5|exact at6|exact at7))|(apply OKx_lss;exact rfl;exact rfl;all_goals (intro _; try (exfalso;omega)))|(apply OKx_neq;exact rfl;exact rfl;all_goals (intro _; try (exfalso;omega)))|(apply OKx_idxO;exact rfl;exact rfl;omega)|(apply OKx_idxR;(conv=>lhs;whnf)<;>exact rfl;(with_reducible assumption);exact rfl;omega;intro _ _)|(apply OKx_idxOz;exact rfl;exact rfl;omega;omega)|(apply OKx_idxRz;(conv=>lhs;whnf)<;>exact rfl;(with_reducible assumption);exact rfl;omega;omega;intro _ _)|(apply OKx_fldO;exact rfl;exact rfl)|(apply OKx_fldR;(conv=>lhs;whnf)<;>exact rfl;(with_reducible assumption); decide;intro _ _)|(apply OKx_inc;exact rfl;exact rfl;omega)|(apply OKx_addN;exact rfl;exact rfl;omega)|(apply OKx_add;exact rfl;exact rfl;omega;omega)|(apply OKx_boxA;exact rfl;intro _)|(apply OKx_ldBA;exact rfl;(first | exact at0|exact at1|exact at2|exact at3|exact at4|exact at5|exact at6|exact at7);exact rfl)|(apply OKx_ldRA;(conv=>lhs;whnf)<;>exact rfl;(with_reducible assumption))|(apply OKx_slit1;(conv=>lhs;whnf)<;>exact rfl;exact rfl;intro _))
    refine bodyQ_r2 (by ((conv=>lhs;whnf)<;>exact rfl)) (by ((conv=>lhs;whnf)<;>exact rfl)) ?_
    exact ⟨_, Ent.nil, .inl ⟨hc, rfl, rfl⟩⟩
  have hlen := stCheck_len s hc
  refine SatL.of 29 [4, 5] Tryd.func51 (by kernel_rfl) (by kernel_rfl) rfl rfl rfl rfl ?_
  repeat' (first|(apply OK_seq)|(apply thenQ_n)|(apply OK_region)|(apply OKx_gc 13;exact rfl; refine OKx_callV (f := 13) (v := .int .i64 0) rfl rfl rfl (fun w1 hp => by rw [← hc]; exact stCheck_sat _ s w1 (hst.below hp.below)) ?_)|(apply OKx_nilK)|(apply OK_block)|(apply blockQ_n)|(apply blockQ_s)|(apply thenQ_e)|(apply blockQ_e;exact rfl)|(apply thenQ_r)|(apply blockQ_r)|(apply OK_condT;exact rfl)|(apply OK_condF;exact rfl)|(apply OK_skip)|(apply OK_exit)|(apply OK_ret)|(apply OKx_move;(conv=>lhs;whnf)<;>exact rfl)|(apply OKx_assign;(conv=>lhs;whnf)<;>exact rfl)|(apply OKx_ldB;exact rfl;(first | exact at0|exact at1|exact at2|exact at3|exact at4|exact at5|exact at6|exact at7);exact rfl)|(apply OKx_ldR;(conv=>lhs;whnf)<;>exact rfl;(with_reducible assumption))|(apply OKx_len;exact rfl)|(apply OKx_lenR;(conv=>lhs;whnf)<;>exact rfl;(with_reducible assumption))|(apply OKx_lenR2;(conv=>lhs;whnf)<;>exact rfl;(with_reducible assumption))|(apply OKx_lenO;(conv=>lhs;whnf)<;>exact rfl;(first | exact at0|exact at1|exact at2|exact at3|exact at4|exact at5|exact at6|exact at7))|(apply OKx_lss;exact rfl;exact rfl;all_goals (intro _; try (exfalso;omega)))|(apply OKx_neq;exact rfl;exact rfl;all_goals (intro _; try (exfalso;omega)))|(apply OKx_idxO;exact rfl;exact rfl;omega)|(apply OKx_idxR;(conv=>lhs;whnf)<;>exact rfl;(with_reducible assumption);exact rfl;omega;intro _ _)|(apply OKx_idxOz;exact rfl;exact rfl;omega;omega)|(apply OKx_idxRz;(conv=>lhs;whnf)<;>exact rfl;(with_reducible assumption);exact rfl;omega;omega;intro _ _)|(apply OKx_fldO;exact rfl;exact rfl)|(apply OKx_fldR;(conv=>lhs;whnf)<;>exact rfl;(with_reducible assumption); decide;intro _ _)|(apply OKx_inc;exact rfl;exact rfl;omega)|(apply OKx_addN;exact rfl;exact rfl;omega)|(apply OKx_add;exact rfl;exact rfl;omega;omega)|(apply OKx_boxA;exact rfl;intro _)|(apply OKx_ldBA;exact rfl;(first | exact at0|exact at1|exact at2|exact at3|exact at4|exact at5|exact at6|exact at7);exact rfl)|(apply OKx_ldRA;(conv=>lhs;whnf)<;>exact rfl;(with_reducible assumption))|(apply OKx_slit1;(conv=>lhs;whnf)<;>exact rfl;exact rfl;intro _))
  rename_i g2 _
  refine OK_loop2 6 15 [6, 7, 8, 15, 16, 17, 18, 19, 20, 21, 22, 23, 24, 25, 26, 27] (fun m u v L => ∃ (k n : Nat) (a : Option Addr) (c : Nat), k + m = s.par.length ∧ n = (cmL s.par k).length ∧ u = .slice a n c ∧ (0 < n → ∃ g, a = some ⟨g, 0, none⟩) ∧ v = .int .i64 (k : Int) ∧ L = [.row 3 1 (.slice a n c) n (ints (cmL s.par k)), .box 26 g2 [nv, ev, pv]]) s.par.length _ (Ent.mk fun w1 hp => hp.nil 3 1) ⟨0, 0, none, 0, by omega, rfl, rfl, fun h => absurd h (by omega), rfl, rfl⟩ ?_
  rintro m u v L G ⟨k, n, a, c, hm, hn, rfl, ha, rfl, rfl⟩
  by_cases hk : k < s.par.length
  rotate_left
  · obtain rfl : k = s.par.length := by omega
    subst hn
    repeat' (first|(apply OK_seq)|(apply thenQ_n)|(apply OK_region)|(apply OKx_nilK)|(apply OK_block)|(apply blockQ_n)|(apply blockQ_s)|(apply thenQ_e)|(apply blockQ_e;exact rfl)|(apply thenQ_r)|(apply blockQ_r)|(apply OK_condT;exact rfl)|(apply OK_condF;exact rfl)|(apply OK_skip)|(apply OK_exit)|(apply OK_ret)|(apply OKx_move;(conv=>lhs;whnf)<;>exact rfl)|(apply OKx_assign;(conv=>lhs;whnf)<;>exact rfl)|(apply OKx_ldB;exact rfl;(first | exact at0|exact at1|exact at2|exact at3|exact at4|exact at5|exact at6|exact at7);exact rfl)|(apply OKx_ldR;(conv=>lhs;whnf)<;>exact rfl;(with_reducible assumption))|(apply OKx_len;exact rfl)|(apply OKx_lenR;(conv=>lhs;whnf)<;>exact rfl;(with_reducible assumption))|(apply OKx_lenR2;(conv=>lhs;whnf)<;>exact rfl;(with_reducible assumption))|(apply OKx_lenO;(conv=>lhs;whnf)<;>exact rfl;(first | exact at0|exact at1|exact at2|exact at3|exact at4|exact at5|exact at6|exact at7))|(apply OKx_lss;exact rfl;exact rfl;all_goals (intro _; try (exfalso;omega)))|(apply OKx_neq;exact rfl;exact rfl;all_goals (intro _; try (exfalso;omega)))|(apply OKx_idxO;exact rfl;exact rfl;omega)|(apply OKx_idxR;(conv=>lhs;whnf)<;>exact rfl;(with_reducible assumption);exact rfl;omega;intro _ _)|(apply OKx_idxOz;exact rfl;exact rfl;omega;omega)|(apply OKx_idxRz;(conv=>lhs;whnf)<;>exact rfl;(with_reducible assumption);exact rfl;omega;omega;intro _ _)|(apply OKx_fldO;exact rfl;exact rfl)|(apply OKx_fldR;(conv=>lhs;whnf)<;>exact rfl;(with_reducible assumption); decide;intro _ _)|(apply OKx_inc;exact rfl;exact rfl;omega)|(apply OKx_addN;exact rfl;exact rfl;omega)|(apply OKx_add;exact rfl;exact rfl;omega;omega)|(apply OKx_boxA;exact rfl;intro _)|(apply OKx_ldBA;exact rfl;(first | exact at0|exact at1|exact at2|exact at3|exact at4|exact at5|exact at6|exact at7);exact rfl)|(apply OKx_ldRA;(conv=>lhs;whnf)<;>exact rfl;(with_reducible assumption))|(apply OKx_slit1;(conv=>lhs;whnf)<;>exact rfl;exact rfl;intro _))
    refine bodyQ_r2 (by ((conv=>lhs;whnf)<;>exact rfl)) (by ((conv=>lhs;whnf)<;>exact rfl)) ?_
    exact ⟨_, Ent.pick [0] rfl, .inr ⟨hc, a, c, rfl, ha, rfl⟩⟩
  have hs := cmL_step s.par k
  have hle := cmL_len s.par k
  have hrk := hrow k
  generalize hys : cmL s.par k = ys at *
  by_cases hz : 1 < (s.par.getD k []).length
  · rw [if_pos hz] at hs
    repeat' (first|(apply OK_seq)|(apply thenQ_n)|(apply OK_region)|(apply OKx_gc 56;exact rfl; refine OKx_callV (f := 56) (v := .bool true) rfl rfl rfl (fun w1 hp => by have := cms1_sat _ _ w1 (hrk.below hp.below); rwa [decide_eq_true hz] at this) ?_)|(apply OKx_gb; refine OKx_appI 1 0 rfl rfl rfl rfl (by omega) (by omega) ?_; intro g5 c5)|(apply OKx_nilK)|(apply OK_block)|(apply blockQ_n)|(apply blockQ_s)|(apply thenQ_e)|(apply blockQ_e;exact rfl)|(apply thenQ_r)|(apply blockQ_r)|(apply OK_condT;exact rfl)|(apply OK_condF;exact rfl)|(apply OK_skip)|(apply OK_exit)|(apply OK_ret)|(apply OKx_move;(conv=>lhs;whnf)<;>exact rfl)|(apply OKx_assign;(conv=>lhs;whnf)<;>exact rfl)|(apply OKx_ldB;exact rfl;(first | exact at0|exact at1|exact at2|exact at3|exact at4|exact at5|exact at6|exact at7);exact rfl)|(apply OKx_ldR;(conv=>lhs;whnf)<;>exact rfl;(with_reducible assumption))|(apply OKx_len;exact rfl)|(apply OKx_lenR;(conv=>lhs;whnf)<;>exact rfl;(with_reducible assumption))|(apply OKx_lenR2;(conv=>lhs;whnf)<;>exact rfl;(with_reducible assumption))|(apply OKx_lenO;(conv=>lhs;whnf)<;>exact rfl;(first | exact at0|exact at1|exact at2|exact at3|exact at4|exact at5|exact at6|exact at7))|(apply OKx_lss;exact rfl;exact rfl;all_goals (intro _; try (exfalso;omega)))|(apply OKx_neq;exact rfl;exact rfl;all_goals (intro _; try (exfalso;omega)))|(apply OKx_idxO;exact rfl;exact rfl;omega)|(apply OKx_idxR;(conv=>lhs;whnf)<;>exact rfl;(with_reducible assumption);exact rfl;omega;intro _ _)|(apply OKx_idxOz;exact rfl;exact rfl;omega;omega)|(apply OKx_idxRz;(conv=>lhs;whnf)<;>exact rfl;(with_reducible assumption);exact rfl;omega;omega;intro _ _)|(apply OKx_fldO;exact rfl;exact rfl)|(apply OKx_fldR;(conv=>lhs;whnf)<;>exact rfl;(with_reducible assumption); decide;intro _ _)|(apply OKx_inc;exact rfl;exact rfl;omega)|(apply OKx_addN;exact rfl;exact rfl;omega)|(apply OKx_add;exact rfl;exact rfl;omega;omega)|(apply OKx_boxA;exact rfl;intro _)|(apply OKx_ldBA;exact rfl;(first | exact at0|exact at1|exact at2|exact at3|exact at4|exact at5|exact at6|exact at7);exact rfl)|(apply OKx_ldRA;(conv=>lhs;whnf)<;>exact rfl;(with_reducible assumption))|(apply OKx_slit1;(conv=>lhs;whnf)<;>exact rfl;exact rfl;intro _))
    refine ⟨by (repeat' (first | refine agree_upd rfl ?_ | exact agree_over | exact agree_refl _ _ | refine agree_over2 rfl ?_)), m - 1, _, by omega, Ent.pick [1, 2] rfl, ?_⟩
    exact ⟨k + 1, n + 1, _, c5, by omega, by rw [hs, List.length_append, hn]; rfl, rfl, fun _ => ⟨_, rfl⟩, rfl, by rw [hs]; rfl⟩
  · rw [if_neg hz, List.append_nil] at hs
    repeat' (first|(apply OK_seq)|(apply thenQ_n)|(apply OK_region)|(apply OKx_gc 56;exact rfl; refine OKx_callV (f := 56) (v := .bool false) rfl rfl rfl (fun w1 hp => by have := cms1_sat _ _ w1 (hrk.below hp.below); rwa [decide_eq_false hz] at this) ?_)|(apply OKx_nilK)|(apply OK_block)|(apply blockQ_n)|(apply blockQ_s)|(apply thenQ_e)|(apply blockQ_e;exact rfl)|(apply thenQ_r)|(apply blockQ_r)|(apply OK_condT;exact rfl)|(apply OK_condF;exact rfl)|(apply OK_skip)|(apply OK_exit)|(apply OK_ret)|(apply OKx_move;(conv=>lhs;whnf)<;>exact rfl)|(apply OKx_assign;(conv=>lhs;whnf)<;>exact rfl)|(apply OKx_ldB;exact rfl;(first | exact at0|exact at1|exact at2|exact at3|exact at4|exact at5|exact at6|exact at7);exact rfl)|(apply OKx_ldR;(conv=>lhs;whnf)<;>exact rfl;(with_reducible assumption))|(apply OKx_len;exact rfl)|(apply OKx_lenR;(conv=>lhs;whnf)<;>exact rfl;(with_reducible assumption))|(apply OKx_lenR2;(conv=>lhs;whnf)<;>exact rfl;(with_reducible assumption))|(apply OKx_lenO;(conv=>lhs;whnf)<;>exact rfl;(first | exact at0|exact at1|exact at2|exact at3|exact at4|exact at5|exact at6|exact at7))|(apply OKx_lss;exact rfl;exact rfl;all_goals (intro _; try (exfalso;omega)))|(apply OKx_neq;exact rfl;exact rfl;all_goals (intro _; try (exfalso;omega)))|(apply OKx_idxO;exact rfl;exact rfl;omega)|(apply OKx_idxR;(conv=>lhs;whnf)<;>exact rfl;(with_reducible assumption);exact rfl;omega;intro _ _)|(apply OKx_idxOz;exact rfl;exact rfl;omega;omega)|(apply OKx_idxRz;(conv=>lhs;whnf)<;>exact rfl;(with_reducible assumption);exact rfl;omega;omega;intro _ _)|(apply OKx_fldO;exact rfl;exact rfl)|(apply OKx_fldR;(conv=>lhs;whnf)<;>exact rfl;(with_reducible assumption); decide;intro _ _)|(apply OKx_inc;exact rfl;exact rfl;omega)|(apply OKx_addN;exact rfl;exact rfl;omega)|(apply OKx_add;exact rfl;exact rfl;omega;omega)|(apply OKx_boxA;exact rfl;intro _)|(apply OKx_ldBA;exact rfl;(first | exact at0|exact at1|exact at2|exact at3|exact at4|exact at5|exact at6|exact at7);exact rfl)|(apply OKx_ldRA;(conv=>lhs;whnf)<;>exact rfl;(with_reducible assumption))|(apply OKx_slit1;(conv=>lhs;whnf)<;>exact rfl;exact rfl;intro _))
    refine ⟨by (repeat' (first | refine agree_upd rfl ?_ | exact agree_over | exact agree_refl _ _ | refine agree_over2 rfl ?_)), m - 1, _, by omega, Ent.refl _ _, ?_⟩
    exact ⟨k + 1, n, a, c, by omega, by rw [hs]; exact hn, rfl, ha, rfl, by rw [hs]⟩
set_option maxRecDepth 100000 in
set_option maxHeartbeats 4000000 in
theorem Cont_sat (v : Value) (s : Stem) (w : World) (h : Stm w v s) : Sat Tryd.prog 20 [v] w (CmsR s) := by
  have hst := h
  obtain ⟨nv, ev, pv, rfl, _, _, _⟩ := h
  refine SatL.of 8 [2, 3] Tryd.func20 (by kernel_rfl) (by kernel_rfl) rfl rfl rfl rfl ?_
  repeat' (first|(apply OK_seq)|(apply thenQ_n)|(apply OK_region)|(apply OKx_gc 51;exact rfl; refine OKx_call (f := 51) rfl rfl (fun w1 hp => nodesC_sat _ s w1 (hst.below hp.below)) ?_; rintro _ _ (⟨h1, rfl, rfl⟩ | ⟨h1, a, c, rfl, ha, rfl⟩))|(apply OKx_nilK)|(apply OK_block)|(apply blockQ_n)|(apply blockQ_s)|(apply thenQ_e)|(apply blockQ_e;exact rfl)|(apply thenQ_r)|(apply blockQ_r)|(apply OK_condT;exact rfl)|(apply OK_condF;exact rfl)|(apply OK_skip)|(apply OK_exit)|(apply OK_ret)|(apply OKx_assign;(conv=>lhs;whnf)<;>exact rfl)|(apply OKx_extract;exact rfl;(conv=>lhs;whnf)<;>exact rfl)|(apply OKx_boxA;exact rfl;intro _)|(apply OKx_ldBA;exact rfl;(first | exact at0|exact at1|exact at2|exact at3|exact at4|exact at5|exact at6|exact at7);exact rfl)|(apply OKx_ldRA;(conv=>lhs;whnf)<;>exact rfl;(with_reducible assumption)))
  · refine bodyQ_r2 (by ((conv=>lhs;whnf)<;>exact rfl)) (by ((conv=>lhs;whnf)<;>exact rfl)) ?_
    exact ⟨_, Ent.nil, .inl ⟨h1, rfl, rfl⟩⟩
  · refine bodyQ_r2 (by ((conv=>lhs;whnf)<;>exact rfl)) (by ((conv=>lhs;whnf)<;>exact rfl)) ?_
    exact ⟨_, Ent.pick [0] rfl, .inr ⟨h1, a, c, rfl, ha, rfl⟩⟩
abbrev tx36 : ByteArray := ⟨#[120, 32, 108, 111, 115, 116, 10, 65, 32, 101, 120, 116, 97, 110, 116, 32, 102, 114, 111, 109, 32, 120, 10, 66, 32, 101, 120, 116, 97, 110, 116, 32, 102, 114, 111, 109, 32, 120, 10, 67, 32, 101, 120, 116, 97, 110, 116, 32, 102, 114, 111, 109, 32, 65, 32, 66, 10]⟩
abbrev ty36 : ByteArray := ⟨#[120, 32, 108, 111, 115, 116, 10, 66, 32, 101, 120, 116, 97, 110, 116, 32, 102, 114, 111, 109, 32, 120, 10, 67, 32, 101, 120, 116, 97, 110, 116, 32, 102, 114, 111, 109, 32, 120, 32, 66, 10]⟩
theorem tx36E : psE tx36 = 0 := by decide +kernel
theorem tx36R : rts (psS tx36) = [0] := by decide +kernel
theorem tx36C : cms (psS tx36) = [3] := by decide +kernel
theorem tx36L : (psS tx36).names.length = 4 := by decide +kernel
theorem srtK_compact36 (xs : List Int) (h : ∀ x ∈ xs, 0 ≤ x ∧ x < 64) : srtK xs 64 = Lib.compact (srtL xs) := by
  refine asc_ext _ _ (srtK_asc _ _) (compact_asc _ (srtL_le _)) fun x => ?_
  rw [srtK_mem, compact_mem, srtL_mem]
  exact ⟨fun h => h.1, fun hx => ⟨hx, (h x hx).1, by have := (h x hx).2;omega⟩⟩
theorem tx36K : kpt 1 (psS tx36).names.length = [0, 2, 3] := by decide +kernel
theorem tx36B : ∀ k ∈ [0, 2, 3], ∀ x ∈ expL ((psS tx36).par.getD 1 []) 1 ((psS tx36).par.getD k []), 0 ≤ x ∧ x < 64 := by decide +kernel
theorem tx36M : remS (psS tx36) 1 = ⟨[⟨#[120]⟩, ⟨#[66]⟩, ⟨#[67]⟩], [false, true, true], [[], [0], [0, 1]]⟩ := by
  have e1 : [0, 2, 3].map (fun k => (psS tx36).names.getD k ByteArray.empty) = [⟨#[120]⟩, ⟨#[66]⟩, ⟨#[67]⟩] := by decide +kernel
  have e2 : [0, 2, 3].map (fun k => (psS tx36).ext.getD k false) = [false, true, true] := by decide +kernel
  have e3 : [0, 2, 3].map (fun k => (srtK (expL ((psS tx36).par.getD 1 []) 1 ((psS tx36).par.getD k [])) 64).map (decI 1)) = [[], [0], [0, 1]] := by decide +kernel
  have e4 : [0, 2, 3].map (remL (psS tx36) 1) = [0, 2, 3].map (fun k => (srtK (expL ((psS tx36).par.getD 1 []) 1 ((psS tx36).par.getD k [])) 64).map (decI 1)) := by
    apply List.map_congr_left
    intro k hk
    unfold remL remC
    rw [srtK_compact36 _ (tx36B k hk)]
  unfold remS
  rw [tx36K, e1, e2, e4, e3]
theorem tx36P : prE (remS (psS tx36) 1) = 0 ∧ prT (remS (psS tx36) 1) = ty36.data.toList := by
  rw [tx36M]
  decide +kernel
theorem tx36I : chkI (psS tx36) 1 = 0 := by decide +kernel
set_option maxRecDepth 100000 in
set_option maxHeartbeats 4000000 in
theorem PaA_sat (w : World) (hm : MxL w) : Sat Tryd.prog 11 [.string tx36] w (fun u Z => ∃ a b c d e f g h i, u = .tuple #[.agg #[.slice a b c, .slice d e f, .slice g h i], .int .i64 0] ∧ ∀ w0 w, Hp w0.heap.size w0 w Z → Stm w (.agg #[.slice a b c, .slice d e f, .slice g h i]) (psS tx36)) :=
  (Parse_sat tx36 w hm).mono fun u L h => by
    rcases h with ⟨h, _⟩ | ⟨_, na, nc, ea, ec, pa, pc, h1, h2⟩
    · exact absurd tx36E h
    · exact ⟨_, _, _, _, _, _, _, _, _, h1, h2⟩
set_option maxRecDepth 100000 in
set_option maxHeartbeats 4000000 in
theorem RtA_sat (v : Value) (w : World) (h : Stm w v (psS tx36)) : Sat Tryd.prog 17 [v] w (fun u L => ∃ a c, u = .tuple #[.slice a 1 c, .int .i64 0] ∧ L = [.row 3 1 (.slice a 1 c) 1 (ints [0])]) :=
  (Roots_sat v _ w h).mono fun u L h => by
    rcases h with ⟨h, _⟩ | ⟨_, a, c, h1, _, h2⟩
    · exact absurd (psE_parts tx36E).2.2.2 h
    · rw [tx36R] at h1 h2
      exact ⟨a, c, h1, h2⟩
set_option maxRecDepth 100000 in
set_option maxHeartbeats 4000000 in
theorem CmA_sat (v : Value) (w : World) (h : Stm w v (psS tx36)) : Sat Tryd.prog 20 [v] w (fun u L => ∃ a c, u = .tuple #[.slice a 1 c, .int .i64 0] ∧ L = [.row 3 1 (.slice a 1 c) 1 (ints [3])]) :=
  (Cont_sat v _ w h).mono fun u L h => by
    rcases h with ⟨h, _⟩ | ⟨_, a, c, h1, _, h2⟩
    · exact absurd (psE_parts tx36E).2.2.2 h
    · rw [tx36C] at h1 h2
      exact ⟨a, c, h1, h2⟩
set_option maxRecDepth 100000 in
set_option maxHeartbeats 4000000 in
theorem RmA_sat (v : Value) (w : World) (h : Stm w v (psS tx36)) : Sat Tryd.prog 22 [v, .int .i64 1] w (fun u Z => ∃ a b c d e f g h i, u = .tuple #[.agg #[.slice a b c, .slice d e f, .slice g h i], .int .i64 0] ∧ ∀ w0 w, Hp w0.heap.size w0 w Z → Stm w (.agg #[.slice a b c, .slice d e f, .slice g h i]) (remS (psS tx36) 1)) :=
  (Rem_sat v _ 1 w h).mono fun u L h => by
    rcases h with ⟨h, _⟩ | ⟨_, h, _⟩ | ⟨_, _, na, nc, ea, ec, pa, pc, h1, h2⟩
    · exact absurd tx36I h
    · rw [tx36L] at h;omega
    · exact ⟨_, _, _, _, _, _, _, _, _, h1, h2⟩
set_option maxRecDepth 100000 in
set_option maxHeartbeats 4000000 in
theorem PrA_sat (v : Value) (w : World) (h : Stm w v (remS (psS tx36) 1)) : SatV Tryd.prog 12 [v] w (.tuple #[.string ty36, .int .i64 0]) := by
  have := Print_sat v _ w h
  unfold prV at this
  rw [tx36P.1, if_pos rfl, tx36P.2] at this
  exact this
set_option maxRecDepth 100000 in
set_option maxHeartbeats 4000000 in
theorem awake36_sat (w : World) (hm : MxL w) : SatV Tryd.prog 10 [] w (.bool true) := by
  refine SatL.of 56 [0] Tryd.func10 (by kernel_rfl) (by kernel_rfl) rfl rfl rfl rfl ?_
  repeat' (first|(apply OK_seq)|(apply thenQ_n)|(apply OK_region)|(apply OKx_gb; refine OKx_max5 (r := 0) rfl rfl rfl rfl rfl (by decide) ?_)|(apply OKx_gc 11;exact rfl; refine OKx_call (f := 11) rfl rfl (fun w1 hp => PaA_sat w1 (hm.below hp.below)) ?_; rintro _ Z ⟨sa1, sa2, sa3, sb1, sb2, sb3, sc1, sc2, sc3, rfl, hZ⟩)|(apply OKx_gc 17;exact rfl; refine OKx_call (f := 17) rfl rfl (fun w1 hp => RtA_sat _ w1 (hZ w w1 (hp.sub (by repeat (first | exact List.Sublist.refl _ | exact List.sublist_append_left _ _ | apply List.Sublist.cons))))) ?_; rintro _ _ ⟨ra, rc, rfl, rfl⟩; rw [List.cons_append, List.nil_append])|(apply OKx_gc 20;exact rfl; refine OKx_call (f := 20) rfl rfl (fun w1 hp => CmA_sat _ w1 (hZ w w1 (hp.sub (by repeat (first | exact List.Sublist.refl _ | exact List.sublist_append_left _ _ | apply List.Sublist.cons))))) ?_; rintro _ _ ⟨ca, cc, rfl, rfl⟩; rw [List.cons_append, List.nil_append])|(apply OKx_gc 22;exact rfl; refine OKx_call (f := 22) rfl rfl (fun w1 hp => RmA_sat _ w1 (hZ w w1 (hp.sub (by repeat (first | exact List.Sublist.refl _ | exact List.sublist_append_left _ _ | apply List.Sublist.cons))))) ?_; rintro _ Z2 ⟨ta1, ta2, ta3, tb1, tb2, tb3, tc1, tc2, tc3, rfl, hZ2⟩; refine OKx_ent (Ent.perm List.perm_append_comm) ?_; simp only [List.set_cons_zero, List.cons_append])|(apply OKx_gc 12;exact rfl; refine OKx_callV (f := 12) rfl rfl rfl (fun w1 hp => PrA_sat _ w1 (hZ2 w w1 (hp.sub (((((List.sublist_append_right _ Z2).cons _).cons _).cons _).cons _)))) ?_)|(apply OKx_gc 26;exact rfl; refine OKx_callV (f := 26) (v := .bool true) rfl rfl rfl (fun w1 hp => equalT_sat (.slice ra 1 rc) _ [0] [0] w1 (hp.ints 3 rfl (by decide)) (hp.ints 0 rfl (by decide)) rfl) ?_)|(apply OKx_gc 26;exact rfl; refine OKx_callV (f := 26) (v := .bool true) rfl rfl rfl (fun w1 hp => equalT_sat (.slice ca 1 cc) _ [3] [3] w1 (hp.ints 3 rfl (by decide)) (hp.ints 0 rfl (by decide)) rfl) ?_)|(apply OKx_nilK)|(apply OK_block)|(apply blockQ_n)|(apply blockQ_s)|(apply thenQ_e)|(apply blockQ_e;exact rfl)|(apply thenQ_r)|(apply blockQ_r)|(apply OK_condT;exact rfl)|(apply OK_condF;exact rfl)|(apply OK_skip)|(apply OK_exit)|(apply OK_ret)|(apply OKx_move;(conv=>lhs;whnf)<;>exact rfl)|(apply OKx_assign;(conv=>lhs;whnf)<;>exact rfl)|(apply OKx_eql;exact rfl;exact rfl;all_goals (intro _; try (exfalso;omega)))|(apply OKx_seql;exact rfl;exact rfl; all_goals intro _)|(apply OKx_max;exact rfl;exact rfl)|(apply OKx_pickT;exact rfl;(conv=>lhs;whnf)<;>exact rfl)|(apply OKx_pickF;exact rfl;(conv=>lhs;whnf)<;>exact rfl)|(apply OKx_guardT;exact rfl;exact rfl)|(apply OKx_guardF;exact rfl;exact rfl)|(apply OKx_guardU;exact rfl;exact rfl)|(apply OKx_extract;exact rfl;(conv=>lhs;whnf)<;>exact rfl)|(apply OKx_allocA;intro _)|(apply OKx_ldBA;exact rfl;(first | exact at0|exact at1|exact at2|exact at3|exact at4|exact at5|exact at6|exact at7);exact rfl)|(apply OKx_ldRA;(conv=>lhs;whnf)<;>exact rfl;(with_reducible assumption))|(apply OKx_slit1;(conv=>lhs;whnf)<;>exact rfl;exact rfl;intro _)|(apply OKx_stBA; kernel_rfl;exact rfl;exact rfl;exact rfl;(first | exact at0|exact at1|exact at2|exact at3|exact at4|exact at5|exact at6|exact at7);exact rfl;exact rfl;exact rfl))
  · refine bodyQ_r1 (by ((conv=>lhs;whnf)<;>exact rfl)) ?_
    exact ⟨_, Ent.nil, rfl, rfl⟩
  · rename_i hs
    exact absurd rfl hs
def fin36 (s : Stem) : Bool := !(great36 s 10) && decide (stCheck s = 0)
set_option maxRecDepth 100000 in
set_option maxHeartbeats 4000000 in
theorem fine36_sat (v : Value) (s : Stem) (w : World) (h : Stm w v s) : SatV Tryd.prog 14 [v] w (.bool (fin36 s)) := by
  have hst := h
  obtain ⟨nv, ev, pv, rfl, _, _, _⟩ := h
  refine SatL.of 11 [2] Tryd.func14 (by kernel_rfl) (by kernel_rfl) rfl rfl rfl rfl ?_
  repeat' (first|(apply OK_seq)|(apply thenQ_n)|(apply OK_region)|(apply OKx_gc 46;exact rfl; refine OKx_callB (f := 46) (b := great36 s 10) rfl rfl rfl (fun w1 hp => Great36_sat _ s 10 w1 (hst.below hp.below)) ?_ ?_ <;> intro hg)|(apply OKx_gc 47;exact rfl; refine OKx_callV (f := 47) (v := .int .i64 (stCheck s)) rfl rfl rfl (fun w1 hp => rstCheck_sat _ s w1 (hst.below hp.below)) ?_)|(apply OKx_nilK)|(apply OK_block)|(apply blockQ_n)|(apply blockQ_s)|(apply thenQ_e)|(apply blockQ_e;exact rfl)|(apply thenQ_r)|(apply blockQ_r)|(apply OK_condT;exact rfl)|(apply OK_condF;exact rfl)|(apply OK_skip)|(apply OK_exit)|(apply OK_ret)|(apply OKx_move;(conv=>lhs;whnf)<;>exact rfl)|(apply OKx_assign;(conv=>lhs;whnf)<;>exact rfl)|(apply OKx_eql;exact rfl;exact rfl;all_goals (intro _; try (exfalso;omega)))|(apply OKx_pickT;exact rfl;(conv=>lhs;whnf)<;>exact rfl)|(apply OKx_pickF;exact rfl;(conv=>lhs;whnf)<;>exact rfl)|(apply OKx_guardT;exact rfl;exact rfl)|(apply OKx_guardF;exact rfl;exact rfl)|(apply OKx_guardU;exact rfl;exact rfl)|(apply OKx_notT;exact rfl)|(apply OKx_notF;exact rfl)|(apply OKx_boxA;exact rfl;intro _)|(apply OKx_ldBA;exact rfl;(first | exact at0|exact at1|exact at2|exact at3|exact at4|exact at5|exact at6|exact at7);exact rfl)|(apply OKx_ldRA;(conv=>lhs;whnf)<;>exact rfl;(with_reducible assumption)))
  all_goals
    refine bodyQ_r1 (by ((conv=>lhs;whnf)<;>exact rfl)) ?_
    refine ⟨_, Ent.nil, bool_eq ?_, rfl⟩
    unfold fin36
    rw [hg]
    first | rfl | simp_all
end Go.Proofs.YtpfemholpigdeaaDoor
namespace Go.Proofs.YtpfemholpigdeaaDoor
theorem dscF_at (par : List (List Int)) (i j : Nat) : ∀ k, j < k → dscF par i k j = if j < i then false else if j = i then true else (par.getD j []).any fun p => dscF par i j p.toNat
  | 0, h => absurd h (by omega)
  | k + 1, h => by
    by_cases hj : j < k
    · rw [← dscF_at par i j k hj]
      exact dscL_old par i j k hj
    · obtain rfl : j = k := by omega
      exact dscL_new par i j
theorem dscF_ext (par : List (List Int)) (i j k m : Nat) (hk : j < k) (hm : j < m) : dscF par i k j = dscF par i m j := by
  rw [dscF_at par i j k hk, dscF_at par i j m hm]
theorem dsnL_mem (par : List (List Int)) (i k j : Nat) : (j : Int) ∈ dsnL par i k ↔ j < k ∧ i < j ∧ dscF par i k j = true := by
  unfold dsnL
  simp only [List.mem_map, List.mem_filter, List.mem_range, Bool.and_eq_true, decide_eq_true_eq]
  constructor
  · rintro ⟨q, ⟨h1, h2, h3⟩, e⟩
    obtain rfl : q = j := by omega
    exact ⟨h1, h2, h3⟩
  · rintro ⟨h1, h2, h3⟩
    exact ⟨j, ⟨h1, h2, h3⟩, rfl⟩
end Go.Proofs.YtpfemholpigdeaaDoor
namespace Go.Proofs.YtpfemholpigdeaaDoor
def des (par : List (List Int)) (i k : Nat) : Prop := dscF par i (k + 1) k = true
theorem des_lt {par : List (List Int)} {i k : Nat} (h : des par i k) : i ≤ k := by
  unfold des at h
  rw [dscF_at _ _ _ _ (Nat.lt_succ_self k)] at h
  by_cases hl : k < i
  · rw [if_pos hl] at h; cases h
  · omega
theorem des_self (par : List (List Int)) (i : Nat) : des par i i := by
  unfold des
  rw [dscF_at _ _ _ _ (Nat.lt_succ_self i), if_neg (by omega), if_pos rfl]
theorem des_rec {par : List (List Int)} (hok : okPar par) (i k : Nat) : des par i k ↔ k = i ∨ (i < k ∧ ∃ p ∈ par.getD k [], des par i p.toNat) := by
  have e : ∀ p ∈ par.getD k [], (dscF par i k p.toNat = true ↔ des par i p.toNat) := fun p hp => by
    have := okPar_getD hok k p hp
    unfold des
    rw [dscF_ext par i p.toNat k (p.toNat + 1) (by omega) (Nat.lt_succ_self _)]
  constructor
  · intro h
    have hl := des_lt h
    unfold des at h
    rw [dscF_at _ _ _ _ (Nat.lt_succ_self k), if_neg (by omega)] at h
    by_cases hk : k = i
    · exact .inl hk
    · rw [if_neg hk] at h
      obtain ⟨p, hp, h2⟩ := List.any_eq_true.1 h
      exact .inr ⟨by omega, p, hp, (e p hp).1 h2⟩
  · rintro (rfl | ⟨hl, p, hp, h⟩)
    · exact des_self _ _
    · unfold des
      rw [dscF_at _ _ _ _ (Nat.lt_succ_self k), if_neg (by omega), if_neg (by omega)]
      exact List.any_eq_true.2 ⟨p, hp, (e p hp).2 h⟩
theorem des_mem {par : List (List Int)} (i n j : Nat) : (j : Int) ∈ dsnL par i n ↔ j < n ∧ i < j ∧ des par i j := by
  rw [dsnL_mem]
  unfold des
  constructor
  · rintro ⟨h1, h2, h3⟩
    exact ⟨h1, h2, by rwa [dscF_ext par i j (j + 1) n (Nat.lt_succ_self _) h1]⟩
  · rintro ⟨h1, h2, h3⟩
    exact ⟨h1, h2, by rwa [dscF_ext par i j n (j + 1) h1 (Nat.lt_succ_self _)]⟩
theorem dsnL_asc (par : List (List Int)) (i n : Nat) : (dsnL par i n).Pairwise (· < ·) := by
  unfold dsnL
  rw [List.pairwise_map]
  refine List.Pairwise.filter _ ?_
  exact List.pairwise_lt_range.imp fun h => by omega
theorem dsnL_int {par : List (List Int)} {i n : Nat} {x : Int} (h : x ∈ dsnL par i n) : ∃ j : Nat, x = (j : Int) ∧ j < n ∧ i < j ∧ des par i j := by
  have h1 := dsnL_nat par i n x h
  obtain ⟨j, rfl⟩ : ∃ j : Nat, x = (j : Int) := ⟨x.toNat, by omega⟩
  exact ⟨j, rfl, (des_mem i n j).1 h⟩
theorem upN_toNat {i : Nat} {y : Int} (h0 : 0 ≤ y) (hn : y ≠ (i : Int)) : ∃ q : Nat, decI i y = (q : Int) ∧ y = (upN i q : Nat) := by
  unfold decI upN
  by_cases h : (i : Int) < y
  · refine ⟨(y - 1).toNat, by rw [if_pos h];omega, ?_⟩
    rw [if_neg (by omega)]
    omega
  · refine ⟨y.toNat, by rw [if_neg h];omega, ?_⟩
    rw [if_pos (by omega)]
    omega
theorem decI_up (i q : Nat) : decI i ((upN i q : Nat) : Int) = (q : Int) := by
  unfold decI upN
  split <;> split <;> omega
theorem upN_le {i j k : Nat} (h : upN i j ≤ upN i k) : j ≤ k := by
  unfold upN at h
  split at h <;> split at h <;> omega
theorem des_rem {s : Stem} (hc : stCheck s = 0) (i : Nat) (hi : i < s.names.length) (h1 : 1 < s.names.length) (a : Nat) : ∀ m : Nat, m < s.names.length - 1 → (des (remS s i).par a m ↔ des s.par (upN i a) (upN i m)) := by
  have hok := stCheck_okPar s hc
  have hokr := stCheck_okPar _ (remS_check s i hc hi h1)
  intro m
  induction m using Nat.strongRecOn with
  | ind m ih =>
    intro hm
    have hpar := remS_par s i m hi hm
    have hup := upN_lt i s.names.length m hi hm
    rw [des_rec hokr, hpar, des_rec hok]
    constructor
    · rintro (rfl | ⟨hl, q, hq, hd⟩)
      · exact .inl rfl
      · obtain ⟨y, hy, rfl⟩ := (remL_mem s i (upN i m) q).1 hq
        have hyr := remC_rng hok i _ y hy
        obtain ⟨q, e1, e2⟩ := upN_toNat hyr.1 hyr.2.2
        rw [e1, Int.toNat_natCast] at hd
        have hqm : q < m := by
          rw [← hpar] at hq
          have := okPar_getD hokr m _ hq
          rw [e1] at this
          omega
        have hd2 := (ih q hqm (by omega)).1 hd
        right
        refine ⟨upN_inj i a m hl, ?_⟩
        rcases (remC_mem s i (upN i m) y).1 hy with ⟨h2, _⟩ | ⟨h2, h3⟩
        · exact ⟨y, h2, by rw [e2, Int.toNat_natCast]; exact hd2⟩
        · refine ⟨(i : Int), h2, ?_⟩
          rw [Int.toNat_natCast, des_rec hok]
          have := des_lt hd2
          have hyi := okPar_getD hok i y h3
          exact .inr ⟨by omega, y, h3, by rw [e2, Int.toNat_natCast]; exact hd2⟩
    · have tail : ∀ y ∈ remC s i (upN i m), des s.par (upN i a) y.toNat → m = a ∨ a < m ∧ ∃ p ∈ remL s i (upN i m), des (remS s i).par a p.toNat := by
        intro y hy hd
        have hyr := remC_rng hok i _ y hy
        obtain ⟨q, e1, e2⟩ := upN_toNat hyr.1 hyr.2.2
        have hq : (q : Int) ∈ remL s i (upN i m) := (remL_mem _ _ _ _).2 ⟨y, hy, e1⟩
        have hqm : q < m := by
          rw [← hpar] at hq
          have := okPar_getD hokr m _ hq
          omega
        rw [e2, Int.toNat_natCast] at hd
        have hle := upN_le (des_lt hd)
        exact .inr ⟨by omega, (q : Int), hq, by rw [Int.toNat_natCast]; exact (ih q hqm (by omega)).2 hd⟩
      rintro (h | ⟨hl, p, hp, hd⟩)
      · have h2 := @upN_le i m a (by omega)
        have h3 := @upN_le i a m (by omega)
        exact .inl (by omega)
      · by_cases hpi : p = (i : Int)
        · subst hpi
          rw [Int.toNat_natCast, des_rec hok] at hd
          rcases hd with h | ⟨_, y, hy, hd⟩
          · exact absurd h.symm (upN_ne i a)
          · exact tail y ((remC_mem s i (upN i m) y).2 (.inr ⟨hp, hy⟩)) hd
        · exact tail p ((remC_mem s i (upN i m) p).2 (.inl ⟨hp, hpi⟩)) hd
def wanD (i : Nat) (l : List Int) : List Int := (l.filter fun x => decide (x ≠ (i : Int))).map (decI i)
theorem rem_desc {s : Stem} (hc : stCheck s = 0) (i : Nat) (hi : i < s.names.length) (h1 : 1 < s.names.length) (m : Nat) : dsnL (remS s i).par m (s.names.length - 1) = wanD i (dsnL s.par (upN i m) s.names.length) := by
  have e : ∀ x ∈ (dsnL s.par (upN i m) s.names.length).filter (fun x => decide (x ≠ (i : Int))), ∃ q : Nat, decI i x = (q : Int) ∧ x = (upN i q : Nat) := fun x hx => by
    rw [List.mem_filter, decide_eq_true_eq] at hx
    exact upN_toNat (dsnL_nat _ _ _ _ hx.1).1 hx.2
  refine asc_ext _ _ (dsnL_asc _ _ _) ?_ fun x => ?_
  · unfold wanD
    rw [List.pairwise_map]
    refine List.Pairwise.imp_of_mem ?_ ((dsnL_asc s.par (upN i m) s.names.length).filter _)
    intro x y hx hy hxy
    obtain ⟨q, e1, e2⟩ := e x hx
    obtain ⟨r, e3, e4⟩ := e y hy
    rw [e1, e3]
    have : ¬ r ≤ q := fun h => by
      rcases Nat.lt_or_ge r q with h2 | h2
      · have := upN_inj i r q h2;omega
      · obtain rfl : r = q := by omega
        omega
    omega
  · unfold wanD
    rw [List.mem_map]
    constructor
    · intro hx
      obtain ⟨j, rfl, h2, h3, h4⟩ := dsnL_int hx
      refine ⟨((upN i j : Nat) : Int), ?_, decI_up i j⟩
      rw [List.mem_filter, decide_eq_true_eq, des_mem]
      exact ⟨⟨upN_lt i _ j hi h2, upN_inj i m j h3, (des_rem hc i hi h1 m j h2).1 h4⟩, fun h => upN_ne i j (by omega)⟩
    · rintro ⟨y, hy, rfl⟩
      obtain ⟨q, e1, e2⟩ := e y hy
      rw [List.mem_filter] at hy
      rw [e1, des_mem]
      subst e2
      obtain ⟨h2, h3, h4⟩ := (des_mem _ _ _).1 hy.1
      have hq : q < s.names.length - 1 := by unfold upN at h2; split at h2 <;> omega
      have hle := upN_le (des_lt h4)
      have hne : m ≠ q := fun h => by subst h;omega
      exact ⟨hq, by omega, (des_rem hc i hi h1 m q hq).2 h4⟩
end Go.Proofs.YtpfemholpigdeaaDoor
namespace Go.Proofs.YtpfemholpigdeaaDoor
open Go.RowKit
theorem fin36_ok {s : Stem} (h : fin36 s = true) : stCheck s = 0 ∧ s.names.length ≤ 64 ∧ s.names.length ≠ 0 := by
  unfold fin36 at h
  simp only [Bool.and_eq_true, decide_eq_true_eq] at h
  obtain ⟨h0, h1, _⟩ := stCheck_len s h.2
  exact ⟨h.2, h1, h0⟩
theorem chkI_in {s : Stem} {i : Int} (hc : stCheck s = 0) (h0 : 0 ≤ i) (h1 : i < s.names.length) : chkI s i = 0 := by
  unfold chkI
  rw [if_neg (by omega), if_neg (by omega)]
-- Descendants, told for a node that there is.
set_option maxRecDepth 100000 in
set_option maxHeartbeats 4000000 in
theorem DescN_sat (v : Value) (s : Stem) (i : Int) (w : World) (h : Stm w v s) (hc : stCheck s = 0) (h0 : 0 ≤ i) (h1 : i < s.names.length) :
    Sat Tryd.prog 18 [v, .int .i64 i] w (fun u L => ∃ a n c, n = (dsnL s.par i.toNat s.names.length).length ∧ u = .tuple #[.slice a n c, .int .i64 0] ∧ (0 < n → ∃ g, a = some ⟨g, 0, none⟩) ∧ L = [.row 3 1 (.slice a n c) n (ints (dsnL s.par i.toNat s.names.length))]) :=
  (Desc_sat v s i w h).mono fun u L hR => by
    have hl := stCheck_len s hc
    rcases hR with ⟨h2, _⟩ | ⟨_, a, n, c, h2, h3, h4, h5⟩
    · exact absurd (chkI_in hc h0 h1) h2
    · rw [hl.2.2.2.1] at h2 h5
      exact ⟨a, n, c, h2, h3, h4, h5⟩
end Go.Proofs.YtpfemholpigdeaaDoor
namespace Go.Proofs.YtpfemholpigdeaaDoor
open Go.RowKit
theorem ext_getDg {α : Type} (a b : List α) (d : α) (hl : a.length = b.length) (h : ∀ j, j < a.length → a.getD j d = b.getD j d) : a = b := by
  refine List.ext_getElem hl fun j h1 h2 => ?_
  have := h j h1
  rwa [getD_lt _ _ _ h1, getD_lt _ _ _ h2] at this
end Go.Proofs.YtpfemholpigdeaaDoor
