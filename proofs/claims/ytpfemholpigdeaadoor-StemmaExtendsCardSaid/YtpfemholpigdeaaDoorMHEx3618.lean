/-
  Part 18 of the proof: Aw36, Pr39, Pd36, Lr36. No statement of the seat is proved here.
-/
import Derived.Test.YtpfemholpigdeaaDoorMHEx3617
namespace Go.Proofs.YtpfemholpigdeaaDoor
open Go.RowKit
def cmL (par : List (List Int)) (k : Nat) : List Int := ((List.range k).filter (fun i => decide (1 < (par.getD i []).length))).map (fun i : Nat => (i : Int))
theorem cmL_step (par : List (List Int)) (k : Nat) : cmL par (k + 1) = cmL par k ++ if 1 < (par.getD k []).length then [(k : Int)] else [] := by
  unfold cmL
  rw [List.range_succ, List.filter_append, List.map_append]
  congr 1
  by_cases h : 1 < (par.getD k []).length
  · rw [if_pos h, List.filter_cons_of_pos (by simpa using h)]; rfl
  · rw [if_neg h, List.filter_cons_of_neg (by simpa using h)]; rfl
theorem cmL_len (par : List (List Int)) (k : Nat) : (cmL par k).length ≤ k := by
  unfold cmL
  rw [List.length_map]
  exact Nat.le_trans (List.length_filter_le _ _) (by simp)
def cms (s : Stem) : List Int := cmL s.par s.par.length
def CmsR (s : Stem) (u : Value) (L : List Res) : Prop :=
  (stCheck s ≠ 0 ∧ u = .tuple #[.slice none 0 0, .int .i64 1] ∧ L = []) ∨
  (stCheck s = 0 ∧ ∃ a c, u = .tuple #[.slice a (cms s).length c, .int .i64 0] ∧ (0 < (cms s).length → ∃ g, a = some ⟨g, 0, none⟩) ∧ L = [.row 3 1 (.slice a (cms s).length c) (cms s).length (ints (cms s))])
set_option maxRecDepth 100000 in
set_option maxHeartbeats 4000000 in
theorem cms1_sat (v : Value) (xs : List Int) (w : World) (h : Ints w v xs) : SatV Tryd.prog 56 [v] w (.bool (decide (1 < xs.length))) := by
  have hv := h.sl
  refine SatL.of 6 [2] Tryd.func56 (by kernel_rfl) (by kernel_rfl) rfl rfl rfl rfl ?_
  repeat' (first|(apply OK_seq)|(apply thenQ_n)|(apply OK_region)|(apply OKx_nilK)|(apply OK_block)|(apply blockQ_n)|(apply blockQ_s)|(apply thenQ_e)|(apply blockQ_e;exact rfl)|(apply thenQ_r)|(apply blockQ_r)|(apply OK_condT;exact rfl)|(apply OK_condF;exact rfl)|(apply OK_skip)|(apply OK_exit)|(apply OK_ret)|(apply OKx_move;(conv=>lhs;whnf)<;>exact rfl)|(apply OKx_assign;(conv=>lhs;whnf)<;>exact rfl)|(apply OKx_len;exact rfl)|(apply OKx_lenR;(conv=>lhs;whnf)<;>exact rfl;(with_reducible assumption))|(apply OKx_lenR2;(conv=>lhs;whnf)<;>exact rfl;(with_reducible assumption))|(apply OKx_lenO;(conv=>lhs;whnf)<;>exact rfl;(first | exact at0|exact at1|exact at2|exact at3|exact at4|exact at5|exact at6|exact at7))|(apply OKx_gtr;exact rfl;exact rfl;all_goals (intro _; try (exfalso;omega))))
  · refine bodyQ_r1 (by ((conv=>lhs;whnf)<;>exact rfl)) ?_
    exact ⟨_, Ent.nil, bool_eq (decide_eq_true (by omega)).symm, rfl⟩
  · refine bodyQ_r1 (by ((conv=>lhs;whnf)<;>exact rfl)) ?_
    exact ⟨_, Ent.nil, bool_eq (decide_eq_false (by omega)).symm, rfl⟩
set_option maxRecDepth 100000 in
set_option maxHeartbeats 4000000 in
theorem nodesC_sat (v : Value) (s : Stem) (w : World) (h : Stm w v s) : Sat Tryd.prog 51 [v, .func (.func 56) #[] #[]] w (CmsR s) := by
  have hst := h
  obtain ⟨nv, ev, pv, rfl, _, _, hP⟩ := h
  obtain ⟨fv, hpv, hrow⟩ := hP.rows
  have hpb := hpv.bound
  by_cases hc : stCheck s = 0
  rotate_left
  · refine SatL.of 29 [4, 5] Tryd.func51 (by kernel_rfl) (by kernel_rfl) rfl rfl rfl rfl ?_
    repeat' (first|(apply OK_seq)|(apply thenQ_n)|(apply OK_region)|(apply OKx_gc 13;exact rfl; refine OKx_callV (f := 13) rfl rfl rfl (fun w1 hp => stCheck_sat _ s w1 (hst.below hp.below)) ?_)|(apply OKx_nilK)|(apply OK_block)|(apply blockQ_n)|(apply blockQ_s)|(apply thenQ_e)|(apply blockQ_e;exact rfl)|(apply thenQ_r)|(apply blockQ_r)|(apply OK_condT;exact rfl)|(apply OK_condF;exact rfl)|(apply OK_skip)|(apply OK_exit)|(apply OK_ret)|(apply OKx_move;(conv=>lhs;whnf)<;>exact rfl)|(apply OKx_assign;(conv=>lhs;whnf)<;>exact rfl)|(apply OKx_ldB;exact rfl;(first | exact at0|exact at1|exact at2|exact at3|exact at4|exact at5|exact at6|exact at7);exact rfl)|(apply OKx_ldR;(conv=>lhs;whnf)<;>exact rfl;(with_reducible assumption))|(apply OKx_len;exact rfl)|(apply OKx_lenR;(conv=>lhs;whnf)<;>exact rfl;(with_reducible assumption))|(apply OKx_lenR2;(conv=>lhs;whnf)<;>exact rfl;(with_reducible assumption))|(apply OKx_lenO;(conv=>lhs;whnf)<;>exact rfl;(first | exact at0|exact at1|exact at2|exact at3|exact at4|exact at5|exact at6|exact at7))|(apply OKx_lss;exact rfl;exact rfl;all_goals (intro _; try (exfalso;omega)))|(apply OKx_neq;exact rfl;exact rfl;all_goals (intro _; try (exfalso;omega)))|(apply OKx_idxO;exact rfl;exact rfl;omega)|(apply OKx_idxR;(conv=>lhs;whnf)<;>exact rfl;(with_reducible assumption);exact rfl;omega;intro _ _)|(apply OKx_idxOz;exact rfl;exact rfl;omega;omega)|(apply OKx_idxRz;(conv=>lhs;whnf)<;>exact rfl;(with_reducible assumption);exact rfl;omega;omega;intro _ _)|(apply OKx_fldO;exact rfl;exact rfl)|(apply OKx_fldR;(conv=>lhs;whnf)<;>exact rfl;(with_reducible assumption); decide;intro _ _)|(apply OKx_inc;exact rfl;exact rfl;omega)|(apply OKx_addN;exact rfl;exact rfl;omega)|(apply OKx_add;exact rfl;exact rfl;omega;omega)|(apply OKx_boxA;exact rfl;intro _)|(apply OKx_ldBA;exact rfl;(first | exact at0|exact at1|exact at2|exact at3|exact at4|exact at5|exact at6|exact at7);exact rfl)|(apply OKx_ldRA;(conv=>lhs;whnf)<;>exact rfl;(with_reducible assumption))|(apply OKx_slit1;(conv=>lhs;whnf)<;>exact rfl;exact rfl;intro _))
    refine bodyQ_r2 (by ((conv=>lhs;whnf)<;>exact rfl)) (by ((conv=>lhs;whnf)<;>exact rfl)) ?_
    exact ⟨_, Ent.nil, .inl ⟨hc, rfl, rfl⟩⟩
  have hlen := stCheck_len s hc
  refine SatL.of 29 [4, 5] Tryd.func51 (by kernel_rfl) (by kernel_rfl) rfl rfl rfl rfl ?_
  repeat' (first|(apply OK_seq)|(apply thenQ_n)|(apply OK_region)|(apply OKx_gc 13;exact rfl; refine OKx_callV (f := 13) (v := .int .i64 0) rfl rfl rfl (fun w1 hp => by rw [← hc]; exact stCheck_sat _ s w1 (hst.below hp.below)) ?_)|(apply OKx_nilK)|(apply OK_block)|(apply blockQ_n)|(apply blockQ_s)|(apply thenQ_e)|(apply blockQ_e;exact rfl)|(apply thenQ_r)|(apply blockQ_r)|(apply OK_condT;exact rfl)|(apply OK_condF;exact rfl)|(apply OK_skip)|(apply OK_exit)|(apply OK_ret)|(apply OKx_move;(conv=>lhs;whnf)<;>exact rfl)|(apply OKx_assign;(conv=>lhs;whnf)<;>exact rfl)|(apply OKx_ldB;exact rfl;(first | exact at0|exact at1|exact at2|exact at3|exact at4|exact at5|exact at6|exact at7);exact rfl)|(apply OKx_ldR;(conv=>lhs;whnf)<;>exact rfl;(with_reducible assumption))|(apply OKx_len;exact rfl)|(apply OKx_lenR;(conv=>lhs;whnf)<;>exact rfl;(with_reducible assumption))|(apply OKx_lenR2;(conv=>lhs;whnf)<;>exact rfl;(with_reducible assumption))|(apply OKx_lenO;(conv=>lhs;whnf)<;>exact rfl;(first | exact at0|exact at1|exact at2|exact at3|exact at4|exact at5|exact at6|exact at7))|(apply OKx_lss;exact rfl;exact rfl;all_goals (intro _; try (exfalso;omega)))|(apply OKx_neq;exact rfl;exact rfl;all_goals (intro _; try (exfalso;omega)))|(apply OKx_idxO;exact rfl;exact rfl;omega)|(apply OKx_idxR;(conv=>lhs;whnf)<;>exact rfl;(with_reducible assumption);exact rfl;omega;intro _ _)|(apply OKx_idxOz;exact rfl;exact rfl;omega;omega)|(apply OKx_idxRz;(conv=>lhs;whnf)<;>exact rfl;(with_reducible assumption);exact rfl;omega;omega;intro _ _)|(apply OKx_fldO;exact rfl;exact rfl)|(apply OKx_fldR;(conv=>lhs;whnf)<;>exact rfl;(with_reducible assumption); decide;intro _ _)|(apply OKx_inc;exact rfl;exact rfl;omega)|(apply OKx_addN;exact rfl;exact rfl;omega)|(apply OKx_add;exact rfl;exact rfl;omega;omega)|(apply OKx_boxA;exact rfl;intro _)|(apply OKx_ldBA;exact rfl;(first | exact at0|exact at1|exact at2|exact at3|exact at4|exact at5|exact at6|exact at7);exact rfl)|(apply OKx_ldRA;(conv=>lhs;whnf)<;>exact rfl;(with_reducible assumption))|(apply OKx_slit1;(conv=>lhs;whnf)<;>exact rfl;exact rfl;intro _))
  rename_i g2 _
  refine OK_loop2 6 15 [6, 7, 8, 15, 16, 17, 18, 19, 20, 21, 22, 23, 24, 25, 26, 27] (fun m u v L => ∃ (k n : Nat) (a : Option Addr) (c : Nat), k + m = s.par.length ∧ n = (cmL s.par k).length ∧ u = .slice a n c ∧ (0 < n → ∃ g, a = some ⟨g, 0, none⟩) ∧ v = .int .i64 (k : Int) ∧ L = [.row 3 1 (.slice a n c) n (ints (cmL s.par k)), .box 26 g2 [nv, ev, pv]]) s.par.length _ (Ent.mk fun w1 hp => hp.nil 3 1) ⟨0, 0, none, 0, by omega, rfl, rfl, fun h => absurd h (by omega), rfl, rfl⟩ ?_
  rintro m u v L G ⟨k, n, a, c, hm, hn, rfl, ha, rfl, rfl⟩
  by_cases hk : k < s.par.length
  rotate_left
  · obtain rfl : k = s.par.length := by omega
    subst hn
    repeat' (first|(apply OK_seq)|(apply thenQ_n)|(apply OK_region)|(apply OKx_nilK)|(apply OK_block)|(apply blockQ_n)|(apply blockQ_s)|(apply thenQ_e)|(apply blockQ_e;exact rfl)|(apply thenQ_r)|(apply blockQ_r)|(apply OK_condT;exact rfl)|(apply OK_condF;exact rfl)|(apply OK_skip)|(apply OK_exit)|(apply OK_ret)|(apply OKx_move;(conv=>lhs;whnf)<;>exact rfl)|(apply OKx_assign;(conv=>lhs;whnf)<;>exact rfl)|(apply OKx_ldB;exact rfl;(first | exact at0|exact at1|exact at2|exact at3|exact at4|exact at5|exact at6|exact at7);exact rfl)|(apply OKx_ldR;(conv=>lhs;whnf)<;>exact rfl;(with_reducible assumption))|(apply OKx_len;exact rfl)|(apply OKx_lenR;(conv=>lhs;whnf)<;>exact rfl;(with_reducible assumption))|(apply OKx_lenR2;(conv=>lhs;whnf)<;>exact rfl;(with_reducible assumption))|(apply OKx_lenO;(conv=>lhs;whnf)<;>exact rfl;(first | exact at0|exact at1|exact at2|exact at3|exact at4|exact at5|exact at6|exact at7))|(apply OKx_lss;exact rfl;exact rfl;all_goals (intro _; try (exfalso;omega)))|(apply OKx_neq;exact rfl;exact rfl;all_goals (intro _; try (exfalso;omega)))|(apply OKx_idxO;exact rfl;exact rfl;omega)|(apply OKx_idxR;(conv=>lhs;whnf)<;>exact rfl;(with_reducible assumption);exact rfl;omega;intro _ _)|(apply OKx_idxOz;exact rfl;exact rfl;omega;omega)|(apply OKx_idxRz;(conv=>lhs;whnf)<;>exact rfl;(with_reducible assumption);exact rfl;omega;omega;intro _ _)|(apply OKx_fldO;exact rfl;exact rfl)|(apply OKx_fldR;(conv=>lhs;whnf)<;>exact rfl;(with_reducible assumption); decide;intro _ _)|(apply OKx_inc;exact rfl;exact rfl;omega)|(apply OKx_addN;exact rfl;exact rfl;omega)|(apply OKx_add;exact rfl;exact rfl;omega;omega)|(apply OKx_boxA;exact rfl;intro _)|(apply OKx_ldBA;exact rfl;(first | exact at0|exact at1|exact at2|exact at3|exact at4|exact at5|exact at6|exact at7);exact rfl)|(apply OKx_ldRA;(conv=>lhs;whnf)<;>exact rfl;(with_reducible assumption))|(apply OKx_slit1;(conv=>lhs;whnf)<;>exact rfl;exact rfl;intro _))
    refine bodyQ_r2 (by ((conv=>lhs;whnf)<;>exact rfl)) (by ((conv=>lhs;whnf)<;>exact rfl)) ?_
    exact ⟨_, Ent.pick [0] rfl, .inr ⟨hc, a, c, rfl, ha, rfl⟩⟩
  have hs := cmL_step s.par k
  have hle := cmL_len s.par k
  have hrk := hrow k
  generalize hys : cmL s.par k = ys at *
  by_cases hz : 1 < (s.par.getD k []).length
  · rw [if_pos hz] at hs
    repeat' (first|(apply OK_seq)|(apply thenQ_n)|(apply OK_region)|(apply OKx_gc 56;exact rfl; refine OKx_callV (f := 56) (v := .bool true) rfl rfl rfl (fun w1 hp => by have := cms1_sat _ _ w1 (hrk.below hp.below); rwa [decide_eq_true hz] at this) ?_)|(apply OKx_gb; refine OKx_appI 1 0 rfl rfl rfl rfl (by omega) (by omega) ?_; intro g5 c5)|(apply OKx_nilK)|(apply OK_block)|(apply blockQ_n)|(apply blockQ_s)|(apply thenQ_e)|(apply blockQ_e;exact rfl)|(apply thenQ_r)|(apply blockQ_r)|(apply OK_condT;exact rfl)|(apply OK_condF;exact rfl)|(apply OK_skip)|(apply OK_exit)|(apply OK_ret)|(apply OKx_move;(conv=>lhs;whnf)<;>exact rfl)|(apply OKx_assign;(conv=>lhs;whnf)<;>exact rfl)|(apply OKx_ldB;exact rfl;(first | exact at0|exact at1|exact at2|exact at3|exact at4|exact at5|exact at6|exact at7);exact rfl)|(apply OKx_ldR;(conv=>lhs;whnf)<;>exact rfl;(with_reducible assumption))|(apply OKx_len;exact rfl)|(apply OKx_lenR;(conv=>lhs;whnf)<;>exact rfl;(with_reducible assumption))|(apply OKx_lenR2;(conv=>lhs;whnf)<;>exact rfl;(with_reducible assumption))|(apply OKx_lenO;(conv=>lhs;whnf)<;>exact rfl;(first | exact at0|exact at1|exact at2|exact at3|exact at4|exact at5|exact at6|exact at7))|(apply OKx_lss;exact rfl;exact rfl;all_goals (intro _; try (exfalso;omega)))|(apply OKx_neq;exact rfl;exact rfl;all_goals (intro _; try (exfalso;omega)))|(apply OKx_idxO;exact rfl;exact rfl;omega)|(apply OKx_idxR;(conv=>lhs;whnf)<;>exact rfl;(with_reducible assumption);exact rfl;omega;intro _ _)|(apply OKx_idxOz;exact rfl;exact rfl;omega;omega)|(apply OKx_idxRz;(conv=>lhs;whnf)<;>exact rfl;(with_reducible assumption);exact rfl;omega;omega;intro _ _)|(apply OKx_fldO;exact rfl;exact rfl)|(apply OKx_fldR;(conv=>lhs;whnf)<;>exact rfl;(with_reducible assumption); decide;intro _ _)|(apply OKx_inc;exact rfl;exact rfl;omega)|(apply OKx_addN;exact rfl;exact rfl;omega)|(apply OKx_add;exact rfl;exact rfl;omega;omega)|(apply OKx_boxA;exact rfl;intro _)|(apply OKx_ldBA;exact rfl;(first | exact at0|exact at1|exact at2|exact at3|exact at4|exact at5|exact at6|exact at7);exact rfl)|(apply OKx_ldRA;(conv=>lhs;whnf)<;>exact rfl;(with_reducible assumption))|(apply OKx_slit1;(conv=>lhs;whnf)<;>exact rfl;exact rfl;intro _))
    refine ⟨by (repeat' (first | refine agree_upd rfl ?_ | exact agree_over | exact agree_refl _ _ | refine agree_over2 rfl ?_)), m - 1, _, by omega, Ent.pick [1, 2] rfl, ?_⟩
    exact ⟨k + 1, n + 1, _, c5, by omega, by rw [hs, List.length_append, hn]; rfl, rfl, fun _ => ⟨_, rfl⟩, rfl, by rw [hs]; rfl⟩
  · rw [if_neg hz, List.append_nil] at hs
    repeat' (first|(apply OK_seq)|(apply thenQ_n)|(apply OK_region)|(apply OKx_gc 56;exact rfl; refine OKx_callV (f := 56) (v := .bool false) rfl rfl rfl (fun w1 hp => by have := cms1_sat _ _ w1 (hrk.below hp.below); rwa [decide_eq_false hz] at this) ?_)|(apply OKx_nilK)|(apply OK_block)|(apply blockQ_n)|(apply blockQ_s)|(apply thenQ_e)|(apply blockQ_e;exact rfl)|(apply thenQ_r)|(apply blockQ_r)|(apply OK_condT;exact rfl)|(apply OK_condF;exact rfl)|(apply OK_skip)|(apply OK_exit)|(apply OK_ret)|(apply OKx_move;(conv=>lhs;whnf)<;>exact rfl)|(apply OKx_assign;(conv=>lhs;whnf)<;>exact rfl)|(apply OKx_ldB;exact rfl;(first | exact at0|exact at1|exact at2|exact at3|exact at4|exact at5|exact at6|exact at7);exact rfl)|(apply OKx_ldR;(conv=>lhs;whnf)<;>exact rfl;(with_reducible assumption))|(apply OKx_len;exact rfl)|(apply OKx_lenR;(conv=>lhs;whnf)<;>exact rfl;(with_reducible assumption))|(apply OKx_lenR2;(conv=>lhs;whnf)<;>exact rfl;(with_reducible assumption))|(apply OKx_lenO;(conv=>lhs;whnf)<;>exact rfl;(first | exact at0|exact at1|exact at2|exact at3|exact at4|exact at5|exact at6|exact at7))|(apply OKx_lss;exact rfl;exact rfl;all_goals (intro _; try (exfalso;omega)))|(apply OKx_neq;exact rfl;exact rfl;all_goals (intro _; try (exfalso;omega)))|(apply OKx_idxO;exact rfl;exact rfl;omega)|(apply OKx_idxR;(conv=>lhs;whnf)<;>exact rfl;(with_reducible assumption);exact rfl;omega;intro _ _)|(apply OKx_idxOz;exact rfl;exact rfl;omega;omega)|(apply OKx_idxRz;(conv=>lhs;whnf)<;>exact rfl;(with_reducible assumption);exact rfl;omega;omega;intro _ _)|(apply OKx_fldO;exact rfl;exact rfl)|(apply OKx_fldR;(conv=>lhs;whnf)<;>exact rfl;(with_reducible assumption); decide;intro _ _)|(apply OKx_inc;exact rfl;exact rfl;omega)|(apply OKx_addN;exact rfl;exact rfl;omega)|(apply OKx_add;exact rfl;exact rfl;omega;omega)|(apply OKx_boxA;exact rfl;intro _)|(apply OKx_ldBA;exact rfl;(first | exact at0|exact at1|exact at2|exact at3|exact at4|exact at5|exact at6|exact at7);exact rfl)|(apply OKx_ldRA;(conv=>lhs;whnf)<;>exact rfl;(with_reducible assumption))|(apply OKx_slit1;(conv=>lhs;whnf)<;>exact rfl;exact rfl;intro _))
    refine ⟨by (repeat' (first | refine agree_upd rfl ?_ | exact agree_over | exact agree_refl _ _ | refine agree_over2 rfl ?_)), m - 1, _, by omega, Ent.refl _ _, ?_⟩
    exact ⟨k + 1, n, a, c, by omega, by rw [hs]; exact hn, rfl, ha, rfl, by rw [hs]⟩
set_option maxRecDepth 100000 in
set_option maxHeartbeats 4000000 in
theorem Cont_sat (v : Value) (s : Stem) (w : World) (h : Stm w v s) : Sat Tryd.prog 20 [v] w (CmsR s) := by
  have hst := h
  obtain ⟨nv, ev, pv, rfl, _, _, _⟩ := h
  refine SatL.of 8 [2, 3] Tryd.func20 (by kernel_rfl) (by kernel_rfl) rfl rfl rfl rfl ?_
  repeat' (first|(apply OK_seq)|(apply thenQ_n)|(apply OK_region)|(apply OKx_gc 51;exact rfl; refine OKx_call (f := 51) rfl rfl (fun w1 hp => nodesC_sat _ s w1 (hst.below hp.below)) ?_; rintro _ _ (⟨h1, rfl, rfl⟩ | ⟨h1, a, c, rfl, ha, rfl⟩))|(apply OKx_nilK)|(apply OK_block)|(apply blockQ_n)|(apply blockQ_s)|(apply thenQ_e)|(apply blockQ_e;exact rfl)|(apply thenQ_r)|(apply blockQ_r)|(apply OK_condT;exact rfl)|(apply OK_condF;exact rfl)|(apply OK_skip)|(apply OK_exit)|(apply OK_ret)|(apply OKx_assign;(conv=>lhs;whnf)<;>exact rfl)|(apply OKx_extract;exact rfl;(conv=>lhs;whnf)<;>exact rfl)|(apply OKx_boxA;exact rfl;intro _)|(apply OKx_ldBA;exact rfl;(first | exact at0|exact at1|exact at2|exact at3|exact at4|exact at5|exact at6|exact at7);exact rfl)|(apply OKx_ldRA;(conv=>lhs;whnf)<;>exact rfl;(with_reducible assumption)))
  · refine bodyQ_r2 (by ((conv=>lhs;whnf)<;>exact rfl)) (by ((conv=>lhs;whnf)<;>exact rfl)) ?_
    exact ⟨_, Ent.nil, .inl ⟨h1, rfl, rfl⟩⟩
  · refine bodyQ_r2 (by ((conv=>lhs;whnf)<;>exact rfl)) (by ((conv=>lhs;whnf)<;>exact rfl)) ?_
    exact ⟨_, Ent.pick [0] rfl, .inr ⟨h1, a, c, rfl, ha, rfl⟩⟩
abbrev tx36 : ByteArray := ⟨#[120, 32, 108, 111, 115, 116, 10, 65, 32, 101, 120, 116, 97, 110, 116, 32, 102, 114, 111, 109, 32, 120, 10, 66, 32, 101, 120, 116, 97, 110, 116, 32, 102, 114, 111, 109, 32, 120, 10, 67, 32, 101, 120, 116, 97, 110, 116, 32, 102, 114, 111, 109, 32, 65, 32, 66, 10]⟩
abbrev ty36 : ByteArray := ⟨#[120, 32, 108, 111, 115, 116, 10, 66, 32, 101, 120, 116, 97, 110, 116, 32, 102, 114, 111, 109, 32, 120, 10, 67, 32, 101, 120, 116, 97, 110, 116, 32, 102, 114, 111, 109, 32, 120, 32, 66, 10]⟩
theorem tx36E : psE tx36 = 0 := by decide +kernel
theorem tx36R : rts (psS tx36) = [0] := by decide +kernel
theorem tx36C : cms (psS tx36) = [3] := by decide +kernel
theorem tx36L : (psS tx36).names.length = 4 := by decide +kernel
theorem srtK_compact36 (xs : List Int) (h : ∀ x ∈ xs, 0 ≤ x ∧ x < 64) : srtK xs 64 = Lib.compact (srtL xs) := by
  refine asc_ext _ _ (srtK_asc _ _) (compact_asc _ (srtL_le _)) fun x => ?_
  rw [srtK_mem, compact_mem, srtL_mem]
  exact ⟨fun h => h.1, fun hx => ⟨hx, (h x hx).1, by have := (h x hx).2;omega⟩⟩
theorem tx36K : kpt 1 (psS tx36).names.length = [0, 2, 3] := by decide +kernel
theorem tx36B : ∀ k ∈ [0, 2, 3], ∀ x ∈ expL ((psS tx36).par.getD 1 []) 1 ((psS tx36).par.getD k []), 0 ≤ x ∧ x < 64 := by decide +kernel
theorem tx36M : remS (psS tx36) 1 = ⟨[⟨#[120]⟩, ⟨#[66]⟩, ⟨#[67]⟩], [false, true, true], [[], [0], [0, 1]]⟩ := by
  have e1 : [0, 2, 3].map (fun k => (psS tx36).names.getD k ByteArray.empty) = [⟨#[120]⟩, ⟨#[66]⟩, ⟨#[67]⟩] := by decide +kernel
  have e2 : [0, 2, 3].map (fun k => (psS tx36).ext.getD k false) = [false, true, true] := by decide +kernel
  have e3 : [0, 2, 3].map (fun k => (srtK (expL ((psS tx36).par.getD 1 []) 1 ((psS tx36).par.getD k [])) 64).map (decI 1)) = [[], [0], [0, 1]] := by decide +kernel
  have e4 : [0, 2, 3].map (remL (psS tx36) 1) = [0, 2, 3].map (fun k => (srtK (expL ((psS tx36).par.getD 1 []) 1 ((psS tx36).par.getD k [])) 64).map (decI 1)) := by
    apply List.map_congr_left
    intro k hk
    unfold remL remC
    rw [srtK_compact36 _ (tx36B k hk)]
  unfold remS
  rw [tx36K, e1, e2, e4, e3]
theorem tx36P : prE (remS (psS tx36) 1) = 0 ∧ prT (remS (psS tx36) 1) = ty36.data.toList := by
  rw [tx36M]
  decide +kernel
theorem tx36I : chkI (psS tx36) 1 = 0 := by decide +kernel
set_option maxRecDepth 100000 in
set_option maxHeartbeats 4000000 in
theorem PaA_sat (w : World) (hm : MxL w) : Sat Tryd.prog 11 [.string tx36] w (fun u Z => ∃ a b c d e f g h i, u = .tuple #[.agg #[.slice a b c, .slice d e f, .slice g h i], .int .i64 0] ∧ ∀ w0 w, Hp w0.heap.size w0 w Z → Stm w (.agg #[.slice a b c, .slice d e f, .slice g h i]) (psS tx36)) :=
  (Parse_sat tx36 w hm).mono fun u L h => by
    rcases h with ⟨h, _⟩ | ⟨_, na, nc, ea, ec, pa, pc, h1, h2⟩
    · exact absurd tx36E h
    · exact ⟨_, _, _, _, _, _, _, _, _, h1, h2⟩
set_option maxRecDepth 100000 in
set_option maxHeartbeats 4000000 in
theorem RtA_sat (v : Value) (w : World) (h : Stm w v (psS tx36)) : Sat Tryd.prog 17 [v] w (fun u L => ∃ a c, u = .tuple #[.slice a 1 c, .int .i64 0] ∧ L = [.row 3 1 (.slice a 1 c) 1 (ints [0])]) :=
  (Roots_sat v _ w h).mono fun u L h => by
    rcases h with ⟨h, _⟩ | ⟨_, a, c, h1, _, h2⟩
    · exact absurd (psE_parts tx36E).2.2.2 h
    · rw [tx36R] at h1 h2
      exact ⟨a, c, h1, h2⟩
set_option maxRecDepth 100000 in
set_option maxHeartbeats 4000000 in
theorem CmA_sat (v : Value) (w : World) (h : Stm w v (psS tx36)) : Sat Tryd.prog 20 [v] w (fun u L => ∃ a c, u = .tuple #[.slice a 1 c, .int .i64 0] ∧ L = [.row 3 1 (.slice a 1 c) 1 (ints [3])]) :=
  (Cont_sat v _ w h).mono fun u L h => by
    rcases h with ⟨h, _⟩ | ⟨_, a, c, h1, _, h2⟩
    · exact absurd (psE_parts tx36E).2.2.2 h
    · rw [tx36C] at h1 h2
      exact ⟨a, c, h1, h2⟩
set_option maxRecDepth 100000 in
set_option maxHeartbeats 4000000 in
theorem RmA_sat (v : Value) (w : World) (h : Stm w v (psS tx36)) : Sat Tryd.prog 22 [v, .int .i64 1] w (fun u Z => ∃ a b c d e f g h i, u = .tuple #[.agg #[.slice a b c, .slice d e f, .slice g h i], .int .i64 0] ∧ ∀ w0 w, Hp w0.heap.size w0 w Z → Stm w (.agg #[.slice a b c, .slice d e f, .slice g h i]) (remS (psS tx36) 1)) :=
  (Rem_sat v _ 1 w h).mono fun u L h => by
    rcases h with ⟨h, _⟩ | ⟨_, h, _⟩ | ⟨_, _, na, nc, ea, ec, pa, pc, h1, h2⟩
    · exact absurd tx36I h
    · rw [tx36L] at h;omega
    · exact ⟨_, _, _, _, _, _, _, _, _, h1, h2⟩
set_option maxRecDepth 100000 in
set_option maxHeartbeats 4000000 in
theorem PrA_sat (v : Value) (w : World) (h : Stm w v (remS (psS tx36) 1)) : SatV Tryd.prog 12 [v] w (.tuple #[.string ty36, .int .i64 0]) := by
  have := Print_sat v _ w h
  unfold prV at this
  rw [tx36P.1, if_pos rfl, tx36P.2] at this
  exact this
set_option maxRecDepth 100000 in
set_option maxHeartbeats 4000000 in
theorem awake36_sat (w : World) (hm : MxL w) : SatV Tryd.prog 10 [] w (.bool true) := by
  refine SatL.of 56 [0] Tryd.func10 (by kernel_rfl) (by kernel_rfl) rfl rfl rfl rfl ?_
  repeat' (first|(apply OK_seq)|(apply thenQ_n)|(apply OK_region)|(apply OKx_gb; refine OKx_max5 (r := 0) rfl rfl rfl rfl rfl (by decide) ?_)|(apply OKx_gc 11;exact rfl; refine OKx_call (f := 11) rfl rfl (fun w1 hp => PaA_sat w1 (hm.below hp.below)) ?_; rintro _ Z ⟨sa1, sa2, sa3, sb1, sb2, sb3, sc1, sc2, sc3, rfl, hZ⟩)|(apply OKx_gc 17;exact rfl; refine OKx_call (f := 17) rfl rfl (fun w1 hp => RtA_sat _ w1 (hZ w w1 (hp.sub (by repeat (first | exact List.Sublist.refl _ | exact List.sublist_append_left _ _ | apply List.Sublist.cons))))) ?_; rintro _ _ ⟨ra, rc, rfl, rfl⟩; rw [List.cons_append, List.nil_append])|(apply OKx_gc 20;exact rfl; refine OKx_call (f := 20) rfl rfl (fun w1 hp => CmA_sat _ w1 (hZ w w1 (hp.sub (by repeat (first | exact List.Sublist.refl _ | exact List.sublist_append_left _ _ | apply List.Sublist.cons))))) ?_; rintro _ _ ⟨ca, cc, rfl, rfl⟩; rw [List.cons_append, List.nil_append])|(apply OKx_gc 22;exact rfl; refine OKx_call (f := 22) rfl rfl (fun w1 hp => RmA_sat _ w1 (hZ w w1 (hp.sub (by repeat (first | exact List.Sublist.refl _ | exact List.sublist_append_left _ _ | apply List.Sublist.cons))))) ?_; rintro _ Z2 ⟨ta1, ta2, ta3, tb1, tb2, tb3, tc1, tc2, tc3, rfl, hZ2⟩; refine OKx_ent (Ent.perm List.perm_append_comm) ?_; simp only [List.set_cons_zero, List.cons_append])|(apply OKx_gc 12;exact rfl; refine OKx_callV (f := 12) rfl rfl rfl (fun w1 hp => PrA_sat _ w1 (hZ2 w w1 (hp.sub (((((List.sublist_append_right _ Z2).cons _).cons _).cons _).cons _)))) ?_)|(apply OKx_gc 26;exact rfl; refine OKx_callV (f := 26) (v := .bool true) rfl rfl rfl (fun w1 hp => equalT_sat (.slice ra 1 rc) _ [0] [0] w1 (hp.ints 3 rfl (by decide)) (hp.ints 0 rfl (by decide)) rfl) ?_)|(apply OKx_gc 26;exact rfl; refine OKx_callV (f := 26) (v := .bool true) rfl rfl rfl (fun w1 hp => equalT_sat (.slice ca 1 cc) _ [3] [3] w1 (hp.ints 3 rfl (by decide)) (hp.ints 0 rfl (by decide)) rfl) ?_)|(apply OKx_nilK)|(apply OK_block)|(apply blockQ_n)|(apply blockQ_s)|(apply thenQ_e)|(apply blockQ_e;exact rfl)|(apply thenQ_r)|(apply blockQ_r)|(apply OK_condT;exact rfl)|(apply OK_condF;exact rfl)|(apply OK_skip)|(apply OK_exit)|(apply OK_ret)|(apply OKx_move;(conv=>lhs;whnf)<;>exact rfl)|(apply OKx_assign;(conv=>lhs;whnf)<;>exact rfl)|(apply OKx_eql;exact rfl;exact rfl;all_goals (intro _; try (exfalso;omega)))|(apply OKx_seql;exact rfl;exact rfl; all_goals intro _)|(apply OKx_max;exact rfl;exact rfl)|(apply OKx_pickT;exact rfl;(conv=>lhs;whnf)<;>exact rfl)|(apply OKx_pickF;exact rfl;(conv=>lhs;whnf)<;>exact rfl)|(apply OKx_guardT;exact rfl;exact rfl)|(apply OKx_guardF;exact rfl;exact rfl)|(apply OKx_guardU;exact rfl;exact rfl)|(apply OKx_extract;exact rfl;(conv=>lhs;whnf)<;>exact rfl)|(apply OKx_allocA;intro _)|(apply OKx_ldBA;exact rfl;(first | exact at0|exact at1|exact at2|exact at3|exact at4|exact at5|exact at6|exact at7);exact rfl)|(apply OKx_ldRA;(conv=>lhs;whnf)<;>exact rfl;(with_reducible assumption))|(apply OKx_slit1;(conv=>lhs;whnf)<;>exact rfl;exact rfl;intro _)|(apply OKx_stBA; kernel_rfl;exact rfl;exact rfl;exact rfl;(first | exact at0|exact at1|exact at2|exact at3|exact at4|exact at5|exact at6|exact at7);exact rfl;exact rfl;exact rfl))
  · refine bodyQ_r1 (by ((conv=>lhs;whnf)<;>exact rfl)) ?_
    exact ⟨_, Ent.nil, rfl, rfl⟩
  · rename_i hs
    exact absurd rfl hs
def fin36 (s : Stem) : Bool := !(great36 s 10) && decide (stCheck s = 0)
set_option maxRecDepth 100000 in
set_option maxHeartbeats 4000000 in
theorem fine36_sat (v : Value) (s : Stem) (w : World) (h : Stm w v s) : SatV Tryd.prog 14 [v] w (.bool (fin36 s)) := by
  have hst := h
  obtain ⟨nv, ev, pv, rfl, _, _, _⟩ := h
  refine SatL.of 11 [2] Tryd.func14 (by kernel_rfl) (by kernel_rfl) rfl rfl rfl rfl ?_
  repeat' (first|(apply OK_seq)|(apply thenQ_n)|(apply OK_region)|(apply OKx_gc 46;exact rfl; refine OKx_callB (f := 46) (b := great36 s 10) rfl rfl rfl (fun w1 hp => Great36_sat _ s 10 w1 (hst.below hp.below)) ?_ ?_ <;> intro hg)|(apply OKx_gc 47;exact rfl; refine OKx_callV (f := 47) (v := .int .i64 (stCheck s)) rfl rfl rfl (fun w1 hp => rstCheck_sat _ s w1 (hst.below hp.below)) ?_)|(apply OKx_nilK)|(apply OK_block)|(apply blockQ_n)|(apply blockQ_s)|(apply thenQ_e)|(apply blockQ_e;exact rfl)|(apply thenQ_r)|(apply blockQ_r)|(apply OK_condT;exact rfl)|(apply OK_condF;exact rfl)|(apply OK_skip)|(apply OK_exit)|(apply OK_ret)|(apply OKx_move;(conv=>lhs;whnf)<;>exact rfl)|(apply OKx_assign;(conv=>lhs;whnf)<;>exact rfl)|(apply OKx_eql;exact rfl;exact rfl;all_goals (intro _; try (exfalso;omega)))|(apply OKx_pickT;exact rfl;(conv=>lhs;whnf)<;>exact rfl)|(apply OKx_pickF;exact rfl;(conv=>lhs;whnf)<;>exact rfl)|(apply OKx_guardT;exact rfl;exact rfl)|(apply OKx_guardF;exact rfl;exact rfl)|(apply OKx_guardU;exact rfl;exact rfl)|(apply OKx_notT;exact rfl)|(apply OKx_notF;exact rfl)|(apply OKx_boxA;exact rfl;intro _)|(apply OKx_ldBA;exact rfl;(first | exact at0|exact at1|exact at2|exact at3|exact at4|exact at5|exact at6|exact at7);exact rfl)|(apply OKx_ldRA;(conv=>lhs;whnf)<;>exact rfl;(with_reducible assumption)))
  all_goals
    refine bodyQ_r1 (by ((conv=>lhs;whnf)<;>exact rfl)) ?_
    refine ⟨_, Ent.nil, bool_eq ?_, rfl⟩
    unfold fin36
    rw [hg]
    first | rfl | simp_all
end Go.Proofs.YtpfemholpigdeaaDoor
namespace Go.Proofs.YtpfemholpigdeaaDoor
theorem dscF_at (par : List (List Int)) (i j : Nat) : ∀ k, j < k → dscF par i k j = if j < i then false else if j = i then true else (par.getD j []).any fun p => dscF par i j p.toNat
  | 0, h => absurd h (by omega)
  | k + 1, h => by
    by_cases hj : j < k
    · rw [← dscF_at par i j k hj]
      exact dscL_old par i j k hj
    · obtain rfl : j = k := by omega
      exact dscL_new par i j
theorem dscF_ext (par : List (List Int)) (i j k m : Nat) (hk : j < k) (hm : j < m) : dscF par i k j = dscF par i m j := by
  rw [dscF_at par i j k hk, dscF_at par i j m hm]
theorem dsnL_mem (par : List (List Int)) (i k j : Nat) : (j : Int) ∈ dsnL par i k ↔ j < k ∧ i < j ∧ dscF par i k j = true := by
  unfold dsnL
  simp only [List.mem_map, List.mem_filter, List.mem_range, Bool.and_eq_true, decide_eq_true_eq]
  constructor
  · rintro ⟨q, ⟨h1, h2, h3⟩, e⟩
    obtain rfl : q = j := by omega
    exact ⟨h1, h2, h3⟩
  · rintro ⟨h1, h2, h3⟩
    exact ⟨j, ⟨h1, h2, h3⟩, rfl⟩
end Go.Proofs.YtpfemholpigdeaaDoor
namespace Go.Proofs.YtpfemholpigdeaaDoor
def des (par : List (List Int)) (i k : Nat) : Prop := dscF par i (k + 1) k = true
theorem des_lt {par : List (List Int)} {i k : Nat} (h : des par i k) : i ≤ k := by
  unfold des at h
  rw [dscF_at _ _ _ _ (Nat.lt_succ_self k)] at h
  by_cases hl : k < i
  · rw [if_pos hl] at h; cases h
  · omega
theorem des_self (par : List (List Int)) (i : Nat) : des par i i := by
  unfold des
  rw [dscF_at _ _ _ _ (Nat.lt_succ_self i), if_neg (by omega), if_pos rfl]
theorem des_rec {par : List (List Int)} (hok : okPar par) (i k : Nat) : des par i k ↔ k = i ∨ (i < k ∧ ∃ p ∈ par.getD k [], des par i p.toNat) := by
  have e : ∀ p ∈ par.getD k [], (dscF par i k p.toNat = true ↔ des par i p.toNat) := fun p hp => by
    have := okPar_getD hok k p hp
    unfold des
    rw [dscF_ext par i p.toNat k (p.toNat + 1) (by omega) (Nat.lt_succ_self _)]
  constructor
  · intro h
    have hl := des_lt h
    unfold des at h
    rw [dscF_at _ _ _ _ (Nat.lt_succ_self k), if_neg (by omega)] at h
    by_cases hk : k = i
    · exact .inl hk
    · rw [if_neg hk] at h
      obtain ⟨p, hp, h2⟩ := List.any_eq_true.1 h
      exact .inr ⟨by omega, p, hp, (e p hp).1 h2⟩
  · rintro (rfl | ⟨hl, p, hp, h⟩)
    · exact des_self _ _
    · unfold des
      rw [dscF_at _ _ _ _ (Nat.lt_succ_self k), if_neg (by omega), if_neg (by omega)]
      exact List.any_eq_true.2 ⟨p, hp, (e p hp).2 h⟩
theorem des_mem {par : List (List Int)} (i n j : Nat) : (j : Int) ∈ dsnL par i n ↔ j < n ∧ i < j ∧ des par i j := by
  rw [dsnL_mem]
  unfold des
  constructor
  · rintro ⟨h1, h2, h3⟩
    exact ⟨h1, h2, by rwa [dscF_ext par i j (j + 1) n (Nat.lt_succ_self _) h1]⟩
  · rintro ⟨h1, h2, h3⟩
    exact ⟨h1, h2, by rwa [dscF_ext par i j n (j + 1) h1 (Nat.lt_succ_self _)]⟩
theorem dsnL_asc (par : List (List Int)) (i n : Nat) : (dsnL par i n).Pairwise (· < ·) := by
  unfold dsnL
  rw [List.pairwise_map]
  refine List.Pairwise.filter _ ?_
  exact List.pairwise_lt_range.imp fun h => by omega
theorem dsnL_int {par : List (List Int)} {i n : Nat} {x : Int} (h : x ∈ dsnL par i n) : ∃ j : Nat, x = (j : Int) ∧ j < n ∧ i < j ∧ des par i j := by
  have h1 := dsnL_nat par i n x h
  obtain ⟨j, rfl⟩ : ∃ j : Nat, x = (j : Int) := ⟨x.toNat, by omega⟩
  exact ⟨j, rfl, (des_mem i n j).1 h⟩
theorem extS_par (s : Stem) (c p : Nat) (k : Nat) (hc : c < s.par.length) (x : Int) (h : extE s c p = 0) : x ∈ (extS s c p).par.getD k [] ↔ x ∈ s.par.getD k [] ∨ (k = c ∧ x = (p : Int)) := by
  unfold extE at h
  have h1 : stCheck s = 0 := by
    by_cases h2 : stCheck s = 0
    · exact h2
    · rw [if_pos h2] at h;omega
  have hok := stCheck_okPar s h1
  have hlen := stCheck_len s h1
  rw [if_neg (by omega)] at h
  have h2 : ¬ ((c : Int) < 0 ∨ (s.names.length : Int) ≤ c ∨ (p : Int) < 0 ∨ (s.names.length : Int) ≤ p) := fun h2 => by rw [if_pos h2] at h;omega
  rw [if_neg h2] at h
  have e : (extS s c p).par.getD k [] = if c = k then extP s c p else s.par.getD k [] := by
    unfold extS
    simp only [Int.toNat_natCast, List.getD_eq_getElem?_getD, List.getElem?_set]
    by_cases hck : c = k
    · rw [if_pos hck, if_pos hck, if_pos hc]; rfl
    · rw [if_neg hck, if_neg hck]
  rw [e]
  by_cases hck : c = k
  · subst hck
    rw [if_pos rfl]
    unfold extP
    rw [srtK_mem, List.mem_cons, Int.toNat_natCast]
    constructor
    · rintro ⟨h3 | h3, _⟩
      · exact .inr ⟨rfl, h3⟩
      · exact .inl h3
    · rintro (h3 | ⟨_, h3⟩)
      · have := okPar_getD hok _ _ h3
        exact ⟨.inr h3, this.1, by omega⟩
      · exact ⟨.inl h3, by omega, by omega⟩
  · rw [if_neg hck]
    constructor
    · exact fun h3 => .inl h3
    · rintro (h3 | ⟨h3, _⟩)
      · exact h3
      · exact absurd h3.symm hck
theorem des_ext {s : Stem} (c p : Nat) (h : extE s c p = 0) (hcl : c < s.par.length) (n : Nat) : ∀ k : Nat, des (extS s c p).par n k ↔ des s.par n k ∨ (des s.par n p ∧ des s.par c k) := by
  have hc : stCheck s = 0 := by
    unfold extE at h
    by_cases h2 : stCheck s = 0
    · exact h2
    · rw [if_pos h2] at h;omega
  have hok := stCheck_okPar s hc
  have hokx := (extS_ok h).1
  have hpc : p < c := by
    have h2 := (extS_par s c p c hcl (p : Int) h).2 (.inr ⟨rfl, rfl⟩)
    have := okPar_getD hokx c _ h2
    omega
  intro k
  induction k using Nat.strongRecOn with
  | ind k ih =>
    rw [des_rec hokx]
    constructor
    · rintro (rfl | ⟨hl, q, hq, hd⟩)
      · exact .inl (des_self _ _)
      · have hr := okPar_getD hokx k q hq
        rw [ih q.toNat (by omega)] at hd
        rcases (extS_par s c p k hcl q h).1 hq with h2 | ⟨h2, h3⟩
        · rcases hd with h4 | ⟨h4, h5⟩
          · exact .inl ((des_rec hok n k).2 (.inr ⟨hl, q, h2, h4⟩))
          · have := des_lt h5
            exact .inr ⟨h4, (des_rec hok c k).2 (.inr ⟨by omega, q, h2, h5⟩)⟩
        · subst h2 h3
          rw [Int.toNat_natCast] at hd
          rcases hd with h4 | ⟨h4, h5⟩
          · exact .inr ⟨h4, des_self _ _⟩
          · exact .inr ⟨h4, des_self _ _⟩
    · rintro (hd | ⟨hd1, hd2⟩)
      · rcases (des_rec hok n k).1 hd with rfl | ⟨hl, q, hq, hd⟩
        · exact .inl rfl
        · have hr := okPar_getD hok k q hq
          exact .inr ⟨hl, q, (extS_par s c p k hcl q h).2 (.inl hq), (ih q.toNat (by omega)).2 (.inl hd)⟩
      · have h3 := des_lt hd1
        rcases (des_rec hok c k).1 hd2 with rfl | ⟨hl, q, hq, hd⟩
        · exact .inr ⟨by omega, (p : Int), (extS_par s k p k hcl _ h).2 (.inr ⟨rfl, rfl⟩), by rw [Int.toNat_natCast]; exact (ih p hpc).2 (.inl hd1)⟩
        · have hr := okPar_getD hok k q hq
          exact .inr ⟨by omega, q, (extS_par s c p k hcl q h).2 (.inl hq), (ih q.toNat (by omega)).2 (.inr ⟨hd1, hd⟩)⟩
theorem ext_desc (s : Stem) (c p : Nat) (h : extE s c p = 0) (n : Nat) (hn : n < s.names.length) :
    dsnL (extS s c p).par n s.names.length = if n = p ∨ (p : Int) ∈ dsnL s.par n s.names.length then Lib.compact (srtL (dsnL s.par n s.names.length ++ ((c : Int) :: dsnL s.par c s.names.length))) else dsnL s.par n s.names.length := by
  obtain ⟨h1, h2, h3, h4, _⟩ := extE_zero h
  have hlen := stCheck_len s h1
  have hok := stCheck_okPar s h1
  have key := des_ext c p h (by omega) n
  have hd : (n = p ∨ (p : Int) ∈ dsnL s.par n s.names.length) ↔ des s.par n p := by
    rw [des_mem]
    constructor
    · rintro (rfl | ⟨_, _, h5⟩)
      · exact des_self _ _
      · exact h5
    · intro h5
      have := des_lt h5
      by_cases e : n = p
      · exact .inl e
      · exact .inr ⟨by omega, by omega, h5⟩
  by_cases hp : des s.par n p
  · rw [if_pos (hd.2 hp)]
    have hnp := des_lt hp
    refine asc_ext _ _ (dsnL_asc _ _ _) (compact_asc _ (srtL_le _)) fun x => ?_
    rw [compact_mem, srtL_mem, List.mem_append, List.mem_cons]
    constructor
    · intro hx
      obtain ⟨j, rfl, h5, h6, h7⟩ := dsnL_int hx
      rcases (key j).1 h7 with h8 | ⟨_, h8⟩
      · exact .inl ((des_mem _ _ _).2 ⟨h5, h6, h8⟩)
      · have := des_lt h8
        by_cases e : j = c
        · exact .inr (.inl (by omega))
        · exact .inr (.inr ((des_mem _ _ _).2 ⟨h5, by omega, h8⟩))
    · rintro (hx | hx | hx)
      · obtain ⟨j, rfl, h5, h6, h7⟩ := dsnL_int hx
        exact (des_mem _ _ _).2 ⟨h5, h6, (key j).2 (.inl h7)⟩
      · subst hx
        exact (des_mem _ _ _).2 ⟨by omega, by omega, (key c).2 (.inr ⟨hp, des_self _ _⟩)⟩
      · obtain ⟨j, rfl, h5, h6, h7⟩ := dsnL_int hx
        exact (des_mem _ _ _).2 ⟨h5, by omega, (key j).2 (.inr ⟨hp, h7⟩)⟩
  · rw [if_neg (fun h5 => hp (hd.1 h5))]
    refine asc_ext _ _ (dsnL_asc _ _ _) (dsnL_asc _ _ _) fun x => ?_
    constructor
    · intro hx
      obtain ⟨j, rfl, h5, h6, h7⟩ := dsnL_int hx
      rcases (key j).1 h7 with h8 | ⟨h8, _⟩
      · exact (des_mem _ _ _).2 ⟨h5, h6, h8⟩
      · exact absurd h8 hp
    · intro hx
      obtain ⟨j, rfl, h5, h6, h7⟩ := dsnL_int hx
      exact (des_mem _ _ _).2 ⟨h5, h6, (key j).2 (.inl h7)⟩
end Go.Proofs.YtpfemholpigdeaaDoor
namespace Go.Proofs.YtpfemholpigdeaaDoor
open Go.RowKit
theorem fin36_ok {s : Stem} (h : fin36 s = true) : stCheck s = 0 ∧ s.names.length ≤ 64 ∧ s.names.length ≠ 0 := by
  unfold fin36 at h
  simp only [Bool.and_eq_true, decide_eq_true_eq] at h
  obtain ⟨h0, h1, _⟩ := stCheck_len s h.2
  exact ⟨h.2, h1, h0⟩
theorem chkI_in {s : Stem} {i : Int} (hc : stCheck s = 0) (h0 : 0 ≤ i) (h1 : i < s.names.length) : chkI s i = 0 := by
  unfold chkI
  rw [if_neg (by omega), if_neg (by omega)]
-- Descendants, told for a node that there is.
set_option maxRecDepth 100000 in
set_option maxHeartbeats 4000000 in
theorem DescN_sat (v : Value) (s : Stem) (i : Int) (w : World) (h : Stm w v s) (hc : stCheck s = 0) (h0 : 0 ≤ i) (h1 : i < s.names.length) :
    Sat Tryd.prog 18 [v, .int .i64 i] w (fun u L => ∃ a n c, n = (dsnL s.par i.toNat s.names.length).length ∧ u = .tuple #[.slice a n c, .int .i64 0] ∧ (0 < n → ∃ g, a = some ⟨g, 0, none⟩) ∧ L = [.row 3 1 (.slice a n c) n (ints (dsnL s.par i.toNat s.names.length))]) :=
  (Desc_sat v s i w h).mono fun u L hR => by
    have hl := stCheck_len s hc
    rcases hR with ⟨h2, _⟩ | ⟨_, a, n, c, h2, h3, h4, h5⟩
    · exact absurd (chkI_in hc h0 h1) h2
    · rw [hl.2.2.2.1] at h2 h5
      exact ⟨a, n, c, h2, h3, h4, h5⟩
end Go.Proofs.YtpfemholpigdeaaDoor
