/-
  Part 29 of the proof: Rc31, Tr38, Tw39, Pp39. No statement of the seat is proved here.
-/
import Derived.Test.YtdigdmnnjbndlaaGreatDoorMHTa3928
namespace Go.Proofs.YtdigdmnnjbndlaaGreatDoor
open Go.RowKit
def great31 (t : Tre) (n : Int) : Bool := decide ((n < t.par.length ∧ t.par.length ≤ 64) ∨ 66 < t.par.length ∨ t.par.length + 2 < t.names.length) || t.names.any (fun x => decide (20 < x.size))
set_option maxRecDepth 100000 in
set_option maxHeartbeats 4000000 in
theorem Great31_sat (v : Value) (t : Tre) (n : Int) (w : World) (h : Tri w v t) : SatV Tryz.prog 7 [v, .int .i64 n] w (.bool (great31 t n)) := by
  obtain ⟨pv, nv, rfl, hP, hN⟩ := h
  have hpv := hP.sl
  have hnv := hN.sl
  have hpb := hpv.bound
  have hnb := hnv.bound
  by_cases hg : (n < t.par.length ∧ t.par.length ≤ 64) ∨ 66 < t.par.length ∨ t.par.length + 2 < t.names.length
  · unfold great31
    rw [decide_eq_true hg, Bool.true_or]
    refine SatL.of 47 [4] Tryz.func7 (by kernel_rfl) (by kernel_rfl) rfl rfl rfl rfl ?_
    repeat' (first|(apply OK_seq)|(apply thenQ_n)|(apply OK_region)|(apply OKx_nilK)|(apply OK_block)|(apply blockQ_n)|(apply blockQ_s)|(apply thenQ_e)|(apply blockQ_e;exact rfl)|(apply thenQ_r)|(apply blockQ_r)|(apply OK_condT;exact rfl)|(apply OK_condF;exact rfl)|(apply OK_skip)|(apply OK_exit)|(apply OK_ret)|(apply OKx_move;(conv=>lhs;whnf)<;>exact rfl)|(apply OKx_assign;(conv=>lhs;whnf)<;>exact rfl)|(apply OKx_ldB;exact rfl;(first | exact at0|exact at1|exact at2|exact at3|exact at4|exact at5|exact at6|exact at7);exact rfl)|(apply OKx_ldR;(conv=>lhs;whnf)<;>exact rfl;(with_reducible assumption))|(apply OKx_len;exact rfl)|(apply OKx_lenR;(conv=>lhs;whnf)<;>exact rfl;(with_reducible assumption))|(apply OKx_lenR2;(conv=>lhs;whnf)<;>exact rfl;(with_reducible assumption))|(apply OKx_lenO;(conv=>lhs;whnf)<;>exact rfl;(first | exact at0|exact at1|exact at2|exact at3|exact at4|exact at5|exact at6|exact at7))|(apply OKx_lenS;exact rfl)|(apply OKx_lss;exact rfl;exact rfl;all_goals (intro _; try (exfalso;omega)))|(apply OKx_leq;exact rfl;exact rfl;all_goals (intro _; try (exfalso;omega)))|(apply OKx_gtr;exact rfl;exact rfl;all_goals (intro _; try (exfalso;omega)))|(apply OKx_idxO;exact rfl;exact rfl;omega)|(apply OKx_idxR;(conv=>lhs;whnf)<;>exact rfl;(with_reducible assumption);exact rfl;omega;intro _ _)|(apply OKx_idxOz;exact rfl;exact rfl;omega;omega)|(apply OKx_idxRz;(conv=>lhs;whnf)<;>exact rfl;(with_reducible assumption);exact rfl;omega;omega;intro _ _)|(apply OKx_fldO;exact rfl;exact rfl)|(apply OKx_fldR;(conv=>lhs;whnf)<;>exact rfl;(with_reducible assumption); decide;intro _ _)|(apply OKx_inc;exact rfl;exact rfl;omega)|(apply OKx_addN;exact rfl;exact rfl;omega)|(apply OKx_add;exact rfl;exact rfl;omega;omega)|(apply OKx_pickT;exact rfl;(conv=>lhs;whnf)<;>exact rfl)|(apply OKx_pickF;exact rfl;(conv=>lhs;whnf)<;>exact rfl)|(apply OKx_guardT;exact rfl;exact rfl)|(apply OKx_guardF;exact rfl;exact rfl)|(apply OKx_guardU;exact rfl;exact rfl)|(apply OKx_boxA;exact rfl;intro _))
    all_goals
      refine bodyQ_r1 (by ((conv=>lhs;whnf)<;>exact rfl)) ?_
      exact ⟨_, Ent.nil, rfl, rfl⟩
  unfold great31
  rw [decide_eq_false hg, Bool.false_or]
  refine SatL.of 47 [4] Tryz.func7 (by kernel_rfl) (by kernel_rfl) rfl rfl rfl rfl ?_
  repeat' (first|(apply OK_seq)|(apply thenQ_n)|(apply OK_region)|(apply OKx_nilK)|(apply OK_block)|(apply blockQ_n)|(apply blockQ_s)|(apply thenQ_e)|(apply blockQ_e;exact rfl)|(apply thenQ_r)|(apply blockQ_r)|(apply OK_condT;exact rfl)|(apply OK_condF;exact rfl)|(apply OK_skip)|(apply OK_exit)|(apply OK_ret)|(apply OKx_move;(conv=>lhs;whnf)<;>exact rfl)|(apply OKx_assign;(conv=>lhs;whnf)<;>exact rfl)|(apply OKx_ldB;exact rfl;(first | exact at0|exact at1|exact at2|exact at3|exact at4|exact at5|exact at6|exact at7);exact rfl)|(apply OKx_ldR;(conv=>lhs;whnf)<;>exact rfl;(with_reducible assumption))|(apply OKx_len;exact rfl)|(apply OKx_lenR;(conv=>lhs;whnf)<;>exact rfl;(with_reducible assumption))|(apply OKx_lenR2;(conv=>lhs;whnf)<;>exact rfl;(with_reducible assumption))|(apply OKx_lenO;(conv=>lhs;whnf)<;>exact rfl;(first | exact at0|exact at1|exact at2|exact at3|exact at4|exact at5|exact at6|exact at7))|(apply OKx_lenS;exact rfl)|(apply OKx_lss;exact rfl;exact rfl;all_goals (intro _; try (exfalso;omega)))|(apply OKx_leq;exact rfl;exact rfl;all_goals (intro _; try (exfalso;omega)))|(apply OKx_gtr;exact rfl;exact rfl;all_goals (intro _; try (exfalso;omega)))|(apply OKx_idxO;exact rfl;exact rfl;omega)|(apply OKx_idxR;(conv=>lhs;whnf)<;>exact rfl;(with_reducible assumption);exact rfl;omega;intro _ _)|(apply OKx_idxOz;exact rfl;exact rfl;omega;omega)|(apply OKx_idxRz;(conv=>lhs;whnf)<;>exact rfl;(with_reducible assumption);exact rfl;omega;omega;intro _ _)|(apply OKx_fldO;exact rfl;exact rfl)|(apply OKx_fldR;(conv=>lhs;whnf)<;>exact rfl;(with_reducible assumption); decide;intro _ _)|(apply OKx_inc;exact rfl;exact rfl;omega)|(apply OKx_addN;exact rfl;exact rfl;omega)|(apply OKx_add;exact rfl;exact rfl;omega;omega)|(apply OKx_pickT;exact rfl;(conv=>lhs;whnf)<;>exact rfl)|(apply OKx_pickF;exact rfl;(conv=>lhs;whnf)<;>exact rfl)|(apply OKx_guardT;exact rfl;exact rfl)|(apply OKx_guardF;exact rfl;exact rfl)|(apply OKx_guardU;exact rfl;exact rfl)|(apply OKx_boxA;exact rfl;intro _))
  · rename_i g1 _ _ _ _
    refine OK_loop1 5 [4, 5, 33, 34, 35, 36, 37, 38, 39, 40, 41, 42, 43, 44, 45, 46] (fun m v L => ∃ k : Nat, k + m = t.names.length ∧ v = .int .i64 (k : Int) ∧ (∀ j, j < k → (t.names.getD j ByteArray.empty).size ≤ 20) ∧ L = [.box 25 g1 [pv, nv]]) t.names.length _ (Ent.refl _ _) ⟨0, by omega, rfl, fun j hj => absurd hj (by omega), rfl⟩ ?_
    rintro m v L G ⟨k, hm, rfl, H, rfl⟩
    by_cases hk : k < t.names.length
    · by_cases hs : 20 < (t.names.getD k ByteArray.empty).size
      · rw [anyD_hit t.names ByteArray.empty _ k hk (decide_eq_true hs)]
        repeat' (first|(apply OK_seq)|(apply thenQ_n)|(apply OK_region)|(apply OKx_nilK)|(apply OK_block)|(apply blockQ_n)|(apply blockQ_s)|(apply thenQ_e)|(apply blockQ_e;exact rfl)|(apply thenQ_r)|(apply blockQ_r)|(apply OK_condT;exact rfl)|(apply OK_condF;exact rfl)|(apply OK_skip)|(apply OK_exit)|(apply OK_ret)|(apply OKx_move;(conv=>lhs;whnf)<;>exact rfl)|(apply OKx_assign;(conv=>lhs;whnf)<;>exact rfl)|(apply OKx_ldB;exact rfl;(first | exact at0|exact at1|exact at2|exact at3|exact at4|exact at5|exact at6|exact at7);exact rfl)|(apply OKx_ldR;(conv=>lhs;whnf)<;>exact rfl;(with_reducible assumption))|(apply OKx_len;exact rfl)|(apply OKx_lenR;(conv=>lhs;whnf)<;>exact rfl;(with_reducible assumption))|(apply OKx_lenR2;(conv=>lhs;whnf)<;>exact rfl;(with_reducible assumption))|(apply OKx_lenO;(conv=>lhs;whnf)<;>exact rfl;(first | exact at0|exact at1|exact at2|exact at3|exact at4|exact at5|exact at6|exact at7))|(apply OKx_lenS;exact rfl)|(apply OKx_lss;exact rfl;exact rfl;all_goals (intro _; try (exfalso;omega)))|(apply OKx_leq;exact rfl;exact rfl;all_goals (intro _; try (exfalso;omega)))|(apply OKx_gtr;exact rfl;exact rfl;all_goals (intro _; try (exfalso;omega)))|(apply OKx_idxO;exact rfl;exact rfl;omega)|(apply OKx_idxR;(conv=>lhs;whnf)<;>exact rfl;(with_reducible assumption);exact rfl;omega;intro _ _)|(apply OKx_idxOz;exact rfl;exact rfl;omega;omega)|(apply OKx_idxRz;(conv=>lhs;whnf)<;>exact rfl;(with_reducible assumption);exact rfl;omega;omega;intro _ _)|(apply OKx_fldO;exact rfl;exact rfl)|(apply OKx_fldR;(conv=>lhs;whnf)<;>exact rfl;(with_reducible assumption); decide;intro _ _)|(apply OKx_inc;exact rfl;exact rfl;omega)|(apply OKx_addN;exact rfl;exact rfl;omega)|(apply OKx_add;exact rfl;exact rfl;omega;omega)|(apply OKx_pickT;exact rfl;(conv=>lhs;whnf)<;>exact rfl)|(apply OKx_pickF;exact rfl;(conv=>lhs;whnf)<;>exact rfl)|(apply OKx_guardT;exact rfl;exact rfl)|(apply OKx_guardF;exact rfl;exact rfl)|(apply OKx_guardU;exact rfl;exact rfl)|(apply OKx_boxA;exact rfl;intro _))
        refine bodyQ_r1 (by ((conv=>lhs;whnf)<;>exact rfl)) ?_
        exact ⟨_, Ent.nil, rfl, rfl⟩
      · repeat' (first|(apply OK_seq)|(apply thenQ_n)|(apply OK_region)|(apply OKx_nilK)|(apply OK_block)|(apply blockQ_n)|(apply blockQ_s)|(apply thenQ_e)|(apply blockQ_e;exact rfl)|(apply thenQ_r)|(apply blockQ_r)|(apply OK_condT;exact rfl)|(apply OK_condF;exact rfl)|(apply OK_skip)|(apply OK_exit)|(apply OK_ret)|(apply OKx_move;(conv=>lhs;whnf)<;>exact rfl)|(apply OKx_assign;(conv=>lhs;whnf)<;>exact rfl)|(apply OKx_ldB;exact rfl;(first | exact at0|exact at1|exact at2|exact at3|exact at4|exact at5|exact at6|exact at7);exact rfl)|(apply OKx_ldR;(conv=>lhs;whnf)<;>exact rfl;(with_reducible assumption))|(apply OKx_len;exact rfl)|(apply OKx_lenR;(conv=>lhs;whnf)<;>exact rfl;(with_reducible assumption))|(apply OKx_lenR2;(conv=>lhs;whnf)<;>exact rfl;(with_reducible assumption))|(apply OKx_lenO;(conv=>lhs;whnf)<;>exact rfl;(first | exact at0|exact at1|exact at2|exact at3|exact at4|exact at5|exact at6|exact at7))|(apply OKx_lenS;exact rfl)|(apply OKx_lss;exact rfl;exact rfl;all_goals (intro _; try (exfalso;omega)))|(apply OKx_leq;exact rfl;exact rfl;all_goals (intro _; try (exfalso;omega)))|(apply OKx_gtr;exact rfl;exact rfl;all_goals (intro _; try (exfalso;omega)))|(apply OKx_idxO;exact rfl;exact rfl;omega)|(apply OKx_idxR;(conv=>lhs;whnf)<;>exact rfl;(with_reducible assumption);exact rfl;omega;intro _ _)|(apply OKx_idxOz;exact rfl;exact rfl;omega;omega)|(apply OKx_idxRz;(conv=>lhs;whnf)<;>exact rfl;(with_reducible assumption);exact rfl;omega;omega;intro _ _)|(apply OKx_fldO;exact rfl;exact rfl)|(apply OKx_fldR;(conv=>lhs;whnf)<;>exact rfl;(with_reducible assumption); decide;intro _ _)|(apply OKx_inc;exact rfl;exact rfl;omega)|(apply OKx_addN;exact rfl;exact rfl;omega)|(apply OKx_add;exact rfl;exact rfl;omega;omega)|(apply OKx_pickT;exact rfl;(conv=>lhs;whnf)<;>exact rfl)|(apply OKx_pickF;exact rfl;(conv=>lhs;whnf)<;>exact rfl)|(apply OKx_guardT;exact rfl;exact rfl)|(apply OKx_guardF;exact rfl;exact rfl)|(apply OKx_guardU;exact rfl;exact rfl)|(apply OKx_boxA;exact rfl;intro _))
        refine ⟨by (repeat' (first | refine agree_upd rfl ?_ | exact agree_over | exact agree_refl _ _ | refine agree_over2 rfl ?_)), m - 1, _, by omega, Ent.refl _ _, ?_⟩
        refine ⟨k + 1, by omega, rfl, fun j hj => ?_, rfl⟩
        by_cases h : j < k
        · exact H j h
        · obtain rfl : j = k := by omega
          omega
    · obtain rfl : k = t.names.length := by omega
      rw [anyD_none t.names ByteArray.empty _ fun j hj => decide_eq_false (by have := H j (by omega);omega)]
      repeat' (first|(apply OK_seq)|(apply thenQ_n)|(apply OK_region)|(apply OKx_nilK)|(apply OK_block)|(apply blockQ_n)|(apply blockQ_s)|(apply thenQ_e)|(apply blockQ_e;exact rfl)|(apply thenQ_r)|(apply blockQ_r)|(apply OK_condT;exact rfl)|(apply OK_condF;exact rfl)|(apply OK_skip)|(apply OK_exit)|(apply OK_ret)|(apply OKx_move;(conv=>lhs;whnf)<;>exact rfl)|(apply OKx_assign;(conv=>lhs;whnf)<;>exact rfl)|(apply OKx_ldB;exact rfl;(first | exact at0|exact at1|exact at2|exact at3|exact at4|exact at5|exact at6|exact at7);exact rfl)|(apply OKx_ldR;(conv=>lhs;whnf)<;>exact rfl;(with_reducible assumption))|(apply OKx_len;exact rfl)|(apply OKx_lenR;(conv=>lhs;whnf)<;>exact rfl;(with_reducible assumption))|(apply OKx_lenR2;(conv=>lhs;whnf)<;>exact rfl;(with_reducible assumption))|(apply OKx_lenO;(conv=>lhs;whnf)<;>exact rfl;(first | exact at0|exact at1|exact at2|exact at3|exact at4|exact at5|exact at6|exact at7))|(apply OKx_lenS;exact rfl)|(apply OKx_lss;exact rfl;exact rfl;all_goals (intro _; try (exfalso;omega)))|(apply OKx_leq;exact rfl;exact rfl;all_goals (intro _; try (exfalso;omega)))|(apply OKx_gtr;exact rfl;exact rfl;all_goals (intro _; try (exfalso;omega)))|(apply OKx_idxO;exact rfl;exact rfl;omega)|(apply OKx_idxR;(conv=>lhs;whnf)<;>exact rfl;(with_reducible assumption);exact rfl;omega;intro _ _)|(apply OKx_idxOz;exact rfl;exact rfl;omega;omega)|(apply OKx_idxRz;(conv=>lhs;whnf)<;>exact rfl;(with_reducible assumption);exact rfl;omega;omega;intro _ _)|(apply OKx_fldO;exact rfl;exact rfl)|(apply OKx_fldR;(conv=>lhs;whnf)<;>exact rfl;(with_reducible assumption); decide;intro _ _)|(apply OKx_inc;exact rfl;exact rfl;omega)|(apply OKx_addN;exact rfl;exact rfl;omega)|(apply OKx_add;exact rfl;exact rfl;omega;omega)|(apply OKx_pickT;exact rfl;(conv=>lhs;whnf)<;>exact rfl)|(apply OKx_pickF;exact rfl;(conv=>lhs;whnf)<;>exact rfl)|(apply OKx_guardT;exact rfl;exact rfl)|(apply OKx_guardF;exact rfl;exact rfl)|(apply OKx_guardU;exact rfl;exact rfl)|(apply OKx_boxA;exact rfl;intro _))
      refine bodyQ_r1 (by ((conv=>lhs;whnf)<;>exact rfl)) ?_
      exact ⟨_, Ent.nil, rfl, rfl⟩
  · rename_i g1 _ _ _
    refine OK_loop1 5 [4, 5, 33, 34, 35, 36, 37, 38, 39, 40, 41, 42, 43, 44, 45, 46] (fun m v L => ∃ k : Nat, k + m = t.names.length ∧ v = .int .i64 (k : Int) ∧ (∀ j, j < k → (t.names.getD j ByteArray.empty).size ≤ 20) ∧ L = [.box 25 g1 [pv, nv]]) t.names.length _ (Ent.refl _ _) ⟨0, by omega, rfl, fun j hj => absurd hj (by omega), rfl⟩ ?_
    rintro m v L G ⟨k, hm, rfl, H, rfl⟩
    by_cases hk : k < t.names.length
    · by_cases hs : 20 < (t.names.getD k ByteArray.empty).size
      · rw [anyD_hit t.names ByteArray.empty _ k hk (decide_eq_true hs)]
        repeat' (first|(apply OK_seq)|(apply thenQ_n)|(apply OK_region)|(apply OKx_nilK)|(apply OK_block)|(apply blockQ_n)|(apply blockQ_s)|(apply thenQ_e)|(apply blockQ_e;exact rfl)|(apply thenQ_r)|(apply blockQ_r)|(apply OK_condT;exact rfl)|(apply OK_condF;exact rfl)|(apply OK_skip)|(apply OK_exit)|(apply OK_ret)|(apply OKx_move;(conv=>lhs;whnf)<;>exact rfl)|(apply OKx_assign;(conv=>lhs;whnf)<;>exact rfl)|(apply OKx_ldB;exact rfl;(first | exact at0|exact at1|exact at2|exact at3|exact at4|exact at5|exact at6|exact at7);exact rfl)|(apply OKx_ldR;(conv=>lhs;whnf)<;>exact rfl;(with_reducible assumption))|(apply OKx_len;exact rfl)|(apply OKx_lenR;(conv=>lhs;whnf)<;>exact rfl;(with_reducible assumption))|(apply OKx_lenR2;(conv=>lhs;whnf)<;>exact rfl;(with_reducible assumption))|(apply OKx_lenO;(conv=>lhs;whnf)<;>exact rfl;(first | exact at0|exact at1|exact at2|exact at3|exact at4|exact at5|exact at6|exact at7))|(apply OKx_lenS;exact rfl)|(apply OKx_lss;exact rfl;exact rfl;all_goals (intro _; try (exfalso;omega)))|(apply OKx_leq;exact rfl;exact rfl;all_goals (intro _; try (exfalso;omega)))|(apply OKx_gtr;exact rfl;exact rfl;all_goals (intro _; try (exfalso;omega)))|(apply OKx_idxO;exact rfl;exact rfl;omega)|(apply OKx_idxR;(conv=>lhs;whnf)<;>exact rfl;(with_reducible assumption);exact rfl;omega;intro _ _)|(apply OKx_idxOz;exact rfl;exact rfl;omega;omega)|(apply OKx_idxRz;(conv=>lhs;whnf)<;>exact rfl;(with_reducible assumption);exact rfl;omega;omega;intro _ _)|(apply OKx_fldO;exact rfl;exact rfl)|(apply OKx_fldR;(conv=>lhs;whnf)<;>exact rfl;(with_reducible assumption); decide;intro _ _)|(apply OKx_inc;exact rfl;exact rfl;omega)|(apply OKx_addN;exact rfl;exact rfl;omega)|(apply OKx_add;exact rfl;exact rfl;omega;omega)|(apply OKx_pickT;exact rfl;(conv=>lhs;whnf)<;>exact rfl)|(apply OKx_pickF;exact rfl;(conv=>lhs;whnf)<;>exact rfl)|(apply OKx_guardT;exact rfl;exact rfl)|(apply OKx_guardF;exact rfl;exact rfl)|(apply OKx_guardU;exact rfl;exact rfl)|(apply OKx_boxA;exact rfl;intro _))
        refine bodyQ_r1 (by ((conv=>lhs;whnf)<;>exact rfl)) ?_
        exact ⟨_, Ent.nil, rfl, rfl⟩
      · repeat' (first|(apply OK_seq)|(apply thenQ_n)|(apply OK_region)|(apply OKx_nilK)|(apply OK_block)|(apply blockQ_n)|(apply blockQ_s)|(apply thenQ_e)|(apply blockQ_e;exact rfl)|(apply thenQ_r)|(apply blockQ_r)|(apply OK_condT;exact rfl)|(apply OK_condF;exact rfl)|(apply OK_skip)|(apply OK_exit)|(apply OK_ret)|(apply OKx_move;(conv=>lhs;whnf)<;>exact rfl)|(apply OKx_assign;(conv=>lhs;whnf)<;>exact rfl)|(apply OKx_ldB;exact rfl;(first | exact at0|exact at1|exact at2|exact at3|exact at4|exact at5|exact at6|exact at7);exact rfl)|(apply OKx_ldR;(conv=>lhs;whnf)<;>exact rfl;(with_reducible assumption))|(apply OKx_len;exact rfl)|(apply OKx_lenR;(conv=>lhs;whnf)<;>exact rfl;(with_reducible assumption))|(apply OKx_lenR2;(conv=>lhs;whnf)<;>exact rfl;(with_reducible assumption))|(apply OKx_lenO;(conv=>lhs;whnf)<;>exact rfl;(first | exact at0|exact at1|exact at2|exact at3|exact at4|exact at5|exact at6|exact at7))|(apply OKx_lenS;exact rfl)|(apply OKx_lss;exact rfl;exact rfl;all_goals (intro _; try (exfalso;omega)))|(apply OKx_leq;exact rfl;exact rfl;all_goals (intro _; try (exfalso;omega)))|(apply OKx_gtr;exact rfl;exact rfl;all_goals (intro _; try (exfalso;omega)))|(apply OKx_idxO;exact rfl;exact rfl;omega)|(apply OKx_idxR;(conv=>lhs;whnf)<;>exact rfl;(with_reducible assumption);exact rfl;omega;intro _ _)|(apply OKx_idxOz;exact rfl;exact rfl;omega;omega)|(apply OKx_idxRz;(conv=>lhs;whnf)<;>exact rfl;(with_reducible assumption);exact rfl;omega;omega;intro _ _)|(apply OKx_fldO;exact rfl;exact rfl)|(apply OKx_fldR;(conv=>lhs;whnf)<;>exact rfl;(with_reducible assumption); decide;intro _ _)|(apply OKx_inc;exact rfl;exact rfl;omega)|(apply OKx_addN;exact rfl;exact rfl;omega)|(apply OKx_add;exact rfl;exact rfl;omega;omega)|(apply OKx_pickT;exact rfl;(conv=>lhs;whnf)<;>exact rfl)|(apply OKx_pickF;exact rfl;(conv=>lhs;whnf)<;>exact rfl)|(apply OKx_guardT;exact rfl;exact rfl)|(apply OKx_guardF;exact rfl;exact rfl)|(apply OKx_guardU;exact rfl;exact rfl)|(apply OKx_boxA;exact rfl;intro _))
        refine ⟨by (repeat' (first | refine agree_upd rfl ?_ | exact agree_over | exact agree_refl _ _ | refine agree_over2 rfl ?_)), m - 1, _, by omega, Ent.refl _ _, ?_⟩
        refine ⟨k + 1, by omega, rfl, fun j hj => ?_, rfl⟩
        by_cases h : j < k
        · exact H j h
        · obtain rfl : j = k := by omega
          omega
    · obtain rfl : k = t.names.length := by omega
      rw [anyD_none t.names ByteArray.empty _ fun j hj => decide_eq_false (by have := H j (by omega);omega)]
      repeat' (first|(apply OK_seq)|(apply thenQ_n)|(apply OK_region)|(apply OKx_nilK)|(apply OK_block)|(apply blockQ_n)|(apply blockQ_s)|(apply thenQ_e)|(apply blockQ_e;exact rfl)|(apply thenQ_r)|(apply blockQ_r)|(apply OK_condT;exact rfl)|(apply OK_condF;exact rfl)|(apply OK_skip)|(apply OK_exit)|(apply OK_ret)|(apply OKx_move;(conv=>lhs;whnf)<;>exact rfl)|(apply OKx_assign;(conv=>lhs;whnf)<;>exact rfl)|(apply OKx_ldB;exact rfl;(first | exact at0|exact at1|exact at2|exact at3|exact at4|exact at5|exact at6|exact at7);exact rfl)|(apply OKx_ldR;(conv=>lhs;whnf)<;>exact rfl;(with_reducible assumption))|(apply OKx_len;exact rfl)|(apply OKx_lenR;(conv=>lhs;whnf)<;>exact rfl;(with_reducible assumption))|(apply OKx_lenR2;(conv=>lhs;whnf)<;>exact rfl;(with_reducible assumption))|(apply OKx_lenO;(conv=>lhs;whnf)<;>exact rfl;(first | exact at0|exact at1|exact at2|exact at3|exact at4|exact at5|exact at6|exact at7))|(apply OKx_lenS;exact rfl)|(apply OKx_lss;exact rfl;exact rfl;all_goals (intro _; try (exfalso;omega)))|(apply OKx_leq;exact rfl;exact rfl;all_goals (intro _; try (exfalso;omega)))|(apply OKx_gtr;exact rfl;exact rfl;all_goals (intro _; try (exfalso;omega)))|(apply OKx_idxO;exact rfl;exact rfl;omega)|(apply OKx_idxR;(conv=>lhs;whnf)<;>exact rfl;(with_reducible assumption);exact rfl;omega;intro _ _)|(apply OKx_idxOz;exact rfl;exact rfl;omega;omega)|(apply OKx_idxRz;(conv=>lhs;whnf)<;>exact rfl;(with_reducible assumption);exact rfl;omega;omega;intro _ _)|(apply OKx_fldO;exact rfl;exact rfl)|(apply OKx_fldR;(conv=>lhs;whnf)<;>exact rfl;(with_reducible assumption); decide;intro _ _)|(apply OKx_inc;exact rfl;exact rfl;omega)|(apply OKx_addN;exact rfl;exact rfl;omega)|(apply OKx_add;exact rfl;exact rfl;omega;omega)|(apply OKx_pickT;exact rfl;(conv=>lhs;whnf)<;>exact rfl)|(apply OKx_pickF;exact rfl;(conv=>lhs;whnf)<;>exact rfl)|(apply OKx_guardT;exact rfl;exact rfl)|(apply OKx_guardF;exact rfl;exact rfl)|(apply OKx_guardU;exact rfl;exact rfl)|(apply OKx_boxA;exact rfl;intro _))
      refine bodyQ_r1 (by ((conv=>lhs;whnf)<;>exact rfl)) ?_
      exact ⟨_, Ent.nil, rfl, rfl⟩
end Go.Proofs.YtdigdmnnjbndlaaGreatDoor
namespace Go.Proofs.YtdigdmnnjbndlaaGreatDoor
open Go.RowKit
theorem idxFrom_at (x : Int) : ∀ (zs : List Int) (i : Nat), 0 ≤ Lib.idxFrom zs x i → ∃ q : Nat, Lib.idxFrom zs x i = ((i + q : Nat) : Int) ∧ q < zs.length ∧ zs.getD q 0 = x
  | [], i, h => by simp [Lib.idxFrom] at h
  | z :: zs, i, h => by
    simp only [Lib.idxFrom] at h ⊢
    split at h
    · rename_i e; rw [if_pos e]; exact ⟨0, rfl, by simp, e.symm ▸ rfl⟩
    · rename_i e
      obtain ⟨q, h1, h2, h3⟩ := idxFrom_at x zs (i + 1) h
      rw [if_neg e]
      exact ⟨q + 1, by rw [h1]; congr 1;omega, by simpa using h2, by simpa using h3⟩
theorem idxFrom_in (x : Int) : ∀ (zs : List Int) (i : Nat), x ∈ zs → 0 ≤ Lib.idxFrom zs x i
  | [], i, h => by cases h
  | z :: zs, i, h => by
    simp only [Lib.idxFrom]
    split
    · omega
    · rename_i e
      rcases List.mem_cons.1 h with h | h
      · exact absurd h.symm (by simpa using e)
      · exact idxFrom_in x zs (i + 1) h
theorem lvs_asc (t : Tre) : (lvs t).Pairwise (· < ·) := by
  unfold lvs lvL
  rw [List.pairwise_map]
  exact (List.Pairwise.filter _ List.pairwise_lt_range).imp (fun h => by omega)
theorem lvs_idx (t : Tre) (k : Nat) (hk : k < (lvs t).length) (x : Int) : Lib.idxOf (lvs t) x = (k : Int) ↔ (lvs t).getD k 0 = x := by
  unfold Lib.idxOf
  constructor
  · intro h
    obtain ⟨q, h1, h2, h3⟩ := idxFrom_at x (lvs t) 0 (by omega)
    obtain rfl : q = k := by omega
    exact h3
  · intro h
    have hm : x ∈ lvs t := by rw [← h, getD_lt _ _ _ hk]; exact List.getElem_mem _
    obtain ⟨q, h1, h2, h3⟩ := idxFrom_at x (lvs t) 0 (idxFrom_in x _ _ hm)
    have hp := List.pairwise_iff_getElem.1 (lvs_asc t)
    rw [getD_lt _ _ _ hk] at h
    rw [getD_lt _ _ _ h2] at h3
    rcases Nat.lt_trichotomy q k with hlt | heq | hgt
    · have := hp q k h2 hk hlt;omega
    · rw [h1];omega
    · have := hp k q hk h2 hgt;omega
theorem lvs_rng (t : Tre) (k : Nat) (hk : k < (lvs t).length) : ∃ q : Nat, (lvs t).getD k 0 = (q : Int) ∧ q < t.names.length := by
  have hm : (lvs t).getD k 0 ∈ lvs t := by rw [getD_lt _ _ _ hk]; exact List.getElem_mem _
  have hm2 := hm
  unfold lvs lvL at hm2
  rw [List.mem_map] at hm2
  obtain ⟨q, hq, e⟩ := hm2
  rw [List.mem_filter, List.mem_range] at hq
  exact ⟨q, e.symm, hq.1⟩
end Go.Proofs.YtdigdmnnjbndlaaGreatDoor
namespace Go.Proofs.YtdigdmnnjbndlaaGreatDoor
open Go.RowKit
theorem ex3S : scN ex1 [-1, 1, 1, 0] = 1 ∧ scE ex1 [-1, 1, 1, 0] = 0 ∧ cerL ex1 [-1, 1, 1, 0] 4 = [1, 1, 1, 0] := by decide +kernel
theorem ex3Score (v sv : Value) (w : World) (h : Stm w v ex1) (hs : Ints w sv [-1, 1, 1, 0]) : SatV Tryz.prog 14 [v, sv] w (.tuple #[.int .i64 1, .int .i64 0]) := by
  have := Score_sat v sv ex1 _ w h hs
  rwa [ex3S.1, ex3S.2.1] at this
theorem ex3Certain (v sv : Value) (w : World) (h : Stm w v ex1) (hs : Ints w sv [-1, 1, 1, 0]) : Sat Tryz.prog 74 [v, sv] w (fun u L => ∃ a c, u = .tuple #[.slice a 4 c, .int .i64 0] ∧ L = [.row 3 1 (.slice a 4 c) 4 (ints [1, 1, 1, 0])]) :=
  (Certain_sat v sv ex1 _ w h hs).mono fun u L hR => by
    rcases hR with ⟨h1, _⟩ | ⟨_, a, c, h1, _, h3⟩
    · exact absurd ex3S.2.1 h1
    · rw [show ([-1, 1, 1, 0] : List Int).length = 4 from rfl, ex3S.2.2] at h3
      exact ⟨a, c, h1, h3⟩
set_option maxRecDepth 100000 in
set_option maxHeartbeats 4000000 in
theorem awakeT39_sat (w : World) : SatV Tryz.prog 34 [] w (.bool true) := by
  refine SatL.of 40 [0] Tryz.func34 (by kernel_rfl) (by kernel_rfl) rfl rfl rfl rfl ?_
  repeat' (first|(apply OK_seq)|(apply thenQ_n)|(apply OK_region)|(apply OKx_gt; apply OKx_slit4; (focus ((conv=>lhs;whnf)<;>exact rfl)); (focus ((conv=>lhs;whnf)<;>exact rfl)); (focus ((conv=>lhs;whnf)<;>exact rfl)); (focus ((conv=>lhs;whnf)<;>exact rfl)); (focus exact rfl); (focus exact rfl); (focus exact rfl); (focus exact rfl);intro _)|(apply OKx_gc 74;exact rfl; refine OKx_call (f := 74) rfl rfl (fun w hp => ex3Certain _ _ w (hp.stm 7 6 2 (ps := [[], [0], [0], [0]]) rfl rfl rfl (by decide) (by decide) (by decide) (by decide) rfl (ltn4 (Ints.nil w) (hp.ints 5 rfl (by decide)) (hp.ints 4 rfl (by decide)) (hp.ints 3 rfl (by decide)))) (hp.ints 0 rfl (by decide))) ?_; rintro _ _ ⟨aA, cA, rfl, rfl⟩; rw [List.cons_append, List.nil_append])|(apply OKx_gc 14;exact rfl; refine OKx_callV (f := 14) (v := .tuple #[.int .i64 1, .int .i64 0]) rfl rfl rfl (fun w hp => ex3Score _ _ w (hp.stm 9 8 4 (ps := [[], [0], [0], [0]]) rfl rfl rfl (by decide) (by decide) (by decide) (by decide) rfl (ltn4 (Ints.nil w) (hp.ints 7 rfl (by decide)) (hp.ints 6 rfl (by decide)) (hp.ints 5 rfl (by decide)))) (hp.ints 0 rfl (by decide))) ?_)|(apply OKx_gc 33;exact rfl; refine OKx_callV (f := 33) (v := .bool true) rfl rfl rfl (fun w hp => equalT_sat _ _ [1, 1, 1, 0] [1, 1, 1, 0] w (hp.ints 2 rfl (by decide)) (hp.ints 0 rfl (by decide)) rfl) ?_)|(apply OKx_nilK)|(apply OK_block)|(apply blockQ_n)|(apply blockQ_s)|(apply thenQ_e)|(apply blockQ_e;exact rfl)|(apply thenQ_r)|(apply blockQ_r)|(apply OK_condT;exact rfl)|(apply OK_condF;exact rfl)|(apply OK_skip)|(apply OK_exit)|(apply OK_ret)|(apply OKx_move;(conv=>lhs;whnf)<;>exact rfl)|(apply OKx_assign;(conv=>lhs;whnf)<;>exact rfl)|(apply OKx_eql;exact rfl;exact rfl;all_goals (intro _; try (exfalso;omega)))|(apply OKx_pickT;exact rfl;(conv=>lhs;whnf)<;>exact rfl)|(apply OKx_pickF;exact rfl;(conv=>lhs;whnf)<;>exact rfl)|(apply OKx_guardT;exact rfl;exact rfl)|(apply OKx_guardF;exact rfl;exact rfl)|(apply OKx_guardU;exact rfl;exact rfl)|(apply OKx_extract;exact rfl;(conv=>lhs;whnf)<;>exact rfl)|(apply OKx_allocA;intro _)|(apply OKx_ldBA;exact rfl;(first | exact at0|exact at1|exact at2|exact at3|exact at4|exact at5|exact at6|exact at7);exact rfl)|(apply OKx_ldRA;(conv=>lhs;whnf)<;>exact rfl;(with_reducible assumption))|(apply OKx_slit1;(conv=>lhs;whnf)<;>exact rfl;exact rfl;intro _)|(apply OKx_build3;(conv=>lhs;whnf)<;>exact rfl;(conv=>lhs;whnf)<;>exact rfl;(conv=>lhs;whnf)<;>exact rfl;exact rfl;exact rfl;exact rfl)|(apply OKx_stBA; kernel_rfl;exact rfl;exact rfl;exact rfl;(first | exact at0|exact at1|exact at2|exact at3|exact at4|exact at5|exact at6|exact at7);exact rfl;exact rfl;exact rfl))
  refine bodyQ_r1 (by ((conv=>lhs;whnf)<;>exact rfl)) ?_
  exact ⟨_, Ent.nil, rfl, rfl⟩
end Go.Proofs.YtdigdmnnjbndlaaGreatDoor
namespace Go.Proofs.YtdigdmnnjbndlaaGreatDoor
theorem posL_mem (s : Stem) (st : List Int) (i : Nat) (x : Int) : x ∈ posL s st i ↔ 0 ≤ x ∧ x < 16 ∧ ∃ a ∈ asgs (occ st) st, (costN s.par a : Int) = (best1 s st).2 ∧ a.getD i 0 = x := by
  unfold posL
  simp only [List.mem_map, List.mem_filter, List.mem_range]
  unfold seenB
  simp only [List.any_eq_true, Bool.and_eq_true, decide_eq_true_eq, beq_iff_eq]
  constructor
  · rintro ⟨y, ⟨h1, a, ha, hc, hy⟩, rfl⟩
    exact ⟨by omega, by omega, a, ha, hc, hy⟩
  · rintro ⟨h0, h1, a, ha, hc, hy⟩
    obtain ⟨y, rfl⟩ := Int.eq_ofNat_of_zero_le h0
    exact ⟨y, ⟨by omega, a, ha, hc, hy⟩, rfl⟩
theorem posL_asc (s : Stem) (st : List Int) (i : Nat) : (posL s st i).Pairwise (· < ·) := by
  unfold posL
  rw [List.pairwise_map]
  refine (List.Pairwise.filter _ (List.pairwise_lt_range (n := 16))).imp ?_
  intro a b h
  omega
theorem asgs_rng (st a : List Int) (hr : ∀ x ∈ st, x < 16) (ha : a ∈ asgs (occ st) st) (i : Nat) (hi : i < st.length) : 0 ≤ a.getD i 0 ∧ a.getD i 0 < 16 := by
  have h := ((asgs_mem _ _ _).1 ha).2 i hi
  by_cases hs : st.getD i 0 < 0
  · rw [if_pos hs] at h
    exact occ_range st _ h
  · rw [if_neg hs] at h
    have := hr _ (getD_mem st i 0 hi)
    omega
theorem pos_best (s : Stem) (st : List Int) (hr : ∀ x ∈ st, x < 16) (i : Nat) (hi : i < st.length) : (best1 s st).1.getD i 0 ∈ posL s st i := by
  obtain ⟨h1, h2, _⟩ := best1_spec s st
  have h3 := asgs_rng st _ hr h1 i hi
  exact (posL_mem s st i _).2 ⟨h3.1, h3.2, _, h1, h2.symm, rfl⟩
theorem pos_known (s : Stem) (st : List Int) (hr : ∀ x ∈ st, x < 16) (i : Nat) (hi : i < st.length) (hk : 0 ≤ st.getD i 0) : posL s st i = [st.getD i 0] := by
  refine asc_ext _ _ (posL_asc s st i) (List.pairwise_singleton _ _) fun x => ?_
  rw [List.mem_singleton, posL_mem]
  constructor
  · rintro ⟨_, _, a, ha, _, rfl⟩
    have h := ((asgs_mem _ _ _).1 ha).2 i hi
    rwa [if_neg (by omega)] at h
  · rintro rfl
    have hb := pos_best s st hr i hi
    have h := ((asgs_mem _ _ _).1 (best1_spec s st).1).2 i hi
    rw [if_neg (by omega)] at h
    rw [h] at hb
    exact (posL_mem s st i _).1 hb
theorem pos_occ (s : Stem) (st : List Int) (i : Nat) (hi : i < st.length) (x : Int) (h : x ∈ posL s st i) (hu : st.getD i 0 < 0) : x ∈ occ st := by
  obtain ⟨_, _, a, ha, _, rfl⟩ := (posL_mem s st i x).1 h
  have h := ((asgs_mem _ _ _).1 ha).2 i hi
  rwa [if_pos hu] at h
theorem occ_known (st : List Int) (x : Int) (h : x ∈ occ st) : x ∈ st ∧ 0 ≤ x ∨ (∀ y ∈ st, y < 16 → y < 0) ∧ x = 0 := by
  unfold occ at h
  split at h
  · rename_i h0
    right
    refine ⟨fun y hy h16 => ?_, by simpa using h⟩
    by_cases hn : 0 ≤ y
    · have : y ∈ srtK st 16 := (srtK_mem _ _ _).2 ⟨hy, hn, by omega⟩
      rw [h0] at this; simp at this
    · omega
  · exact .inl ⟨((srtK_mem _ _ _).1 h).1, ((srtK_mem _ _ _).1 h).2.1⟩
theorem set_mem (st : List Int) (i : Nat) (hi : i < st.length) (x y : Int) : y ∈ st.set i x ↔ y = x ∨ ∃ j, j < st.length ∧ j ≠ i ∧ st.getD j 0 = y := by
  constructor
  · intro h
    obtain ⟨j, hj, e⟩ := List.getElem_of_mem h
    rw [List.length_set] at hj
    rw [List.getElem_set] at e
    split at e
    · exact .inl e.symm
    · rename_i hne
      exact .inr ⟨j, hj, fun h => hne h.symm, by rw [getD_lt _ _ _ hj]; exact e⟩
  · rintro (rfl | ⟨j, hj, hne, rfl⟩)
    · exact List.mem_set hi _
    · have : (st.set i x).getD j 0 = st.getD j 0 := by rw [setI_getD _ _ _ _ hj, if_neg (fun h => hne h.symm)]
      rw [← this]
      exact getD_mem _ _ _ (by simpa using hj)
theorem occ_set (st : List Int) (hr : ∀ x ∈ st, x < 16) (i : Nat) (hi : i < st.length) (hu : st.getD i 0 < 0) (x : Int) (hx : x ∈ occ st) : occ (st.set i x) = occ st := by
  have hx16 := occ_range st x hx
  have key : ∀ y, 0 ≤ y → (y ∈ st.set i x ↔ y ∈ st ∨ y = x) := fun y hy => by
    rw [set_mem st i hi]
    constructor
    · rintro (h | ⟨j, hj, _, rfl⟩)
      · exact .inr h
      · exact .inl (getD_mem _ _ _ hj)
    · rintro (h | h)
      · obtain ⟨j, hj, e⟩ := List.getElem_of_mem h
        refine .inr ⟨j, hj, ?_, by rw [getD_lt _ _ _ hj]; exact e⟩
        rintro rfl
        rw [getD_lt _ _ _ hj] at hu
        omega
      · exact .inl h
  have hxm : x ∈ srtK (st.set i x) 16 := (srtK_mem _ _ _).2 ⟨(key x hx16.1).2 (.inr rfl), hx16.1, by omega⟩
  have e1 : occ (st.set i x) = srtK (st.set i x) 16 := if_neg (List.ne_nil_of_mem hxm)
  rw [e1]
  have hasc : (occ st).Pairwise (· < ·) := by
    unfold occ
    split
    · exact List.pairwise_singleton _ _
    · exact srtK_asc _ _
  refine asc_ext _ _ (srtK_asc _ _) hasc fun y => ?_
  rw [srtK_mem]
  constructor
  · rintro ⟨h1, h2, h3⟩
    rcases (key y h2).1 h1 with h | h
    · exact occ_mem st y h h2 (by omega)
    · rw [h]; exact hx
  · intro h
    have hy := occ_range st y h
    refine ⟨(key y hy.1).2 ?_, hy.1, by omega⟩
    rcases occ_known st y h with ⟨h1, _⟩ | ⟨h1, h2⟩
    · exact .inl h1
    · rcases occ_known st x hx with ⟨h3, h4⟩ | ⟨_, h3⟩
      · have := h1 x h3 (by omega)
        omega
      · exact .inr (by omega)
theorem asgs_set (vs st : List Int) (i : Nat) (hi : i < st.length) (x : Int) (hx0 : 0 ≤ x) (hx : st.getD i 0 < 0 ∧ x ∈ vs ∨ st.getD i 0 = x) (a : List Int) : a ∈ asgs vs (st.set i x) ↔ a ∈ asgs vs st ∧ a.getD i 0 = x := by
  rw [asgs_mem, asgs_mem, List.length_set]
  constructor
  · rintro ⟨h1, h2⟩
    have hi2 := h2 i hi
    rw [setI_getD _ _ _ _ hi, if_pos rfl, if_neg (by omega)] at hi2
    refine ⟨⟨h1, fun j hj => ?_⟩, hi2⟩
    have h3 := h2 j hj
    rw [setI_getD _ _ _ _ hj] at h3
    by_cases hij : i = j
    · subst hij
      split
      · rw [hi2]
        exact hx.elim (·.2) (by omega)
      · rw [hi2]
        exact (hx.elim (by omega) id).symm
    · rwa [if_neg hij] at h3
  · rintro ⟨⟨h1, h2⟩, h3⟩
    refine ⟨h1, fun j hj => ?_⟩
    rw [setI_getD _ _ _ _ hj]
    by_cases hij : i = j
    · subst hij
      rw [if_pos rfl, if_neg (by omega)]; exact h3
    · rw [if_neg hij]; exact h2 j hj
end Go.Proofs.YtdigdmnnjbndlaaGreatDoor
