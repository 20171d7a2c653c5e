/-
  Part 33 of the proof: Qa27. No statement of the seat is proved here.
-/
import Derived.Test.YthnlnffmmioapaaGreatDoorMHHo2732
namespace Go.Proofs.YthnlnffmmioapaaGreatDoor
open Go.RowKit
set_option maxRecDepth 100000 in
set_option maxHeartbeats 4000000 in
theorem rnum_sat (k : Int) (w : World) : SatV Tryz.prog 111 [.int .i64 k] w (.bool (numK k)) := by
  unfold numK
  refine SatL.of 9 [2] Tryz.func111 (by kernel_rfl) (by kernel_rfl) rfl rfl rfl rfl ?_
  repeat' (first|(apply OK_seq)|(apply thenQ_n)|(apply OK_region)|(apply OKx_nilK)|(apply OK_block)|(apply blockQ_n)|(apply blockQ_s)|(apply thenQ_e)|(apply blockQ_e;exact rfl)|(apply thenQ_r)|(apply blockQ_r)|(apply OK_condT;exact rfl)|(apply OK_condF;exact rfl)|(apply OK_skip)|(apply OK_exit)|(apply OK_ret)|(apply OKx_move;(conv=>lhs;whnf)<;>exact rfl)|(apply OKx_assign;(conv=>lhs;whnf)<;>exact rfl)|(apply OKx_leq;exact rfl;exact rfl;all_goals (intro _; try (exfalso;omega)))|(apply OKx_geq;exact rfl;exact rfl;all_goals (intro _; try (exfalso;omega)))|(apply OKx_pickT;exact rfl;(conv=>lhs;whnf)<;>exact rfl)|(apply OKx_pickF;exact rfl;(conv=>lhs;whnf)<;>exact rfl)|(apply OKx_guardT;exact rfl;exact rfl)|(apply OKx_guardF;exact rfl;exact rfl)|(apply OKx_guardU;exact rfl;exact rfl))
  all_goals
    refine bodyQ_r1 (by ((conv=>lhs;whnf)<;>exact rfl)) ?_
    refine ⟨_, Ent.nil, bool_eq ?_, rfl⟩
  all_goals first
    | (rw [decide_eq_true (by omega), decide_eq_true (by omega)]; rfl)
    | (rw [decide_eq_false (show ¬ 5 ≤ k by omega)]; rfl)
    | (rw [decide_eq_false (show ¬ k ≤ 7 by omega), Bool.and_false])
set_option maxRecDepth 100000 in
set_option maxHeartbeats 4000000 in
theorem rtxt_sat (k : Int) (w : World) : SatV Tryz.prog 112 [.int .i64 k] w (.bool (txtK k)) := by
  unfold txtK
  refine SatL.of 9 [2] Tryz.func112 (by kernel_rfl) (by kernel_rfl) rfl rfl rfl rfl ?_
  repeat' (first|(apply OK_seq)|(apply thenQ_n)|(apply OK_region)|(apply OKx_nilK)|(apply OK_block)|(apply blockQ_n)|(apply blockQ_s)|(apply thenQ_e)|(apply blockQ_e;exact rfl)|(apply thenQ_r)|(apply blockQ_r)|(apply OK_condT;exact rfl)|(apply OK_condF;exact rfl)|(apply OK_skip)|(apply OK_exit)|(apply OK_ret)|(apply OKx_move;(conv=>lhs;whnf)<;>exact rfl)|(apply OKx_assign;(conv=>lhs;whnf)<;>exact rfl)|(apply OKx_eql;exact rfl;exact rfl;all_goals (intro _; try (exfalso;omega)))|(apply OKx_pickT;exact rfl;(conv=>lhs;whnf)<;>exact rfl)|(apply OKx_pickF;exact rfl;(conv=>lhs;whnf)<;>exact rfl)|(apply OKx_guardT;exact rfl;exact rfl)|(apply OKx_guardF;exact rfl;exact rfl)|(apply OKx_guardU;exact rfl;exact rfl))
  all_goals
    refine bodyQ_r1 (by ((conv=>lhs;whnf)<;>exact rfl)) ?_
    refine ⟨_, Ent.nil, bool_eq ?_, rfl⟩
  all_goals first
    | (rw [decide_eq_true (by omega), decide_eq_true (by omega)]; rfl)
    | (rw [show (decide (8 ≤ k) && decide (k ≤ 9)) = false from Bool.eq_false_iff.2 fun h => by
        simp only [Bool.and_eq_true, decide_eq_true_eq] at h
        omega])
    | (rw [decide_eq_false (show ¬ 8 ≤ k by omega)]; rfl)
    | (rw [decide_eq_false (show ¬ k ≤ 9 by omega), Bool.and_false])
set_option maxRecDepth 100000 in
set_option maxHeartbeats 4000000 in
theorem rChkB_sat (s : ByteArray) (w : World) (hs : s.size ≤ 140737488355328) : SatV Tryz.prog 100 [.string s] w (.int .i64 (patE (byts s))) := by
  have := rCheck_sat (byts s) w (by rw [byts_len]; exact hs)
  rwa [show bOf (byts s) = s from bOf_data s] at this
theorem lst_cases {k : Int} (h1 : 1 ≤ k) (h2 : k ≤ 13) : (k < 11 ∧ lstK k = 0 ∧ mstK k = 0) ∨ ((k = 11 ∨ k = 12) ∧ lstK k = 2 ∧ mstK k = -1) ∨ (k = 13 ∧ lstK k = 1 ∧ mstK k = 1) := by
  unfold lstK mstK
  by_cases h : k = 13
  · right; right
    rw [if_pos h, if_pos h]
    exact ⟨h, rfl, rfl⟩
  · rw [if_neg h, if_neg h]
    by_cases h3 : 11 ≤ k
    · rw [if_pos h3, if_pos h3]
      exact .inr (.inl ⟨by omega, rfl, rfl⟩)
    · rw [if_neg h3, if_neg h3]
      exact .inl ⟨by omega, rfl, rfl⟩
theorem num_kind {k : Int} (h : numK k = true) : k < 11 := by
  unfold numK at h
  simp only [Bool.and_eq_true, decide_eq_true_eq] at h
  omega
theorem txt_kind {k : Int} (h : txtK k = true) : k < 11 := by
  unfold txtK at h
  simp only [Bool.and_eq_true, decide_eq_true_eq] at h
  omega
def Rgt1 (x : Cnd) : Prop := ∀ (v : Value) (w : World), Exp w x v → SatV Tryz.prog 94 [v] w (.bool x.own)
set_option maxRecDepth 100000 in
set_option maxHeartbeats 4000000 in
theorem rrKind_sat (x : Cnd) (hkk : ¬(1 ≤ x.kind ∧ x.kind ≤ 13)) : Rgt1 x := by
  intro v w h
  obtain ⟨pv, g, rfl, hs, hP, hE⟩ := h.shape
  obtain ⟨hpb, pa, pc, rfl, _⟩ := id hP
  have hf : x.own = false := by
    rw [own_eq, nodeB, decide_eq_false (fun h => hkk ⟨h.1, h.2.1⟩), Bool.false_and]
  rw [hf]
  refine SatL.of 99 [2] Tryz.func94 (by kernel_rfl) (by kernel_rfl) rfl rfl rfl rfl ?_
  repeat' (first|(apply OK_seq)|(apply thenQ_n)|(apply OK_region)|(apply OKx_nilK)|(apply OK_block)|(apply blockQ_n)|(apply blockQ_s)|(apply thenQ_e)|(apply blockQ_e;exact rfl)|(apply thenQ_r)|(apply blockQ_r)|(apply OK_condT;exact rfl)|(apply OK_condF;exact rfl)|(apply OK_skip)|(apply OK_exit)|(apply OK_ret)|(apply OKx_move;(conv=>lhs;whnf)<;>exact rfl)|(apply OKx_assign;(conv=>lhs;whnf)<;>exact rfl)|(apply OKx_ldB;exact rfl; (apply atP;constructor);exact rfl)|(apply OKx_ldR;(conv=>lhs;whnf)<;>exact rfl;(with_reducible assumption))|(apply OKx_ldI;exact rfl; (apply atP;constructor);omega)|(apply OKx_len;exact rfl)|(apply OKx_lenR;(conv=>lhs;whnf)<;>exact rfl;(with_reducible assumption))|(apply OKx_lenR2;(conv=>lhs;whnf)<;>exact rfl;(with_reducible assumption))|(apply OKx_lenO;(conv=>lhs;whnf)<;>exact rfl; (apply atP;constructor))|(apply OKx_lss;exact rfl;exact rfl;all_goals (intro _; try (exfalso;omega)))|(apply OKx_gtr;exact rfl;exact rfl;all_goals (intro _; try (exfalso;omega)))|(apply OKx_eql;exact rfl;exact rfl;all_goals (intro _; try (exfalso;omega)))|(apply OKx_neq;exact rfl;exact rfl;all_goals (intro _; try (exfalso;omega)))|(apply OKx_sneq;exact rfl;exact rfl; all_goals intro _)|(apply OKx_idxR2;(conv=>lhs;whnf)<;>exact rfl;(with_reducible assumption);exact rfl;omega;intro _ _)|(apply OKx_fldO;exact rfl;exact rfl)|(apply OKx_fldR;(conv=>lhs;whnf)<;>exact rfl;(with_reducible assumption); decide;intro _ _)|(apply OKx_inc;exact rfl;exact rfl;omega)|(apply OKx_addN;exact rfl;exact rfl;omega)|(apply OKx_add;exact rfl;exact rfl;omega;omega)|(apply OKx_pickT;exact rfl;(conv=>lhs;whnf)<;>exact rfl)|(apply OKx_pickF;exact rfl;(conv=>lhs;whnf)<;>exact rfl)|(apply OKx_guardT;exact rfl;exact rfl)|(apply OKx_guardF;exact rfl;exact rfl)|(apply OKx_guardU;exact rfl;exact rfl)|(apply OKx_notT;exact rfl)|(apply OKx_notF;exact rfl)|(apply OKx_boxA;exact rfl;intro _)|(apply OKx_ldBA;exact rfl; (apply atP;constructor);exact rfl)|(apply OKx_ldRA;(conv=>lhs;whnf)<;>exact rfl;(with_reducible assumption)))
  all_goals (try (exfalso;omega))
  all_goals
    refine bodyQ_r1 (by ((conv=>lhs;whnf)<;>exact rfl)) ?_
    exact ⟨_, Ent.nil, rfl, rfl⟩
set_option maxRecDepth 100000 in
set_option maxHeartbeats 4000000 in
theorem rrBadFF_sat (x : Cnd) (hk1 : 1 ≤ x.kind) (hk2 : x.kind ≤ 13) (hN : numK x.kind = false) (hT : txtK x.kind = false) (hnd : ¬nodeB x.kind x.num x.text x.parts.length = true) : Rgt1 x := by
  intro v w h
  obtain ⟨pv, g, rfl, hs, hP, hE⟩ := h.shape
  obtain ⟨hpb, pa, pc, rfl, _⟩ := id hP
  have hG : ∀ w1, SatV Tryz.prog 100 [.string x.text] w1 (.int .i64 (patE (byts x.text))) := fun w1 => rChkB_sat _ w1 hs
  have hNm := fun w1 => rnum_sat x.kind w1
  have hTx := fun w1 => rtxt_sat x.kind w1
  have hf : x.own = false := by
    rw [own_eq, Bool.eq_false_iff.2 hnd, Bool.false_and]
  rw [hf]
  have hlc := lst_cases hk1 hk2
  rw [hN] at hNm
  rw [hT] at hTx
  skip
  refine SatL.of 99 [2] Tryz.func94 (by kernel_rfl) (by kernel_rfl) rfl rfl rfl rfl ?_
  repeat' (first|(apply OK_seq)|(apply thenQ_n)|(apply OK_region)|(apply OKx_gc 111;exact rfl; refine OKx_callV (f := 111) rfl rfl rfl (fun w1 hp => hNm w1) ?_)|(apply OKx_gc 112;exact rfl; refine OKx_callV (f := 112) rfl rfl rfl (fun w1 hp => hTx w1) ?_)|(apply OKx_gc 100;exact rfl; refine OKx_callV (f := 100) rfl rfl rfl (fun w1 hp => hG w1) ?_)|(apply OKx_nilK)|(apply OK_block)|(apply blockQ_n)|(apply blockQ_s)|(apply thenQ_e)|(apply blockQ_e;exact rfl)|(apply thenQ_r)|(apply blockQ_r)|(apply OK_condT;exact rfl)|(apply OK_condF;exact rfl)|(apply OK_skip)|(apply OK_exit)|(apply OK_ret)|(apply OKx_move;(conv=>lhs;whnf)<;>exact rfl)|(apply OKx_assign;(conv=>lhs;whnf)<;>exact rfl)|(apply OKx_ldB;exact rfl; (apply atP;constructor);exact rfl)|(apply OKx_ldR;(conv=>lhs;whnf)<;>exact rfl;(with_reducible assumption))|(apply OKx_ldI;exact rfl; (apply atP;constructor);omega)|(apply OKx_len;exact rfl)|(apply OKx_lenR;(conv=>lhs;whnf)<;>exact rfl;(with_reducible assumption))|(apply OKx_lenR2;(conv=>lhs;whnf)<;>exact rfl;(with_reducible assumption))|(apply OKx_lenO;(conv=>lhs;whnf)<;>exact rfl; (apply atP;constructor))|(apply OKx_lss;exact rfl;exact rfl;all_goals (intro _; try (exfalso;omega)))|(apply OKx_gtr;exact rfl;exact rfl;all_goals (intro _; try (exfalso;omega)))|(apply OKx_eql;exact rfl;exact rfl;all_goals (intro _; try (exfalso;omega)))|(apply OKx_neq;exact rfl;exact rfl;all_goals (intro _; try (exfalso;omega)))|(apply OKx_sneq;exact rfl;exact rfl; all_goals intro _)|(apply OKx_idxR2;(conv=>lhs;whnf)<;>exact rfl;(with_reducible assumption);exact rfl;omega;intro _ _)|(apply OKx_fldO;exact rfl;exact rfl)|(apply OKx_fldR;(conv=>lhs;whnf)<;>exact rfl;(with_reducible assumption); decide;intro _ _)|(apply OKx_inc;exact rfl;exact rfl;omega)|(apply OKx_addN;exact rfl;exact rfl;omega)|(apply OKx_add;exact rfl;exact rfl;omega;omega)|(apply OKx_pickT;exact rfl;(conv=>lhs;whnf)<;>exact rfl)|(apply OKx_pickF;exact rfl;(conv=>lhs;whnf)<;>exact rfl)|(apply OKx_guardT;exact rfl;exact rfl)|(apply OKx_guardF;exact rfl;exact rfl)|(apply OKx_guardU;exact rfl;exact rfl)|(apply OKx_notT;exact rfl)|(apply OKx_notF;exact rfl)|(apply OKx_boxA;exact rfl;intro _)|(apply OKx_ldBA;exact rfl; (apply atP;constructor);exact rfl)|(apply OKx_ldRA;(conv=>lhs;whnf)<;>exact rfl;(with_reducible assumption)))
  all_goals first
    | ((refine bodyQ_r1 (by ((conv=>lhs;whnf)<;>exact rfl)) ?_)
       exact ⟨_, Ent.nil, rfl, rfl⟩)
    | (exfalso;omega)
    | (exfalso
       refine hnd (node_iff.2 ⟨by omega, by omega, by omega, by omega, fun h => by first | omega | (rw [hN] at h; cases h), fun h => by first | assumption | (rw [hT] at h; cases h), fun h => by first | omega | (rw [hT] at h; cases h), by omega, fun h => by omega⟩))
set_option maxRecDepth 100000 in
set_option maxHeartbeats 4000000 in
theorem rrOkFF_sat (x : Cnd) (hk1 : 1 ≤ x.kind) (hk2 : x.kind ≤ 13) (hN : numK x.kind = false) (hT : txtK x.kind = false) (hnd : nodeB x.kind x.num x.text x.parts.length = true) (ih : ∀ j, (hj : j < x.parts.length) → Rgt1 x.parts[j]) : Rgt1 x := by
  intro v w h
  obtain ⟨pv, g, rfl, hs, hP, hE⟩ := h.shape
  obtain ⟨hpb, pa, pc, rfl, _⟩ := id hP
  have hG : ∀ w1, SatV Tryz.prog 100 [.string x.text] w1 (.int .i64 (patE (byts x.text))) := fun w1 => rChkB_sat _ w1 hs
  have hNm := fun w1 => rnum_sat x.kind w1
  have hTx := fun w1 => rtxt_sat x.kind w1
  obtain ⟨_, _, d3, d4, d5, d6, d7, d8, d9⟩ := node_iff.1 hnd
  have hn : x.own = x.parts.all Cnd.own := by rw [own_eq, hnd, Bool.true_and]
  rw [hn]
  have hlc : (x.kind < 11 ∧ x.parts.length = 0) ∨ ((x.kind = 11 ∨ x.kind = 12) ∧ 2 ≤ x.parts.length) ∨ (x.kind = 13 ∧ x.parts.length = 1) := by
    rcases lst_cases hk1 hk2 with ⟨q1, q2, q3⟩ | ⟨q1, q2, q3⟩ | ⟨q1, q2, q3⟩ <;> omega
  clear d8 d9
  rw [hN] at hNm d5
  rw [hT] at hTx d6 d7
  try have d5 := d5 rfl
  try have d6 := d6 rfl
  try have d7 := d7 rfl
  skip
  refine SatL.of 99 [2] Tryz.func94 (by kernel_rfl) (by kernel_rfl) rfl rfl rfl rfl ?_
  repeat' (first|(apply OK_seq)|(apply thenQ_n)|(apply OK_region)|(apply OKx_boxA;exact rfl; intro gx)|(apply OKx_gc 111;exact rfl; refine OKx_callV (f := 111) rfl rfl rfl (fun w1 hp => hNm w1) ?_)|(apply OKx_gc 112;exact rfl; refine OKx_callV (f := 112) rfl rfl rfl (fun w1 hp => hTx w1) ?_)|(apply OKx_gc 100;exact rfl; refine OKx_callV (f := 100) rfl rfl rfl (fun w1 hp => hG w1) ?_)|(apply OKx_nilK)|(apply OK_block)|(apply blockQ_n)|(apply blockQ_s)|(apply thenQ_e)|(apply blockQ_e;exact rfl)|(apply thenQ_r)|(apply blockQ_r)|(apply OK_condT;exact rfl)|(apply OK_condF;exact rfl)|(apply OK_skip)|(apply OK_exit)|(apply OK_ret)|(apply OKx_move;(conv=>lhs;whnf)<;>exact rfl)|(apply OKx_assign;(conv=>lhs;whnf)<;>exact rfl)|(apply OKx_ldB;exact rfl; (apply atP;constructor);exact rfl)|(apply OKx_ldR;(conv=>lhs;whnf)<;>exact rfl;(with_reducible assumption))|(apply OKx_ldI;exact rfl; (apply atP;constructor);omega)|(apply OKx_len;exact rfl)|(apply OKx_lenR;(conv=>lhs;whnf)<;>exact rfl;(with_reducible assumption))|(apply OKx_lenR2;(conv=>lhs;whnf)<;>exact rfl;(with_reducible assumption))|(apply OKx_lenO;(conv=>lhs;whnf)<;>exact rfl; (apply atP;constructor))|(apply OKx_lss;exact rfl;exact rfl;all_goals (intro _; try (exfalso;omega)))|(apply OKx_gtr;exact rfl;exact rfl;all_goals (intro _; try (exfalso;omega)))|(apply OKx_eql;exact rfl;exact rfl;all_goals (intro _; try (exfalso;omega)))|(apply OKx_neq;exact rfl;exact rfl;all_goals (intro _; try (exfalso;omega)))|(apply OKx_sneq;exact rfl;exact rfl; all_goals intro _)|(apply OKx_idxR2;(conv=>lhs;whnf)<;>exact rfl;(with_reducible assumption);exact rfl;omega;intro _ _)|(apply OKx_fldO;exact rfl;exact rfl)|(apply OKx_fldR;(conv=>lhs;whnf)<;>exact rfl;(with_reducible assumption); decide;intro _ _)|(apply OKx_inc;exact rfl;exact rfl;omega)|(apply OKx_addN;exact rfl;exact rfl;omega)|(apply OKx_add;exact rfl;exact rfl;omega;omega)|(apply OKx_pickT;exact rfl;(conv=>lhs;whnf)<;>exact rfl)|(apply OKx_pickF;exact rfl;(conv=>lhs;whnf)<;>exact rfl)|(apply OKx_guardT;exact rfl;exact rfl)|(apply OKx_guardF;exact rfl;exact rfl)|(apply OKx_guardU;exact rfl;exact rfl)|(apply OKx_notT;exact rfl)|(apply OKx_notF;exact rfl)|(apply OKx_boxA;exact rfl;intro _)|(apply OKx_ldBA;exact rfl; (apply atP;constructor);exact rfl)|(apply OKx_ldRA;(conv=>lhs;whnf)<;>exact rfl;(with_reducible assumption)))
  all_goals (try (exfalso;omega))
  all_goals (try exact absurd d6 (by assumption))
  all_goals
    refine OK_loop1 4 [2, 4, 87, 88, 89, 90, 91, 92, 93, 94, 95, 96, 97, 98] (fun m v L => ∃ j : Nat, j + m = x.parts.length ∧ v = .int .i64 (j : Int) ∧ (∀ i, i < j → (x.parts.getD i default).own = true) ∧ L = [.box 24 gx [.int .i64 x.kind, .int .i64 x.num, .string x.text, .slice pa x.parts.length pc]]) x.parts.length _ (Ent.refl _ _) ⟨0, by omega, rfl, fun i hi => absurd hi (by omega), rfl⟩ ?_
    rintro m v' L G ⟨j, hm, rfl, H, rfl⟩
    by_cases hj : j < x.parts.length
    · have hcall := fun w1 (hb1 : Below w.heap.size w w1) => ih j hj _ w1 ((hE j hj).below hb1)
      have hd : x.parts.getD j default = x.parts[j] := getD_lt _ _ _ hj
      repeat' (first|(apply OK_seq)|(apply thenQ_n)|(apply OK_region)|(apply OKx_gi; refine OKx_idxR2 (i := j) rfl hP rfl hj ?_; intro pp hpp)|(apply OKx_gl; refine OKx_ldRA rfl hpp ?_)|(apply OKx_gc 94;exact rfl; refine OKx_callB (f := 94) rfl rfl rfl (fun w1 hp => hcall w1 hp.below) ?_ ?_ <;> intro hq)|(apply OKx_nilK)|(apply OK_block)|(apply blockQ_n)|(apply blockQ_s)|(apply thenQ_e)|(apply blockQ_e;exact rfl)|(apply thenQ_r)|(apply blockQ_r)|(apply OK_condT;exact rfl)|(apply OK_condF;exact rfl)|(apply OK_skip)|(apply OK_exit)|(apply OK_ret)|(apply OKx_move;(conv=>lhs;whnf)<;>exact rfl)|(apply OKx_assign;(conv=>lhs;whnf)<;>exact rfl)|(apply OKx_ldB;exact rfl; (apply atP;constructor);exact rfl)|(apply OKx_ldR;(conv=>lhs;whnf)<;>exact rfl;(with_reducible assumption))|(apply OKx_ldI;exact rfl; (apply atP;constructor);omega)|(apply OKx_len;exact rfl)|(apply OKx_lenR;(conv=>lhs;whnf)<;>exact rfl;(with_reducible assumption))|(apply OKx_lenR2;(conv=>lhs;whnf)<;>exact rfl;(with_reducible assumption))|(apply OKx_lenO;(conv=>lhs;whnf)<;>exact rfl; (apply atP;constructor))|(apply OKx_lss;exact rfl;exact rfl;all_goals (intro _; try (exfalso;omega)))|(apply OKx_gtr;exact rfl;exact rfl;all_goals (intro _; try (exfalso;omega)))|(apply OKx_eql;exact rfl;exact rfl;all_goals (intro _; try (exfalso;omega)))|(apply OKx_neq;exact rfl;exact rfl;all_goals (intro _; try (exfalso;omega)))|(apply OKx_sneq;exact rfl;exact rfl; all_goals intro _)|(apply OKx_idxR2;(conv=>lhs;whnf)<;>exact rfl;(with_reducible assumption);exact rfl;omega;intro _ _)|(apply OKx_fldO;exact rfl;exact rfl)|(apply OKx_fldR;(conv=>lhs;whnf)<;>exact rfl;(with_reducible assumption); decide;intro _ _)|(apply OKx_inc;exact rfl;exact rfl;omega)|(apply OKx_addN;exact rfl;exact rfl;omega)|(apply OKx_add;exact rfl;exact rfl;omega;omega)|(apply OKx_pickT;exact rfl;(conv=>lhs;whnf)<;>exact rfl)|(apply OKx_pickF;exact rfl;(conv=>lhs;whnf)<;>exact rfl)|(apply OKx_guardT;exact rfl;exact rfl)|(apply OKx_guardF;exact rfl;exact rfl)|(apply OKx_guardU;exact rfl;exact rfl)|(apply OKx_notT;exact rfl)|(apply OKx_notF;exact rfl)|(apply OKx_boxA;exact rfl;intro _)|(apply OKx_ldBA;exact rfl; (apply atP;constructor);exact rfl)|(apply OKx_ldRA;(conv=>lhs;whnf)<;>exact rfl;(with_reducible assumption)))
      all_goals (try (exfalso;omega))
      all_goals first
        | (refine ⟨by (repeat' (first | refine agree_upd rfl ?_ | exact agree_over | exact agree_refl _ _ | refine agree_over2 rfl ?_)), m - 1, _, by omega, Ent.refl _ _, ?_⟩
           refine ⟨j + 1, by omega, rfl, fun i hi => ?_, rfl⟩
           by_cases e : i = j
           · subst e; rw [hd]; exact hq
           · exact H i (by omega))
        | ((refine bodyQ_r1 (by ((conv=>lhs;whnf)<;>exact rfl)) ?_)
           refine ⟨_, Ent.nil, bool_eq ?_, rfl⟩
           rw [eq_comm, List.all_eq_false]
           exact ⟨x.parts[j], List.getElem_mem hj, by rw [hq]; decide⟩)
    · obtain rfl : j = x.parts.length := by omega
      repeat' (first|(apply OK_seq)|(apply thenQ_n)|(apply OK_region)|(apply OKx_nilK)|(apply OK_block)|(apply blockQ_n)|(apply blockQ_s)|(apply thenQ_e)|(apply blockQ_e;exact rfl)|(apply thenQ_r)|(apply blockQ_r)|(apply OK_condT;exact rfl)|(apply OK_condF;exact rfl)|(apply OK_skip)|(apply OK_exit)|(apply OK_ret)|(apply OKx_move;(conv=>lhs;whnf)<;>exact rfl)|(apply OKx_assign;(conv=>lhs;whnf)<;>exact rfl)|(apply OKx_ldB;exact rfl; (apply atP;constructor);exact rfl)|(apply OKx_ldR;(conv=>lhs;whnf)<;>exact rfl;(with_reducible assumption))|(apply OKx_ldI;exact rfl; (apply atP;constructor);omega)|(apply OKx_len;exact rfl)|(apply OKx_lenR;(conv=>lhs;whnf)<;>exact rfl;(with_reducible assumption))|(apply OKx_lenR2;(conv=>lhs;whnf)<;>exact rfl;(with_reducible assumption))|(apply OKx_lenO;(conv=>lhs;whnf)<;>exact rfl; (apply atP;constructor))|(apply OKx_lss;exact rfl;exact rfl;all_goals (intro _; try (exfalso;omega)))|(apply OKx_gtr;exact rfl;exact rfl;all_goals (intro _; try (exfalso;omega)))|(apply OKx_eql;exact rfl;exact rfl;all_goals (intro _; try (exfalso;omega)))|(apply OKx_neq;exact rfl;exact rfl;all_goals (intro _; try (exfalso;omega)))|(apply OKx_sneq;exact rfl;exact rfl; all_goals intro _)|(apply OKx_idxR2;(conv=>lhs;whnf)<;>exact rfl;(with_reducible assumption);exact rfl;omega;intro _ _)|(apply OKx_fldO;exact rfl;exact rfl)|(apply OKx_fldR;(conv=>lhs;whnf)<;>exact rfl;(with_reducible assumption); decide;intro _ _)|(apply OKx_inc;exact rfl;exact rfl;omega)|(apply OKx_addN;exact rfl;exact rfl;omega)|(apply OKx_add;exact rfl;exact rfl;omega;omega)|(apply OKx_pickT;exact rfl;(conv=>lhs;whnf)<;>exact rfl)|(apply OKx_pickF;exact rfl;(conv=>lhs;whnf)<;>exact rfl)|(apply OKx_guardT;exact rfl;exact rfl)|(apply OKx_guardF;exact rfl;exact rfl)|(apply OKx_guardU;exact rfl;exact rfl)|(apply OKx_notT;exact rfl)|(apply OKx_notF;exact rfl)|(apply OKx_boxA;exact rfl;intro _)|(apply OKx_ldBA;exact rfl; (apply atP;constructor);exact rfl)|(apply OKx_ldRA;(conv=>lhs;whnf)<;>exact rfl;(with_reducible assumption)))
      all_goals (try (exfalso;omega))
      refine bodyQ_r1 (by ((conv=>lhs;whnf)<;>exact rfl)) ?_
      refine ⟨_, Ent.nil, bool_eq ?_, rfl⟩
      rw [eq_comm, List.all_eq_true]
      intro y hy
      obtain ⟨i, hi, rfl⟩ := List.getElem_of_mem hy
      have := H i hi
      rwa [getD_lt _ _ _ hi] at this
set_option maxRecDepth 100000 in
set_option maxHeartbeats 4000000 in
theorem rrBadTF_sat (x : Cnd) (hk1 : 1 ≤ x.kind) (hk2 : x.kind ≤ 13) (hN : numK x.kind = true) (hT : txtK x.kind = false) (hnd : ¬nodeB x.kind x.num x.text x.parts.length = true) : Rgt1 x := by
  intro v w h
  obtain ⟨pv, g, rfl, hs, hP, hE⟩ := h.shape
  obtain ⟨hpb, pa, pc, rfl, _⟩ := id hP
  have hG : ∀ w1, SatV Tryz.prog 100 [.string x.text] w1 (.int .i64 (patE (byts x.text))) := fun w1 => rChkB_sat _ w1 hs
  have hNm := fun w1 => rnum_sat x.kind w1
  have hTx := fun w1 => rtxt_sat x.kind w1
  have hf : x.own = false := by
    rw [own_eq, Bool.eq_false_iff.2 hnd, Bool.false_and]
  rw [hf]
  have hlc := lst_cases hk1 hk2
  rw [hN] at hNm
  rw [hT] at hTx
  have hk11 := num_kind hN
  refine SatL.of 99 [2] Tryz.func94 (by kernel_rfl) (by kernel_rfl) rfl rfl rfl rfl ?_
  repeat' (first|(apply OK_seq)|(apply thenQ_n)|(apply OK_region)|(apply OKx_gc 111;exact rfl; refine OKx_callV (f := 111) rfl rfl rfl (fun w1 hp => hNm w1) ?_)|(apply OKx_gc 112;exact rfl; refine OKx_callV (f := 112) rfl rfl rfl (fun w1 hp => hTx w1) ?_)|(apply OKx_gc 100;exact rfl; refine OKx_callV (f := 100) rfl rfl rfl (fun w1 hp => hG w1) ?_)|(apply OKx_nilK)|(apply OK_block)|(apply blockQ_n)|(apply blockQ_s)|(apply thenQ_e)|(apply blockQ_e;exact rfl)|(apply thenQ_r)|(apply blockQ_r)|(apply OK_condT;exact rfl)|(apply OK_condF;exact rfl)|(apply OK_skip)|(apply OK_exit)|(apply OK_ret)|(apply OKx_move;(conv=>lhs;whnf)<;>exact rfl)|(apply OKx_assign;(conv=>lhs;whnf)<;>exact rfl)|(apply OKx_ldB;exact rfl; (apply atP;constructor);exact rfl)|(apply OKx_ldR;(conv=>lhs;whnf)<;>exact rfl;(with_reducible assumption))|(apply OKx_ldI;exact rfl; (apply atP;constructor);omega)|(apply OKx_len;exact rfl)|(apply OKx_lenR;(conv=>lhs;whnf)<;>exact rfl;(with_reducible assumption))|(apply OKx_lenR2;(conv=>lhs;whnf)<;>exact rfl;(with_reducible assumption))|(apply OKx_lenO;(conv=>lhs;whnf)<;>exact rfl; (apply atP;constructor))|(apply OKx_lss;exact rfl;exact rfl;all_goals (intro _; try (exfalso;omega)))|(apply OKx_gtr;exact rfl;exact rfl;all_goals (intro _; try (exfalso;omega)))|(apply OKx_eql;exact rfl;exact rfl;all_goals (intro _; try (exfalso;omega)))|(apply OKx_neq;exact rfl;exact rfl;all_goals (intro _; try (exfalso;omega)))|(apply OKx_sneq;exact rfl;exact rfl; all_goals intro _)|(apply OKx_idxR2;(conv=>lhs;whnf)<;>exact rfl;(with_reducible assumption);exact rfl;omega;intro _ _)|(apply OKx_fldO;exact rfl;exact rfl)|(apply OKx_fldR;(conv=>lhs;whnf)<;>exact rfl;(with_reducible assumption); decide;intro _ _)|(apply OKx_inc;exact rfl;exact rfl;omega)|(apply OKx_addN;exact rfl;exact rfl;omega)|(apply OKx_add;exact rfl;exact rfl;omega;omega)|(apply OKx_pickT;exact rfl;(conv=>lhs;whnf)<;>exact rfl)|(apply OKx_pickF;exact rfl;(conv=>lhs;whnf)<;>exact rfl)|(apply OKx_guardT;exact rfl;exact rfl)|(apply OKx_guardF;exact rfl;exact rfl)|(apply OKx_guardU;exact rfl;exact rfl)|(apply OKx_notT;exact rfl)|(apply OKx_notF;exact rfl)|(apply OKx_boxA;exact rfl;intro _)|(apply OKx_ldBA;exact rfl; (apply atP;constructor);exact rfl)|(apply OKx_ldRA;(conv=>lhs;whnf)<;>exact rfl;(with_reducible assumption)))
  all_goals first
    | ((refine bodyQ_r1 (by ((conv=>lhs;whnf)<;>exact rfl)) ?_)
       exact ⟨_, Ent.nil, rfl, rfl⟩)
    | (exfalso;omega)
    | (exfalso
       refine hnd (node_iff.2 ⟨by omega, by omega, by omega, by omega, fun h => by first | omega | (rw [hN] at h; cases h), fun h => by first | assumption | (rw [hT] at h; cases h), fun h => by first | omega | (rw [hT] at h; cases h), by omega, fun h => by omega⟩))
set_option maxRecDepth 100000 in
set_option maxHeartbeats 4000000 in
theorem rrOkTF_sat (x : Cnd) (hk1 : 1 ≤ x.kind) (hk2 : x.kind ≤ 13) (hN : numK x.kind = true) (hT : txtK x.kind = false) (hnd : nodeB x.kind x.num x.text x.parts.length = true) (ih : ∀ j, (hj : j < x.parts.length) → Rgt1 x.parts[j]) : Rgt1 x := by
  intro v w h
  obtain ⟨pv, g, rfl, hs, hP, hE⟩ := h.shape
  obtain ⟨hpb, pa, pc, rfl, _⟩ := id hP
  have hG : ∀ w1, SatV Tryz.prog 100 [.string x.text] w1 (.int .i64 (patE (byts x.text))) := fun w1 => rChkB_sat _ w1 hs
  have hNm := fun w1 => rnum_sat x.kind w1
  have hTx := fun w1 => rtxt_sat x.kind w1
  obtain ⟨_, _, d3, d4, d5, d6, d7, d8, d9⟩ := node_iff.1 hnd
  have hn : x.own = x.parts.all Cnd.own := by rw [own_eq, hnd, Bool.true_and]
  rw [hn]
  have hlc : (x.kind < 11 ∧ x.parts.length = 0) ∨ ((x.kind = 11 ∨ x.kind = 12) ∧ 2 ≤ x.parts.length) ∨ (x.kind = 13 ∧ x.parts.length = 1) := by
    rcases lst_cases hk1 hk2 with ⟨q1, q2, q3⟩ | ⟨q1, q2, q3⟩ | ⟨q1, q2, q3⟩ <;> omega
  clear d8 d9
  rw [hN] at hNm d5
  rw [hT] at hTx d6 d7
  try have d5 := d5 rfl
  try have d6 := d6 rfl
  try have d7 := d7 rfl
  have hk11 := num_kind hN
  refine SatL.of 99 [2] Tryz.func94 (by kernel_rfl) (by kernel_rfl) rfl rfl rfl rfl ?_
  repeat' (first|(apply OK_seq)|(apply thenQ_n)|(apply OK_region)|(apply OKx_boxA;exact rfl; intro gx)|(apply OKx_gc 111;exact rfl; refine OKx_callV (f := 111) rfl rfl rfl (fun w1 hp => hNm w1) ?_)|(apply OKx_gc 112;exact rfl; refine OKx_callV (f := 112) rfl rfl rfl (fun w1 hp => hTx w1) ?_)|(apply OKx_gc 100;exact rfl; refine OKx_callV (f := 100) rfl rfl rfl (fun w1 hp => hG w1) ?_)|(apply OKx_nilK)|(apply OK_block)|(apply blockQ_n)|(apply blockQ_s)|(apply thenQ_e)|(apply blockQ_e;exact rfl)|(apply thenQ_r)|(apply blockQ_r)|(apply OK_condT;exact rfl)|(apply OK_condF;exact rfl)|(apply OK_skip)|(apply OK_exit)|(apply OK_ret)|(apply OKx_move;(conv=>lhs;whnf)<;>exact rfl)|(apply OKx_assign;(conv=>lhs;whnf)<;>exact rfl)|(apply OKx_ldB;exact rfl; (apply atP;constructor);exact rfl)|(apply OKx_ldR;(conv=>lhs;whnf)<;>exact rfl;(with_reducible assumption))|(apply OKx_ldI;exact rfl; (apply atP;constructor);omega)|(apply OKx_len;exact rfl)|(apply OKx_lenR;(conv=>lhs;whnf)<;>exact rfl;(with_reducible assumption))|(apply OKx_lenR2;(conv=>lhs;whnf)<;>exact rfl;(with_reducible assumption))|(apply OKx_lenO;(conv=>lhs;whnf)<;>exact rfl; (apply atP;constructor))|(apply OKx_lss;exact rfl;exact rfl;all_goals (intro _; try (exfalso;omega)))|(apply OKx_gtr;exact rfl;exact rfl;all_goals (intro _; try (exfalso;omega)))|(apply OKx_eql;exact rfl;exact rfl;all_goals (intro _; try (exfalso;omega)))|(apply OKx_neq;exact rfl;exact rfl;all_goals (intro _; try (exfalso;omega)))|(apply OKx_sneq;exact rfl;exact rfl; all_goals intro _)|(apply OKx_idxR2;(conv=>lhs;whnf)<;>exact rfl;(with_reducible assumption);exact rfl;omega;intro _ _)|(apply OKx_fldO;exact rfl;exact rfl)|(apply OKx_fldR;(conv=>lhs;whnf)<;>exact rfl;(with_reducible assumption); decide;intro _ _)|(apply OKx_inc;exact rfl;exact rfl;omega)|(apply OKx_addN;exact rfl;exact rfl;omega)|(apply OKx_add;exact rfl;exact rfl;omega;omega)|(apply OKx_pickT;exact rfl;(conv=>lhs;whnf)<;>exact rfl)|(apply OKx_pickF;exact rfl;(conv=>lhs;whnf)<;>exact rfl)|(apply OKx_guardT;exact rfl;exact rfl)|(apply OKx_guardF;exact rfl;exact rfl)|(apply OKx_guardU;exact rfl;exact rfl)|(apply OKx_notT;exact rfl)|(apply OKx_notF;exact rfl)|(apply OKx_boxA;exact rfl;intro _)|(apply OKx_ldBA;exact rfl; (apply atP;constructor);exact rfl)|(apply OKx_ldRA;(conv=>lhs;whnf)<;>exact rfl;(with_reducible assumption)))
  all_goals (try (exfalso;omega))
  all_goals (try exact absurd d6 (by assumption))
  all_goals
    refine OK_loop1 4 [2, 4, 87, 88, 89, 90, 91, 92, 93, 94, 95, 96, 97, 98] (fun m v L => ∃ j : Nat, j + m = x.parts.length ∧ v = .int .i64 (j : Int) ∧ (∀ i, i < j → (x.parts.getD i default).own = true) ∧ L = [.box 24 gx [.int .i64 x.kind, .int .i64 x.num, .string x.text, .slice pa x.parts.length pc]]) x.parts.length _ (Ent.refl _ _) ⟨0, by omega, rfl, fun i hi => absurd hi (by omega), rfl⟩ ?_
    rintro m v' L G ⟨j, hm, rfl, H, rfl⟩
    by_cases hj : j < x.parts.length
    · have hcall := fun w1 (hb1 : Below w.heap.size w w1) => ih j hj _ w1 ((hE j hj).below hb1)
      have hd : x.parts.getD j default = x.parts[j] := getD_lt _ _ _ hj
      repeat' (first|(apply OK_seq)|(apply thenQ_n)|(apply OK_region)|(apply OKx_gi; refine OKx_idxR2 (i := j) rfl hP rfl hj ?_; intro pp hpp)|(apply OKx_gl; refine OKx_ldRA rfl hpp ?_)|(apply OKx_gc 94;exact rfl; refine OKx_callB (f := 94) rfl rfl rfl (fun w1 hp => hcall w1 hp.below) ?_ ?_ <;> intro hq)|(apply OKx_nilK)|(apply OK_block)|(apply blockQ_n)|(apply blockQ_s)|(apply thenQ_e)|(apply blockQ_e;exact rfl)|(apply thenQ_r)|(apply blockQ_r)|(apply OK_condT;exact rfl)|(apply OK_condF;exact rfl)|(apply OK_skip)|(apply OK_exit)|(apply OK_ret)|(apply OKx_move;(conv=>lhs;whnf)<;>exact rfl)|(apply OKx_assign;(conv=>lhs;whnf)<;>exact rfl)|(apply OKx_ldB;exact rfl; (apply atP;constructor);exact rfl)|(apply OKx_ldR;(conv=>lhs;whnf)<;>exact rfl;(with_reducible assumption))|(apply OKx_ldI;exact rfl; (apply atP;constructor);omega)|(apply OKx_len;exact rfl)|(apply OKx_lenR;(conv=>lhs;whnf)<;>exact rfl;(with_reducible assumption))|(apply OKx_lenR2;(conv=>lhs;whnf)<;>exact rfl;(with_reducible assumption))|(apply OKx_lenO;(conv=>lhs;whnf)<;>exact rfl; (apply atP;constructor))|(apply OKx_lss;exact rfl;exact rfl;all_goals (intro _; try (exfalso;omega)))|(apply OKx_gtr;exact rfl;exact rfl;all_goals (intro _; try (exfalso;omega)))|(apply OKx_eql;exact rfl;exact rfl;all_goals (intro _; try (exfalso;omega)))|(apply OKx_neq;exact rfl;exact rfl;all_goals (intro _; try (exfalso;omega)))|(apply OKx_sneq;exact rfl;exact rfl; all_goals intro _)|(apply OKx_idxR2;(conv=>lhs;whnf)<;>exact rfl;(with_reducible assumption);exact rfl;omega;intro _ _)|(apply OKx_fldO;exact rfl;exact rfl)|(apply OKx_fldR;(conv=>lhs;whnf)<;>exact rfl;(with_reducible assumption); decide;intro _ _)|(apply OKx_inc;exact rfl;exact rfl;omega)|(apply OKx_addN;exact rfl;exact rfl;omega)|(apply OKx_add;exact rfl;exact rfl;omega;omega)|(apply OKx_pickT;exact rfl;(conv=>lhs;whnf)<;>exact rfl)|(apply OKx_pickF;exact rfl;(conv=>lhs;whnf)<;>exact rfl)|(apply OKx_guardT;exact rfl;exact rfl)|(apply OKx_guardF;exact rfl;exact rfl)|(apply OKx_guardU;exact rfl;exact rfl)|(apply OKx_notT;exact rfl)|(apply OKx_notF;exact rfl)|(apply OKx_boxA;exact rfl;intro _)|(apply OKx_ldBA;exact rfl; (apply atP;constructor);exact rfl)|(apply OKx_ldRA;(conv=>lhs;whnf)<;>exact rfl;(with_reducible assumption)))
      all_goals (try (exfalso;omega))
      all_goals first
        | (refine ⟨by (repeat' (first | refine agree_upd rfl ?_ | exact agree_over | exact agree_refl _ _ | refine agree_over2 rfl ?_)), m - 1, _, by omega, Ent.refl _ _, ?_⟩
           refine ⟨j + 1, by omega, rfl, fun i hi => ?_, rfl⟩
           by_cases e : i = j
           · subst e; rw [hd]; exact hq
           · exact H i (by omega))
        | ((refine bodyQ_r1 (by ((conv=>lhs;whnf)<;>exact rfl)) ?_)
           refine ⟨_, Ent.nil, bool_eq ?_, rfl⟩
           rw [eq_comm, List.all_eq_false]
           exact ⟨x.parts[j], List.getElem_mem hj, by rw [hq]; decide⟩)
    · obtain rfl : j = x.parts.length := by omega
      repeat' (first|(apply OK_seq)|(apply thenQ_n)|(apply OK_region)|(apply OKx_nilK)|(apply OK_block)|(apply blockQ_n)|(apply blockQ_s)|(apply thenQ_e)|(apply blockQ_e;exact rfl)|(apply thenQ_r)|(apply blockQ_r)|(apply OK_condT;exact rfl)|(apply OK_condF;exact rfl)|(apply OK_skip)|(apply OK_exit)|(apply OK_ret)|(apply OKx_move;(conv=>lhs;whnf)<;>exact rfl)|(apply OKx_assign;(conv=>lhs;whnf)<;>exact rfl)|(apply OKx_ldB;exact rfl; (apply atP;constructor);exact rfl)|(apply OKx_ldR;(conv=>lhs;whnf)<;>exact rfl;(with_reducible assumption))|(apply OKx_ldI;exact rfl; (apply atP;constructor);omega)|(apply OKx_len;exact rfl)|(apply OKx_lenR;(conv=>lhs;whnf)<;>exact rfl;(with_reducible assumption))|(apply OKx_lenR2;(conv=>lhs;whnf)<;>exact rfl;(with_reducible assumption))|(apply OKx_lenO;(conv=>lhs;whnf)<;>exact rfl; (apply atP;constructor))|(apply OKx_lss;exact rfl;exact rfl;all_goals (intro _; try (exfalso;omega)))|(apply OKx_gtr;exact rfl;exact rfl;all_goals (intro _; try (exfalso;omega)))|(apply OKx_eql;exact rfl;exact rfl;all_goals (intro _; try (exfalso;omega)))|(apply OKx_neq;exact rfl;exact rfl;all_goals (intro _; try (exfalso;omega)))|(apply OKx_sneq;exact rfl;exact rfl; all_goals intro _)|(apply OKx_idxR2;(conv=>lhs;whnf)<;>exact rfl;(with_reducible assumption);exact rfl;omega;intro _ _)|(apply OKx_fldO;exact rfl;exact rfl)|(apply OKx_fldR;(conv=>lhs;whnf)<;>exact rfl;(with_reducible assumption); decide;intro _ _)|(apply OKx_inc;exact rfl;exact rfl;omega)|(apply OKx_addN;exact rfl;exact rfl;omega)|(apply OKx_add;exact rfl;exact rfl;omega;omega)|(apply OKx_pickT;exact rfl;(conv=>lhs;whnf)<;>exact rfl)|(apply OKx_pickF;exact rfl;(conv=>lhs;whnf)<;>exact rfl)|(apply OKx_guardT;exact rfl;exact rfl)|(apply OKx_guardF;exact rfl;exact rfl)|(apply OKx_guardU;exact rfl;exact rfl)|(apply OKx_notT;exact rfl)|(apply OKx_notF;exact rfl)|(apply OKx_boxA;exact rfl;intro _)|(apply OKx_ldBA;exact rfl; (apply atP;constructor);exact rfl)|(apply OKx_ldRA;(conv=>lhs;whnf)<;>exact rfl;(with_reducible assumption)))
      all_goals (try (exfalso;omega))
      refine bodyQ_r1 (by ((conv=>lhs;whnf)<;>exact rfl)) ?_
      refine ⟨_, Ent.nil, bool_eq ?_, rfl⟩
      rw [eq_comm, List.all_eq_true]
      intro y hy
      obtain ⟨i, hi, rfl⟩ := List.getElem_of_mem hy
      have := H i hi
      rwa [getD_lt _ _ _ hi] at this
set_option maxRecDepth 100000 in
set_option maxHeartbeats 4000000 in
theorem rrBadFT_sat (x : Cnd) (hk1 : 1 ≤ x.kind) (hk2 : x.kind ≤ 13) (hN : numK x.kind = false) (hT : txtK x.kind = true) (hnd : ¬nodeB x.kind x.num x.text x.parts.length = true) : Rgt1 x := by
  intro v w h
  obtain ⟨pv, g, rfl, hs, hP, hE⟩ := h.shape
  obtain ⟨hpb, pa, pc, rfl, _⟩ := id hP
  have hG : ∀ w1, SatV Tryz.prog 100 [.string x.text] w1 (.int .i64 (patE (byts x.text))) := fun w1 => rChkB_sat _ w1 hs
  have hNm := fun w1 => rnum_sat x.kind w1
  have hTx := fun w1 => rtxt_sat x.kind w1
  have hf : x.own = false := by
    rw [own_eq, Bool.eq_false_iff.2 hnd, Bool.false_and]
  rw [hf]
  have hlc := lst_cases hk1 hk2
  rw [hN] at hNm
  rw [hT] at hTx
  have hk11 := txt_kind hT
  refine SatL.of 99 [2] Tryz.func94 (by kernel_rfl) (by kernel_rfl) rfl rfl rfl rfl ?_
  repeat' (first|(apply OK_seq)|(apply thenQ_n)|(apply OK_region)|(apply OKx_gc 111;exact rfl; refine OKx_callV (f := 111) rfl rfl rfl (fun w1 hp => hNm w1) ?_)|(apply OKx_gc 112;exact rfl; refine OKx_callV (f := 112) rfl rfl rfl (fun w1 hp => hTx w1) ?_)|(apply OKx_gc 100;exact rfl; refine OKx_callV (f := 100) rfl rfl rfl (fun w1 hp => hG w1) ?_)|(apply OKx_nilK)|(apply OK_block)|(apply blockQ_n)|(apply blockQ_s)|(apply thenQ_e)|(apply blockQ_e;exact rfl)|(apply thenQ_r)|(apply blockQ_r)|(apply OK_condT;exact rfl)|(apply OK_condF;exact rfl)|(apply OK_skip)|(apply OK_exit)|(apply OK_ret)|(apply OKx_move;(conv=>lhs;whnf)<;>exact rfl)|(apply OKx_assign;(conv=>lhs;whnf)<;>exact rfl)|(apply OKx_ldB;exact rfl; (apply atP;constructor);exact rfl)|(apply OKx_ldR;(conv=>lhs;whnf)<;>exact rfl;(with_reducible assumption))|(apply OKx_ldI;exact rfl; (apply atP;constructor);omega)|(apply OKx_len;exact rfl)|(apply OKx_lenR;(conv=>lhs;whnf)<;>exact rfl;(with_reducible assumption))|(apply OKx_lenR2;(conv=>lhs;whnf)<;>exact rfl;(with_reducible assumption))|(apply OKx_lenO;(conv=>lhs;whnf)<;>exact rfl; (apply atP;constructor))|(apply OKx_lss;exact rfl;exact rfl;all_goals (intro _; try (exfalso;omega)))|(apply OKx_gtr;exact rfl;exact rfl;all_goals (intro _; try (exfalso;omega)))|(apply OKx_eql;exact rfl;exact rfl;all_goals (intro _; try (exfalso;omega)))|(apply OKx_neq;exact rfl;exact rfl;all_goals (intro _; try (exfalso;omega)))|(apply OKx_sneq;exact rfl;exact rfl; all_goals intro _)|(apply OKx_idxR2;(conv=>lhs;whnf)<;>exact rfl;(with_reducible assumption);exact rfl;omega;intro _ _)|(apply OKx_fldO;exact rfl;exact rfl)|(apply OKx_fldR;(conv=>lhs;whnf)<;>exact rfl;(with_reducible assumption); decide;intro _ _)|(apply OKx_inc;exact rfl;exact rfl;omega)|(apply OKx_addN;exact rfl;exact rfl;omega)|(apply OKx_add;exact rfl;exact rfl;omega;omega)|(apply OKx_pickT;exact rfl;(conv=>lhs;whnf)<;>exact rfl)|(apply OKx_pickF;exact rfl;(conv=>lhs;whnf)<;>exact rfl)|(apply OKx_guardT;exact rfl;exact rfl)|(apply OKx_guardF;exact rfl;exact rfl)|(apply OKx_guardU;exact rfl;exact rfl)|(apply OKx_notT;exact rfl)|(apply OKx_notF;exact rfl)|(apply OKx_boxA;exact rfl;intro _)|(apply OKx_ldBA;exact rfl; (apply atP;constructor);exact rfl)|(apply OKx_ldRA;(conv=>lhs;whnf)<;>exact rfl;(with_reducible assumption)))
  all_goals first
    | ((refine bodyQ_r1 (by ((conv=>lhs;whnf)<;>exact rfl)) ?_)
       exact ⟨_, Ent.nil, rfl, rfl⟩)
    | (exfalso;omega)
    | (exfalso
       refine hnd (node_iff.2 ⟨by omega, by omega, by omega, by omega, fun h => by first | omega | (rw [hN] at h; cases h), fun h => by first | assumption | (rw [hT] at h; cases h), fun h => by first | omega | (rw [hT] at h; cases h), by omega, fun h => by omega⟩))
set_option maxRecDepth 100000 in
set_option maxHeartbeats 4000000 in
theorem rrOkFT_sat (x : Cnd) (hk1 : 1 ≤ x.kind) (hk2 : x.kind ≤ 13) (hN : numK x.kind = false) (hT : txtK x.kind = true) (hnd : nodeB x.kind x.num x.text x.parts.length = true) (ih : ∀ j, (hj : j < x.parts.length) → Rgt1 x.parts[j]) : Rgt1 x := by
  intro v w h
  obtain ⟨pv, g, rfl, hs, hP, hE⟩ := h.shape
  obtain ⟨hpb, pa, pc, rfl, _⟩ := id hP
  have hG : ∀ w1, SatV Tryz.prog 100 [.string x.text] w1 (.int .i64 (patE (byts x.text))) := fun w1 => rChkB_sat _ w1 hs
  have hNm := fun w1 => rnum_sat x.kind w1
  have hTx := fun w1 => rtxt_sat x.kind w1
  obtain ⟨_, _, d3, d4, d5, d6, d7, d8, d9⟩ := node_iff.1 hnd
  have hn : x.own = x.parts.all Cnd.own := by rw [own_eq, hnd, Bool.true_and]
  rw [hn]
  have hlc : (x.kind < 11 ∧ x.parts.length = 0) ∨ ((x.kind = 11 ∨ x.kind = 12) ∧ 2 ≤ x.parts.length) ∨ (x.kind = 13 ∧ x.parts.length = 1) := by
    rcases lst_cases hk1 hk2 with ⟨q1, q2, q3⟩ | ⟨q1, q2, q3⟩ | ⟨q1, q2, q3⟩ <;> omega
  clear d8 d9
  rw [hN] at hNm d5
  rw [hT] at hTx d6 d7
  try have d5 := d5 rfl
  try have d6 := d6 rfl
  try have d7 := d7 rfl
  have hk11 := txt_kind hT
  refine SatL.of 99 [2] Tryz.func94 (by kernel_rfl) (by kernel_rfl) rfl rfl rfl rfl ?_
  repeat' (first|(apply OK_seq)|(apply thenQ_n)|(apply OK_region)|(apply OKx_boxA;exact rfl; intro gx)|(apply OKx_gc 111;exact rfl; refine OKx_callV (f := 111) rfl rfl rfl (fun w1 hp => hNm w1) ?_)|(apply OKx_gc 112;exact rfl; refine OKx_callV (f := 112) rfl rfl rfl (fun w1 hp => hTx w1) ?_)|(apply OKx_gc 100;exact rfl; refine OKx_callV (f := 100) rfl rfl rfl (fun w1 hp => hG w1) ?_)|(apply OKx_nilK)|(apply OK_block)|(apply blockQ_n)|(apply blockQ_s)|(apply thenQ_e)|(apply blockQ_e;exact rfl)|(apply thenQ_r)|(apply blockQ_r)|(apply OK_condT;exact rfl)|(apply OK_condF;exact rfl)|(apply OK_skip)|(apply OK_exit)|(apply OK_ret)|(apply OKx_move;(conv=>lhs;whnf)<;>exact rfl)|(apply OKx_assign;(conv=>lhs;whnf)<;>exact rfl)|(apply OKx_ldB;exact rfl; (apply atP;constructor);exact rfl)|(apply OKx_ldR;(conv=>lhs;whnf)<;>exact rfl;(with_reducible assumption))|(apply OKx_ldI;exact rfl; (apply atP;constructor);omega)|(apply OKx_len;exact rfl)|(apply OKx_lenR;(conv=>lhs;whnf)<;>exact rfl;(with_reducible assumption))|(apply OKx_lenR2;(conv=>lhs;whnf)<;>exact rfl;(with_reducible assumption))|(apply OKx_lenO;(conv=>lhs;whnf)<;>exact rfl; (apply atP;constructor))|(apply OKx_lss;exact rfl;exact rfl;all_goals (intro _; try (exfalso;omega)))|(apply OKx_gtr;exact rfl;exact rfl;all_goals (intro _; try (exfalso;omega)))|(apply OKx_eql;exact rfl;exact rfl;all_goals (intro _; try (exfalso;omega)))|(apply OKx_neq;exact rfl;exact rfl;all_goals (intro _; try (exfalso;omega)))|(apply OKx_sneq;exact rfl;exact rfl; all_goals intro _)|(apply OKx_idxR2;(conv=>lhs;whnf)<;>exact rfl;(with_reducible assumption);exact rfl;omega;intro _ _)|(apply OKx_fldO;exact rfl;exact rfl)|(apply OKx_fldR;(conv=>lhs;whnf)<;>exact rfl;(with_reducible assumption); decide;intro _ _)|(apply OKx_inc;exact rfl;exact rfl;omega)|(apply OKx_addN;exact rfl;exact rfl;omega)|(apply OKx_add;exact rfl;exact rfl;omega;omega)|(apply OKx_pickT;exact rfl;(conv=>lhs;whnf)<;>exact rfl)|(apply OKx_pickF;exact rfl;(conv=>lhs;whnf)<;>exact rfl)|(apply OKx_guardT;exact rfl;exact rfl)|(apply OKx_guardF;exact rfl;exact rfl)|(apply OKx_guardU;exact rfl;exact rfl)|(apply OKx_notT;exact rfl)|(apply OKx_notF;exact rfl)|(apply OKx_boxA;exact rfl;intro _)|(apply OKx_ldBA;exact rfl; (apply atP;constructor);exact rfl)|(apply OKx_ldRA;(conv=>lhs;whnf)<;>exact rfl;(with_reducible assumption)))
  all_goals (try (exfalso;omega))
  all_goals (try exact absurd d6 (by assumption))
  all_goals
    refine OK_loop1 4 [2, 4, 87, 88, 89, 90, 91, 92, 93, 94, 95, 96, 97, 98] (fun m v L => ∃ j : Nat, j + m = x.parts.length ∧ v = .int .i64 (j : Int) ∧ (∀ i, i < j → (x.parts.getD i default).own = true) ∧ L = [.box 24 gx [.int .i64 x.kind, .int .i64 x.num, .string x.text, .slice pa x.parts.length pc]]) x.parts.length _ (Ent.refl _ _) ⟨0, by omega, rfl, fun i hi => absurd hi (by omega), rfl⟩ ?_
    rintro m v' L G ⟨j, hm, rfl, H, rfl⟩
    by_cases hj : j < x.parts.length
    · have hcall := fun w1 (hb1 : Below w.heap.size w w1) => ih j hj _ w1 ((hE j hj).below hb1)
      have hd : x.parts.getD j default = x.parts[j] := getD_lt _ _ _ hj
      repeat' (first|(apply OK_seq)|(apply thenQ_n)|(apply OK_region)|(apply OKx_gi; refine OKx_idxR2 (i := j) rfl hP rfl hj ?_; intro pp hpp)|(apply OKx_gl; refine OKx_ldRA rfl hpp ?_)|(apply OKx_gc 94;exact rfl; refine OKx_callB (f := 94) rfl rfl rfl (fun w1 hp => hcall w1 hp.below) ?_ ?_ <;> intro hq)|(apply OKx_nilK)|(apply OK_block)|(apply blockQ_n)|(apply blockQ_s)|(apply thenQ_e)|(apply blockQ_e;exact rfl)|(apply thenQ_r)|(apply blockQ_r)|(apply OK_condT;exact rfl)|(apply OK_condF;exact rfl)|(apply OK_skip)|(apply OK_exit)|(apply OK_ret)|(apply OKx_move;(conv=>lhs;whnf)<;>exact rfl)|(apply OKx_assign;(conv=>lhs;whnf)<;>exact rfl)|(apply OKx_ldB;exact rfl; (apply atP;constructor);exact rfl)|(apply OKx_ldR;(conv=>lhs;whnf)<;>exact rfl;(with_reducible assumption))|(apply OKx_ldI;exact rfl; (apply atP;constructor);omega)|(apply OKx_len;exact rfl)|(apply OKx_lenR;(conv=>lhs;whnf)<;>exact rfl;(with_reducible assumption))|(apply OKx_lenR2;(conv=>lhs;whnf)<;>exact rfl;(with_reducible assumption))|(apply OKx_lenO;(conv=>lhs;whnf)<;>exact rfl; (apply atP;constructor))|(apply OKx_lss;exact rfl;exact rfl;all_goals (intro _; try (exfalso;omega)))|(apply OKx_gtr;exact rfl;exact rfl;all_goals (intro _; try (exfalso;omega)))|(apply OKx_eql;exact rfl;exact rfl;all_goals (intro _; try (exfalso;omega)))|(apply OKx_neq;exact rfl;exact rfl;all_goals (intro _; try (exfalso;omega)))|(apply OKx_sneq;exact rfl;exact rfl; all_goals intro _)|(apply OKx_idxR2;(conv=>lhs;whnf)<;>exact rfl;(with_reducible assumption);exact rfl;omega;intro _ _)|(apply OKx_fldO;exact rfl;exact rfl)|(apply OKx_fldR;(conv=>lhs;whnf)<;>exact rfl;(with_reducible assumption); decide;intro _ _)|(apply OKx_inc;exact rfl;exact rfl;omega)|(apply OKx_addN;exact rfl;exact rfl;omega)|(apply OKx_add;exact rfl;exact rfl;omega;omega)|(apply OKx_pickT;exact rfl;(conv=>lhs;whnf)<;>exact rfl)|(apply OKx_pickF;exact rfl;(conv=>lhs;whnf)<;>exact rfl)|(apply OKx_guardT;exact rfl;exact rfl)|(apply OKx_guardF;exact rfl;exact rfl)|(apply OKx_guardU;exact rfl;exact rfl)|(apply OKx_notT;exact rfl)|(apply OKx_notF;exact rfl)|(apply OKx_boxA;exact rfl;intro _)|(apply OKx_ldBA;exact rfl; (apply atP;constructor);exact rfl)|(apply OKx_ldRA;(conv=>lhs;whnf)<;>exact rfl;(with_reducible assumption)))
      all_goals (try (exfalso;omega))
      all_goals first
        | (refine ⟨by (repeat' (first | refine agree_upd rfl ?_ | exact agree_over | exact agree_refl _ _ | refine agree_over2 rfl ?_)), m - 1, _, by omega, Ent.refl _ _, ?_⟩
           refine ⟨j + 1, by omega, rfl, fun i hi => ?_, rfl⟩
           by_cases e : i = j
           · subst e; rw [hd]; exact hq
           · exact H i (by omega))
        | ((refine bodyQ_r1 (by ((conv=>lhs;whnf)<;>exact rfl)) ?_)
           refine ⟨_, Ent.nil, bool_eq ?_, rfl⟩
           rw [eq_comm, List.all_eq_false]
           exact ⟨x.parts[j], List.getElem_mem hj, by rw [hq]; decide⟩)
    · obtain rfl : j = x.parts.length := by omega
      repeat' (first|(apply OK_seq)|(apply thenQ_n)|(apply OK_region)|(apply OKx_nilK)|(apply OK_block)|(apply blockQ_n)|(apply blockQ_s)|(apply thenQ_e)|(apply blockQ_e;exact rfl)|(apply thenQ_r)|(apply blockQ_r)|(apply OK_condT;exact rfl)|(apply OK_condF;exact rfl)|(apply OK_skip)|(apply OK_exit)|(apply OK_ret)|(apply OKx_move;(conv=>lhs;whnf)<;>exact rfl)|(apply OKx_assign;(conv=>lhs;whnf)<;>exact rfl)|(apply OKx_ldB;exact rfl; (apply atP;constructor);exact rfl)|(apply OKx_ldR;(conv=>lhs;whnf)<;>exact rfl;(with_reducible assumption))|(apply OKx_ldI;exact rfl; (apply atP;constructor);omega)|(apply OKx_len;exact rfl)|(apply OKx_lenR;(conv=>lhs;whnf)<;>exact rfl;(with_reducible assumption))|(apply OKx_lenR2;(conv=>lhs;whnf)<;>exact rfl;(with_reducible assumption))|(apply OKx_lenO;(conv=>lhs;whnf)<;>exact rfl; (apply atP;constructor))|(apply OKx_lss;exact rfl;exact rfl;all_goals (intro _; try (exfalso;omega)))|(apply OKx_gtr;exact rfl;exact rfl;all_goals (intro _; try (exfalso;omega)))|(apply OKx_eql;exact rfl;exact rfl;all_goals (intro _; try (exfalso;omega)))|(apply OKx_neq;exact rfl;exact rfl;all_goals (intro _; try (exfalso;omega)))|(apply OKx_sneq;exact rfl;exact rfl; all_goals intro _)|(apply OKx_idxR2;(conv=>lhs;whnf)<;>exact rfl;(with_reducible assumption);exact rfl;omega;intro _ _)|(apply OKx_fldO;exact rfl;exact rfl)|(apply OKx_fldR;(conv=>lhs;whnf)<;>exact rfl;(with_reducible assumption); decide;intro _ _)|(apply OKx_inc;exact rfl;exact rfl;omega)|(apply OKx_addN;exact rfl;exact rfl;omega)|(apply OKx_add;exact rfl;exact rfl;omega;omega)|(apply OKx_pickT;exact rfl;(conv=>lhs;whnf)<;>exact rfl)|(apply OKx_pickF;exact rfl;(conv=>lhs;whnf)<;>exact rfl)|(apply OKx_guardT;exact rfl;exact rfl)|(apply OKx_guardF;exact rfl;exact rfl)|(apply OKx_guardU;exact rfl;exact rfl)|(apply OKx_notT;exact rfl)|(apply OKx_notF;exact rfl)|(apply OKx_boxA;exact rfl;intro _)|(apply OKx_ldBA;exact rfl; (apply atP;constructor);exact rfl)|(apply OKx_ldRA;(conv=>lhs;whnf)<;>exact rfl;(with_reducible assumption)))
      all_goals (try (exfalso;omega))
      refine bodyQ_r1 (by ((conv=>lhs;whnf)<;>exact rfl)) ?_
      refine ⟨_, Ent.nil, bool_eq ?_, rfl⟩
      rw [eq_comm, List.all_eq_true]
      intro y hy
      obtain ⟨i, hi, rfl⟩ := List.getElem_of_mem hy
      have := H i hi
      rwa [getD_lt _ _ _ hi] at this
theorem num_txt {k : Int} (h : numK k = true) : txtK k = false := by
  unfold numK at h
  unfold txtK
  simp only [Bool.and_eq_true, decide_eq_true_eq] at h
  rw [decide_eq_false (by omega), Bool.false_and]
set_option maxRecDepth 100000 in
set_option maxHeartbeats 4000000 in
theorem rright_sat : ∀ (k : Nat) (x : Cnd), x.depth ≤ k → Rgt1 x
  | 0, x, hk => by have := depth_pos x;omega
  | k + 1, x, hk => by
    have ih : ∀ j, (hj : j < x.parts.length) → Rgt1 x.parts[j] := fun j hj => rright_sat k _ (by have := depth_in (List.getElem_mem hj);omega)
    by_cases hkk : 1 ≤ x.kind ∧ x.kind ≤ 13
    rotate_left
    · exact rrKind_sat x hkk
    obtain ⟨hk1, hk2⟩ := hkk
    by_cases hnd : nodeB x.kind x.num x.text x.parts.length = true
    · cases hN : numK x.kind
      · cases hT : txtK x.kind
        · exact rrOkFF_sat x hk1 hk2 hN hT hnd ih
        · exact rrOkFT_sat x hk1 hk2 hN hT hnd ih
      · exact rrOkTF_sat x hk1 hk2 hN (num_txt hN) hnd ih
    · cases hN : numK x.kind
      · cases hT : txtK x.kind
        · exact rrBadFF_sat x hk1 hk2 hN hT hnd
        · exact rrBadFT_sat x hk1 hk2 hN hT hnd
      · exact rrBadTF_sat x hk1 hk2 hN (num_txt hN) hnd
end Go.Proofs.YthnlnffmmioapaaGreatDoor
