/-
  Part 29 of the proof: Qa27, Qe27, Qg27. No statement of the seat is proved here.
-/
import Derived.Test.YthnlnffmmioapaaGreatDoorMHCl2728
namespace Go.Proofs.YthnlnffmmioapaaGreatDoor
open Go.RowKit
set_option maxRecDepth 100000 in
set_option maxHeartbeats 4000000 in
theorem rnum_sat (k : Int) (w : World) : SatV Tryz.prog 111 [.int .i64 k] w (.bool (numK k)) := by
  unfold numK
  refine SatL.of 9 [2] Tryz.func111 (by kernel_rfl) (by kernel_rfl) rfl rfl rfl rfl ?_
  repeat' (first|(apply OK_seq)|(apply thenQ_n)|(apply OK_region)|(apply OKx_nilK)|(apply OK_ret)|(apply OKx_move;(conv=>lhs;whnf)<;>exact rfl)|(apply OKx_assign;(conv=>lhs;whnf)<;>exact rfl)|(apply OKx_leq;exact rfl;exact rfl;all_goals (intro _; try (exfalso;omega)))|(apply OKx_geq;exact rfl;exact rfl;all_goals (intro _; try (exfalso;omega)))|(apply OKx_pickT;exact rfl;(conv=>lhs;whnf)<;>exact rfl)|(apply OKx_pickF;exact rfl;(conv=>lhs;whnf)<;>exact rfl)|(apply OKx_guardT;exact rfl;exact rfl)|(apply OKx_guardF;exact rfl;exact rfl))
  all_goals
    refine bodyQ_r1 (by ((conv=>lhs;whnf)<;>exact rfl)) ?_
    refine ⟨_, Ent.nil, bool_eq ?_, rfl⟩
  all_goals first
    | (rw [decide_eq_true (by omega), decide_eq_true (by omega)]; rfl)
    | (rw [decide_eq_false (show ¬ 5 ≤ k by omega)]; rfl)
    | (rw [decide_eq_false (show ¬ k ≤ 7 by omega), Bool.and_false])
set_option maxRecDepth 100000 in
set_option maxHeartbeats 4000000 in
theorem rtxt_sat (k : Int) (w : World) : SatV Tryz.prog 112 [.int .i64 k] w (.bool (txtK k)) := by
  unfold txtK
  refine SatL.of 9 [2] Tryz.func112 (by kernel_rfl) (by kernel_rfl) rfl rfl rfl rfl ?_
  repeat' (first|(apply OK_seq)|(apply thenQ_n)|(apply OK_region)|(apply OKx_nilK)|(apply OK_ret)|(apply OKx_move;(conv=>lhs;whnf)<;>exact rfl)|(apply OKx_assign;(conv=>lhs;whnf)<;>exact rfl)|(apply OKx_eql;exact rfl;exact rfl;all_goals (intro _; try (exfalso;omega)))|(apply OKx_pickT;exact rfl;(conv=>lhs;whnf)<;>exact rfl)|(apply OKx_pickF;exact rfl;(conv=>lhs;whnf)<;>exact rfl)|(apply OKx_guardT;exact rfl;exact rfl)|(apply OKx_guardF;exact rfl;exact rfl))
  all_goals
    refine bodyQ_r1 (by ((conv=>lhs;whnf)<;>exact rfl)) ?_
    refine ⟨_, Ent.nil, bool_eq ?_, rfl⟩
  all_goals first
    | (rw [decide_eq_true (by omega), decide_eq_true (by omega)]; rfl)
    | (rw [show (decide (8 ≤ k) && decide (k ≤ 9)) = false from Bool.eq_false_iff.2 fun h => by
        simp only [Bool.and_eq_true, decide_eq_true_eq] at h
        omega])
    | (rw [decide_eq_false (show ¬ 8 ≤ k by omega)]; rfl)
    | (rw [decide_eq_false (show ¬ k ≤ 9 by omega), Bool.and_false])
set_option maxRecDepth 100000 in
set_option maxHeartbeats 4000000 in
theorem rChkB_sat (s : ByteArray) (w : World) (hs : s.size ≤ 140737488355328) : SatV Tryz.prog 100 [.string s] w (.int .i64 (patE (byts s))) := by
  have := rCheck_sat (byts s) w (by rw [byts_len]; exact hs)
  rwa [show bOf (byts s) = s from bOf_data s] at this
theorem lst_cases {k : Int} (h1 : 1 ≤ k) (h2 : k ≤ 13) : (k < 11 ∧ lstK k = 0 ∧ mstK k = 0) ∨ ((k = 11 ∨ k = 12) ∧ lstK k = 2 ∧ mstK k = -1) ∨ (k = 13 ∧ lstK k = 1 ∧ mstK k = 1) := by
  unfold lstK mstK
  by_cases h : k = 13
  · right; right
    rw [if_pos h, if_pos h]
    exact ⟨h, rfl, rfl⟩
  · rw [if_neg h, if_neg h]
    by_cases h3 : 11 ≤ k
    · rw [if_pos h3, if_pos h3]
      exact .inr (.inl ⟨by omega, rfl, rfl⟩)
    · rw [if_neg h3, if_neg h3]
      exact .inl ⟨by omega, rfl, rfl⟩
theorem num_kind {k : Int} (h : numK k = true) : k < 11 := by
  unfold numK at h
  simp only [Bool.and_eq_true, decide_eq_true_eq] at h
  omega
theorem txt_kind {k : Int} (h : txtK k = true) : k < 11 := by
  unfold txtK at h
  simp only [Bool.and_eq_true, decide_eq_true_eq] at h
  omega
def Rgt1 (x : Cnd) : Prop := ∀ (v : Value) (w : World), Exp w x v → SatV Tryz.prog 94 [v] w (.bool x.own)
set_option maxRecDepth 100000 in
set_option maxHeartbeats 4000000 in
theorem rrKind_sat (x : Cnd) (hkk : ¬(1 ≤ x.kind ∧ x.kind ≤ 13)) : Rgt1 x := by
  intro v w h
  obtain ⟨pv, g, rfl, hs, hP, hE⟩ := h.shape
  obtain ⟨hpb, pa, pc, rfl, _⟩ := id hP
  have hf : x.own = false := by
    rw [own_eq, nodeB, decide_eq_false (fun h => hkk ⟨h.1, h.2.1⟩), Bool.false_and]
  rw [hf]
  refine SatL.of 99 [2] Tryz.func94 (by kernel_rfl) (by kernel_rfl) rfl rfl rfl rfl ?_
  repeat' (first|(apply OK_seq)|(apply thenQ_n)|(apply OK_region)|(apply OKx_nilK)|(apply thenQ_r)|(apply OK_condT;exact rfl)|(apply OK_ret)|(apply OKx_move;(conv=>lhs;whnf)<;>exact rfl)|(apply OKx_assign;(conv=>lhs;whnf)<;>exact rfl)|(apply OKx_ldB;exact rfl; (apply atP;constructor);exact rfl)|(apply OKx_lss;exact rfl;exact rfl;all_goals (intro _; try (exfalso;omega)))|(apply OKx_gtr;exact rfl;exact rfl;all_goals (intro _; try (exfalso;omega)))|(apply OKx_fldO;exact rfl;exact rfl)|(apply OKx_pickT;exact rfl;(conv=>lhs;whnf)<;>exact rfl)|(apply OKx_pickF;exact rfl;(conv=>lhs;whnf)<;>exact rfl)|(apply OKx_guardT;exact rfl;exact rfl)|(apply OKx_guardF;exact rfl;exact rfl)|(apply OKx_guardU;exact rfl;exact rfl)|(apply OKx_boxA;exact rfl;intro _))
  all_goals (try (exfalso;omega))
  all_goals
    refine bodyQ_r1 (by ((conv=>lhs;whnf)<;>exact rfl)) ?_
    exact ⟨_, Ent.nil, rfl, rfl⟩
set_option maxRecDepth 100000 in
set_option maxHeartbeats 4000000 in
theorem rrBadFF_sat (x : Cnd) (hk1 : 1 ≤ x.kind) (hk2 : x.kind ≤ 13) (hN : numK x.kind = false) (hT : txtK x.kind = false) (hnd : ¬nodeB x.kind x.num x.text x.parts.length = true) : Rgt1 x := by
  intro v w h
  obtain ⟨pv, g, rfl, hs, hP, hE⟩ := h.shape
  obtain ⟨hpb, pa, pc, rfl, _⟩ := id hP
  have hG : ∀ w1, SatV Tryz.prog 100 [.string x.text] w1 (.int .i64 (patE (byts x.text))) := fun w1 => rChkB_sat _ w1 hs
  have hNm := fun w1 => rnum_sat x.kind w1
  have hTx := fun w1 => rtxt_sat x.kind w1
  have hf : x.own = false := by
    rw [own_eq, Bool.eq_false_iff.2 hnd, Bool.false_and]
  rw [hf]
  have hlc := lst_cases hk1 hk2
  rw [hN] at hNm
  rw [hT] at hTx
  skip
  refine SatL.of 99 [2] Tryz.func94 (by kernel_rfl) (by kernel_rfl) rfl rfl rfl rfl ?_
  repeat' (first|(apply OK_seq)|(apply thenQ_n)|(apply OK_region)|(apply OKx_gc 111;exact rfl; refine OKx_callV (f := 111) rfl rfl rfl (fun w1 hp => hNm w1) ?_)|(apply OKx_gc 112;exact rfl; refine OKx_callV (f := 112) rfl rfl rfl (fun w1 hp => hTx w1) ?_)|(apply OKx_nilK)|(apply OK_block)|(apply thenQ_r)|(apply OK_condT;exact rfl)|(apply OK_condF;exact rfl)|(apply OK_skip)|(apply OK_ret)|(apply OKx_move;(conv=>lhs;whnf)<;>exact rfl)|(apply OKx_assign;(conv=>lhs;whnf)<;>exact rfl)|(apply OKx_ldB;exact rfl; (apply atP;constructor);exact rfl)|(apply OKx_len;exact rfl)|(apply OKx_lss;exact rfl;exact rfl;all_goals (intro _; try (exfalso;omega)))|(apply OKx_gtr;exact rfl;exact rfl;all_goals (intro _; try (exfalso;omega)))|(apply OKx_eql;exact rfl;exact rfl;all_goals (intro _; try (exfalso;omega)))|(apply OKx_neq;exact rfl;exact rfl;all_goals (intro _; try (exfalso;omega)))|(apply OKx_sneq;exact rfl;exact rfl; all_goals intro _)|(apply OKx_fldO;exact rfl;exact rfl)|(apply OKx_pickT;exact rfl;(conv=>lhs;whnf)<;>exact rfl)|(apply OKx_pickF;exact rfl;(conv=>lhs;whnf)<;>exact rfl)|(apply OKx_guardT;exact rfl;exact rfl)|(apply OKx_guardF;exact rfl;exact rfl)|(apply OKx_guardU;exact rfl;exact rfl)|(apply OKx_notF;exact rfl)|(apply OKx_boxA;exact rfl;intro _))
  all_goals first
    | ((refine bodyQ_r1 (by ((conv=>lhs;whnf)<;>exact rfl)) ?_)
       exact ⟨_, Ent.nil, rfl, rfl⟩)
    | (exfalso;omega)
    | (exfalso
       refine hnd (node_iff.2 ⟨by omega, by omega, by omega, by omega, fun h => by first | omega | (rw [hN] at h; cases h), fun h => by first | assumption | (rw [hT] at h; cases h), fun h => by first | omega | (rw [hT] at h; cases h), by omega, fun h => by omega⟩))
set_option maxRecDepth 100000 in
set_option maxHeartbeats 4000000 in
theorem rrOkFF_sat (x : Cnd) (hk1 : 1 ≤ x.kind) (hk2 : x.kind ≤ 13) (hN : numK x.kind = false) (hT : txtK x.kind = false) (hnd : nodeB x.kind x.num x.text x.parts.length = true) (ih : ∀ j, (hj : j < x.parts.length) → Rgt1 x.parts[j]) : Rgt1 x := by
  intro v w h
  obtain ⟨pv, g, rfl, hs, hP, hE⟩ := h.shape
  obtain ⟨hpb, pa, pc, rfl, _⟩ := id hP
  have hG : ∀ w1, SatV Tryz.prog 100 [.string x.text] w1 (.int .i64 (patE (byts x.text))) := fun w1 => rChkB_sat _ w1 hs
  have hNm := fun w1 => rnum_sat x.kind w1
  have hTx := fun w1 => rtxt_sat x.kind w1
  obtain ⟨_, _, d3, d4, d5, d6, d7, d8, d9⟩ := node_iff.1 hnd
  have hn : x.own = x.parts.all Cnd.own := by rw [own_eq, hnd, Bool.true_and]
  rw [hn]
  have hlc : (x.kind < 11 ∧ x.parts.length = 0) ∨ ((x.kind = 11 ∨ x.kind = 12) ∧ 2 ≤ x.parts.length) ∨ (x.kind = 13 ∧ x.parts.length = 1) := by
    rcases lst_cases hk1 hk2 with ⟨q1, q2, q3⟩ | ⟨q1, q2, q3⟩ | ⟨q1, q2, q3⟩ <;> omega
  clear d8 d9
  rw [hN] at hNm d5
  rw [hT] at hTx d6 d7
  try have d5 := d5 rfl
  try have d6 := d6 rfl
  try have d7 := d7 rfl
  skip
  refine SatL.of 99 [2] Tryz.func94 (by kernel_rfl) (by kernel_rfl) rfl rfl rfl rfl ?_
  repeat' (first|(apply OK_seq)|(apply thenQ_n)|(apply OK_region)|(apply OKx_boxA;exact rfl; intro gx)|(apply OKx_gc 112;exact rfl; refine OKx_callV (f := 112) rfl rfl rfl (fun w1 hp => hTx w1) ?_)|(apply OKx_nilK)|(apply OK_block)|(apply thenQ_r)|(apply OK_condT;exact rfl)|(apply OK_condF;exact rfl)|(apply OK_skip)|(apply OK_ret)|(apply OKx_move;(conv=>lhs;whnf)<;>exact rfl)|(apply OKx_assign;(conv=>lhs;whnf)<;>exact rfl)|(apply OKx_ldB;exact rfl; (apply atP;constructor);exact rfl)|(apply OKx_len;exact rfl)|(apply OKx_lss;exact rfl;exact rfl;all_goals (intro _; try (exfalso;omega)))|(apply OKx_gtr;exact rfl;exact rfl;all_goals (intro _; try (exfalso;omega)))|(apply OKx_eql;exact rfl;exact rfl;all_goals (intro _; try (exfalso;omega)))|(apply OKx_neq;exact rfl;exact rfl;all_goals (intro _; try (exfalso;omega)))|(apply OKx_sneq;exact rfl;exact rfl; all_goals intro _)|(apply OKx_fldO;exact rfl;exact rfl)|(apply OKx_pickT;exact rfl;(conv=>lhs;whnf)<;>exact rfl)|(apply OKx_pickF;exact rfl;(conv=>lhs;whnf)<;>exact rfl)|(apply OKx_guardT;exact rfl;exact rfl)|(apply OKx_guardF;exact rfl;exact rfl)|(apply OKx_notF;exact rfl))
  all_goals (try (exfalso;omega))
  all_goals (try exact absurd d6 (by assumption))
  all_goals
    refine OK_loop1 4 [2, 4, 87, 88, 89, 90, 91, 92, 93, 94, 95, 96, 97, 98] (fun m v L => ∃ j : Nat, j + m = x.parts.length ∧ v = .int .i64 (j : Int) ∧ (∀ i, i < j → (x.parts.getD i default).own = true) ∧ L = [.box 24 gx [.int .i64 x.kind, .int .i64 x.num, .string x.text, .slice pa x.parts.length pc]]) x.parts.length _ (Ent.refl _ _) ⟨0, by omega, rfl, fun i hi => absurd hi (by omega), rfl⟩ ?_
    rintro m v' L G ⟨j, hm, rfl, H, rfl⟩
    by_cases hj : j < x.parts.length
    · have hcall := fun w1 (hb1 : Below w.heap.size w w1) => ih j hj _ w1 ((hE j hj).below hb1)
      have hd : x.parts.getD j default = x.parts[j] := getD_lt _ _ _ hj
      repeat' (first|(apply OK_seq)|(apply thenQ_n)|(apply OK_region)|(apply OKx_gi; refine OKx_idxR2 (i := j) rfl hP rfl hj ?_; intro pp hpp)|(apply OKx_gl; refine OKx_ldRA rfl hpp ?_)|(apply OKx_gc 94;exact rfl; refine OKx_callB (f := 94) rfl rfl rfl (fun w1 hp => hcall w1 hp.below) ?_ ?_ <;> intro hq)|(apply OKx_nilK)|(apply OK_block)|(apply blockQ_n)|(apply thenQ_r)|(apply blockQ_r)|(apply OK_condT;exact rfl)|(apply OK_condF;exact rfl)|(apply OK_skip)|(apply OK_ret)|(apply OKx_move;(conv=>lhs;whnf)<;>exact rfl)|(apply OKx_assign;(conv=>lhs;whnf)<;>exact rfl)|(apply OKx_ldB;exact rfl; (apply atP;constructor);exact rfl)|(apply OKx_lss;exact rfl;exact rfl;all_goals (intro _; try (exfalso;omega)))|(apply OKx_fldO;exact rfl;exact rfl)|(apply OKx_inc;exact rfl;exact rfl;omega)|(apply OKx_notT;exact rfl)|(apply OKx_notF;exact rfl))
      all_goals (try (exfalso;omega))
      all_goals first
        | (refine ⟨by (repeat' (first | refine agree_upd rfl ?_ | exact agree_over | exact agree_refl _ _ | refine agree_over2 rfl ?_)), m - 1, _, by omega, Ent.refl _ _, ?_⟩
           refine ⟨j + 1, by omega, rfl, fun i hi => ?_, rfl⟩
           by_cases e : i = j
           · subst e; rw [hd]; exact hq
           · exact H i (by omega))
        | ((refine bodyQ_r1 (by ((conv=>lhs;whnf)<;>exact rfl)) ?_)
           refine ⟨_, Ent.nil, bool_eq ?_, rfl⟩
           rw [eq_comm, List.all_eq_false]
           exact ⟨x.parts[j], List.getElem_mem hj, by rw [hq]; decide⟩)
    · obtain rfl : j = x.parts.length := by omega
      repeat' (first|(apply OK_seq)|(apply thenQ_n)|(apply OK_region)|(apply OKx_nilK)|(apply blockQ_s)|(apply thenQ_e)|(apply OK_condF;exact rfl)|(apply OK_exit)|(apply OK_ret)|(apply OKx_move;(conv=>lhs;whnf)<;>exact rfl)|(apply OKx_assign;(conv=>lhs;whnf)<;>exact rfl)|(apply OKx_lss;exact rfl;exact rfl;all_goals (intro _; try (exfalso;omega))))
      all_goals (try (exfalso;omega))
      refine bodyQ_r1 (by ((conv=>lhs;whnf)<;>exact rfl)) ?_
      refine ⟨_, Ent.nil, bool_eq ?_, rfl⟩
      rw [eq_comm, List.all_eq_true]
      intro y hy
      obtain ⟨i, hi, rfl⟩ := List.getElem_of_mem hy
      have := H i hi
      rwa [getD_lt _ _ _ hi] at this
set_option maxRecDepth 100000 in
set_option maxHeartbeats 4000000 in
theorem rrBadTF_sat (x : Cnd) (hk1 : 1 ≤ x.kind) (hk2 : x.kind ≤ 13) (hN : numK x.kind = true) (hT : txtK x.kind = false) (hnd : ¬nodeB x.kind x.num x.text x.parts.length = true) : Rgt1 x := by
  intro v w h
  obtain ⟨pv, g, rfl, hs, hP, hE⟩ := h.shape
  obtain ⟨hpb, pa, pc, rfl, _⟩ := id hP
  have hG : ∀ w1, SatV Tryz.prog 100 [.string x.text] w1 (.int .i64 (patE (byts x.text))) := fun w1 => rChkB_sat _ w1 hs
  have hNm := fun w1 => rnum_sat x.kind w1
  have hTx := fun w1 => rtxt_sat x.kind w1
  have hf : x.own = false := by
    rw [own_eq, Bool.eq_false_iff.2 hnd, Bool.false_and]
  rw [hf]
  have hlc := lst_cases hk1 hk2
  rw [hN] at hNm
  rw [hT] at hTx
  have hk11 := num_kind hN
  refine SatL.of 99 [2] Tryz.func94 (by kernel_rfl) (by kernel_rfl) rfl rfl rfl rfl ?_
  repeat' (first|(apply OK_seq)|(apply thenQ_n)|(apply OK_region)|(apply OKx_gc 111;exact rfl; refine OKx_callV (f := 111) rfl rfl rfl (fun w1 hp => hNm w1) ?_)|(apply OKx_gc 112;exact rfl; refine OKx_callV (f := 112) rfl rfl rfl (fun w1 hp => hTx w1) ?_)|(apply OKx_nilK)|(apply OK_block)|(apply thenQ_r)|(apply OK_condT;exact rfl)|(apply OK_condF;exact rfl)|(apply OK_skip)|(apply OK_ret)|(apply OKx_move;(conv=>lhs;whnf)<;>exact rfl)|(apply OKx_assign;(conv=>lhs;whnf)<;>exact rfl)|(apply OKx_ldB;exact rfl; (apply atP;constructor);exact rfl)|(apply OKx_len;exact rfl)|(apply OKx_lss;exact rfl;exact rfl;all_goals (intro _; try (exfalso;omega)))|(apply OKx_gtr;exact rfl;exact rfl;all_goals (intro _; try (exfalso;omega)))|(apply OKx_eql;exact rfl;exact rfl;all_goals (intro _; try (exfalso;omega)))|(apply OKx_neq;exact rfl;exact rfl;all_goals (intro _; try (exfalso;omega)))|(apply OKx_sneq;exact rfl;exact rfl; all_goals intro _)|(apply OKx_fldO;exact rfl;exact rfl)|(apply OKx_pickT;exact rfl;(conv=>lhs;whnf)<;>exact rfl)|(apply OKx_pickF;exact rfl;(conv=>lhs;whnf)<;>exact rfl)|(apply OKx_guardT;exact rfl;exact rfl)|(apply OKx_guardF;exact rfl;exact rfl)|(apply OKx_guardU;exact rfl;exact rfl)|(apply OKx_notT;exact rfl)|(apply OKx_notF;exact rfl)|(apply OKx_boxA;exact rfl;intro _))
  all_goals first
    | ((refine bodyQ_r1 (by ((conv=>lhs;whnf)<;>exact rfl)) ?_)
       exact ⟨_, Ent.nil, rfl, rfl⟩)
    | (exfalso;omega)
    | (exfalso
       refine hnd (node_iff.2 ⟨by omega, by omega, by omega, by omega, fun h => by first | omega | (rw [hN] at h; cases h), fun h => by first | assumption | (rw [hT] at h; cases h), fun h => by first | omega | (rw [hT] at h; cases h), by omega, fun h => by omega⟩))
set_option maxRecDepth 100000 in
set_option maxHeartbeats 4000000 in
theorem rrOkTF_sat (x : Cnd) (hk1 : 1 ≤ x.kind) (hk2 : x.kind ≤ 13) (hN : numK x.kind = true) (hT : txtK x.kind = false) (hnd : nodeB x.kind x.num x.text x.parts.length = true) (ih : ∀ j, (hj : j < x.parts.length) → Rgt1 x.parts[j]) : Rgt1 x := by
  intro v w h
  obtain ⟨pv, g, rfl, hs, hP, hE⟩ := h.shape
  obtain ⟨hpb, pa, pc, rfl, _⟩ := id hP
  have hG : ∀ w1, SatV Tryz.prog 100 [.string x.text] w1 (.int .i64 (patE (byts x.text))) := fun w1 => rChkB_sat _ w1 hs
  have hNm := fun w1 => rnum_sat x.kind w1
  have hTx := fun w1 => rtxt_sat x.kind w1
  obtain ⟨_, _, d3, d4, d5, d6, d7, d8, d9⟩ := node_iff.1 hnd
  have hn : x.own = x.parts.all Cnd.own := by rw [own_eq, hnd, Bool.true_and]
  rw [hn]
  have hlc : (x.kind < 11 ∧ x.parts.length = 0) ∨ ((x.kind = 11 ∨ x.kind = 12) ∧ 2 ≤ x.parts.length) ∨ (x.kind = 13 ∧ x.parts.length = 1) := by
    rcases lst_cases hk1 hk2 with ⟨q1, q2, q3⟩ | ⟨q1, q2, q3⟩ | ⟨q1, q2, q3⟩ <;> omega
  clear d8 d9
  rw [hN] at hNm d5
  rw [hT] at hTx d6 d7
  try have d5 := d5 rfl
  try have d6 := d6 rfl
  try have d7 := d7 rfl
  have hk11 := num_kind hN
  refine SatL.of 99 [2] Tryz.func94 (by kernel_rfl) (by kernel_rfl) rfl rfl rfl rfl ?_
  repeat' (first|(apply OK_seq)|(apply thenQ_n)|(apply OK_region)|(apply OKx_boxA;exact rfl; intro gx)|(apply OKx_gc 111;exact rfl; refine OKx_callV (f := 111) rfl rfl rfl (fun w1 hp => hNm w1) ?_)|(apply OKx_gc 112;exact rfl; refine OKx_callV (f := 112) rfl rfl rfl (fun w1 hp => hTx w1) ?_)|(apply OKx_nilK)|(apply OK_block)|(apply thenQ_r)|(apply OK_condT;exact rfl)|(apply OK_condF;exact rfl)|(apply OK_skip)|(apply OK_ret)|(apply OKx_move;(conv=>lhs;whnf)<;>exact rfl)|(apply OKx_assign;(conv=>lhs;whnf)<;>exact rfl)|(apply OKx_ldB;exact rfl; (apply atP;constructor);exact rfl)|(apply OKx_len;exact rfl)|(apply OKx_lss;exact rfl;exact rfl;all_goals (intro _; try (exfalso;omega)))|(apply OKx_gtr;exact rfl;exact rfl;all_goals (intro _; try (exfalso;omega)))|(apply OKx_eql;exact rfl;exact rfl;all_goals (intro _; try (exfalso;omega)))|(apply OKx_neq;exact rfl;exact rfl;all_goals (intro _; try (exfalso;omega)))|(apply OKx_sneq;exact rfl;exact rfl; all_goals intro _)|(apply OKx_fldO;exact rfl;exact rfl)|(apply OKx_pickT;exact rfl;(conv=>lhs;whnf)<;>exact rfl)|(apply OKx_pickF;exact rfl;(conv=>lhs;whnf)<;>exact rfl)|(apply OKx_guardT;exact rfl;exact rfl)|(apply OKx_guardF;exact rfl;exact rfl)|(apply OKx_notT;exact rfl)|(apply OKx_notF;exact rfl))
  all_goals (try (exfalso;omega))
  all_goals (try exact absurd d6 (by assumption))
  all_goals
    refine OK_loop1 4 [2, 4, 87, 88, 89, 90, 91, 92, 93, 94, 95, 96, 97, 98] (fun m v L => ∃ j : Nat, j + m = x.parts.length ∧ v = .int .i64 (j : Int) ∧ (∀ i, i < j → (x.parts.getD i default).own = true) ∧ L = [.box 24 gx [.int .i64 x.kind, .int .i64 x.num, .string x.text, .slice pa x.parts.length pc]]) x.parts.length _ (Ent.refl _ _) ⟨0, by omega, rfl, fun i hi => absurd hi (by omega), rfl⟩ ?_
    rintro m v' L G ⟨j, hm, rfl, H, rfl⟩
    by_cases hj : j < x.parts.length
    · have hcall := fun w1 (hb1 : Below w.heap.size w w1) => ih j hj _ w1 ((hE j hj).below hb1)
      have hd : x.parts.getD j default = x.parts[j] := getD_lt _ _ _ hj
      repeat' (first|(apply OK_seq)|(apply OK_region)|(apply OKx_move;(conv=>lhs;whnf)<;>exact rfl)|(apply OKx_lss;exact rfl;exact rfl;all_goals (intro _; try (exfalso;omega))))
      all_goals (try (exfalso;omega))
      all_goals first
        | (refine ⟨by (repeat' (first | refine agree_upd rfl ?_ | exact agree_over | exact agree_refl _ _ | refine agree_over2 rfl ?_)), m - 1, _, by omega, Ent.refl _ _, ?_⟩
           refine ⟨j + 1, by omega, rfl, fun i hi => ?_, rfl⟩
           by_cases e : i = j
           · subst e; rw [hd]; exact hq
           · exact H i (by omega))
        | ((refine bodyQ_r1 (by ((conv=>lhs;whnf)<;>exact rfl)) ?_)
           refine ⟨_, Ent.nil, bool_eq ?_, rfl⟩
           rw [eq_comm, List.all_eq_false]
           exact ⟨x.parts[j], List.getElem_mem hj, by rw [hq]; decide⟩)
    · obtain rfl : j = x.parts.length := by omega
      repeat' (first|(apply OK_seq)|(apply thenQ_n)|(apply OK_region)|(apply OKx_nilK)|(apply blockQ_s)|(apply thenQ_e)|(apply OK_condF;exact rfl)|(apply OK_exit)|(apply OK_ret)|(apply OKx_move;(conv=>lhs;whnf)<;>exact rfl)|(apply OKx_assign;(conv=>lhs;whnf)<;>exact rfl)|(apply OKx_lss;exact rfl;exact rfl;all_goals (intro _; try (exfalso;omega))))
      all_goals (try (exfalso;omega))
      refine bodyQ_r1 (by ((conv=>lhs;whnf)<;>exact rfl)) ?_
      refine ⟨_, Ent.nil, bool_eq ?_, rfl⟩
      rw [eq_comm, List.all_eq_true]
      intro y hy
      obtain ⟨i, hi, rfl⟩ := List.getElem_of_mem hy
      have := H i hi
      rwa [getD_lt _ _ _ hi] at this
set_option maxRecDepth 100000 in
set_option maxHeartbeats 4000000 in
theorem rrBadFT_sat (x : Cnd) (hk1 : 1 ≤ x.kind) (hk2 : x.kind ≤ 13) (hN : numK x.kind = false) (hT : txtK x.kind = true) (hnd : ¬nodeB x.kind x.num x.text x.parts.length = true) : Rgt1 x := by
  intro v w h
  obtain ⟨pv, g, rfl, hs, hP, hE⟩ := h.shape
  obtain ⟨hpb, pa, pc, rfl, _⟩ := id hP
  have hG : ∀ w1, SatV Tryz.prog 100 [.string x.text] w1 (.int .i64 (patE (byts x.text))) := fun w1 => rChkB_sat _ w1 hs
  have hNm := fun w1 => rnum_sat x.kind w1
  have hTx := fun w1 => rtxt_sat x.kind w1
  have hf : x.own = false := by
    rw [own_eq, Bool.eq_false_iff.2 hnd, Bool.false_and]
  rw [hf]
  have hlc := lst_cases hk1 hk2
  rw [hN] at hNm
  rw [hT] at hTx
  have hk11 := txt_kind hT
  refine SatL.of 99 [2] Tryz.func94 (by kernel_rfl) (by kernel_rfl) rfl rfl rfl rfl ?_
  repeat' (first|(apply OK_seq)|(apply thenQ_n)|(apply OK_region)|(apply OKx_gc 111;exact rfl; refine OKx_callV (f := 111) rfl rfl rfl (fun w1 hp => hNm w1) ?_)|(apply OKx_gc 112;exact rfl; refine OKx_callV (f := 112) rfl rfl rfl (fun w1 hp => hTx w1) ?_)|(apply OKx_gc 100;exact rfl; refine OKx_callV (f := 100) rfl rfl rfl (fun w1 hp => hG w1) ?_)|(apply OKx_nilK)|(apply OK_block)|(apply thenQ_r)|(apply OK_condT;exact rfl)|(apply OK_condF;exact rfl)|(apply OK_skip)|(apply OK_ret)|(apply OKx_move;(conv=>lhs;whnf)<;>exact rfl)|(apply OKx_assign;(conv=>lhs;whnf)<;>exact rfl)|(apply OKx_ldB;exact rfl; (apply atP;constructor);exact rfl)|(apply OKx_len;exact rfl)|(apply OKx_lss;exact rfl;exact rfl;all_goals (intro _; try (exfalso;omega)))|(apply OKx_gtr;exact rfl;exact rfl;all_goals (intro _; try (exfalso;omega)))|(apply OKx_eql;exact rfl;exact rfl;all_goals (intro _; try (exfalso;omega)))|(apply OKx_neq;exact rfl;exact rfl;all_goals (intro _; try (exfalso;omega)))|(apply OKx_sneq;exact rfl;exact rfl; all_goals intro _)|(apply OKx_fldO;exact rfl;exact rfl)|(apply OKx_pickT;exact rfl;(conv=>lhs;whnf)<;>exact rfl)|(apply OKx_pickF;exact rfl;(conv=>lhs;whnf)<;>exact rfl)|(apply OKx_guardT;exact rfl;exact rfl)|(apply OKx_guardF;exact rfl;exact rfl)|(apply OKx_guardU;exact rfl;exact rfl)|(apply OKx_notT;exact rfl)|(apply OKx_notF;exact rfl)|(apply OKx_boxA;exact rfl;intro _))
  all_goals first
    | ((refine bodyQ_r1 (by ((conv=>lhs;whnf)<;>exact rfl)) ?_)
       exact ⟨_, Ent.nil, rfl, rfl⟩)
    | (exfalso;omega)
    | (exfalso
       refine hnd (node_iff.2 ⟨by omega, by omega, by omega, by omega, fun h => by first | omega | (rw [hN] at h; cases h), fun h => by first | assumption | (rw [hT] at h; cases h), fun h => by first | omega | (rw [hT] at h; cases h), by omega, fun h => by omega⟩))
set_option maxRecDepth 100000 in
set_option maxHeartbeats 4000000 in
theorem rrOkFT_sat (x : Cnd) (hk1 : 1 ≤ x.kind) (hk2 : x.kind ≤ 13) (hN : numK x.kind = false) (hT : txtK x.kind = true) (hnd : nodeB x.kind x.num x.text x.parts.length = true) (ih : ∀ j, (hj : j < x.parts.length) → Rgt1 x.parts[j]) : Rgt1 x := by
  intro v w h
  obtain ⟨pv, g, rfl, hs, hP, hE⟩ := h.shape
  obtain ⟨hpb, pa, pc, rfl, _⟩ := id hP
  have hG : ∀ w1, SatV Tryz.prog 100 [.string x.text] w1 (.int .i64 (patE (byts x.text))) := fun w1 => rChkB_sat _ w1 hs
  have hNm := fun w1 => rnum_sat x.kind w1
  have hTx := fun w1 => rtxt_sat x.kind w1
  obtain ⟨_, _, d3, d4, d5, d6, d7, d8, d9⟩ := node_iff.1 hnd
  have hn : x.own = x.parts.all Cnd.own := by rw [own_eq, hnd, Bool.true_and]
  rw [hn]
  have hlc : (x.kind < 11 ∧ x.parts.length = 0) ∨ ((x.kind = 11 ∨ x.kind = 12) ∧ 2 ≤ x.parts.length) ∨ (x.kind = 13 ∧ x.parts.length = 1) := by
    rcases lst_cases hk1 hk2 with ⟨q1, q2, q3⟩ | ⟨q1, q2, q3⟩ | ⟨q1, q2, q3⟩ <;> omega
  clear d8 d9
  rw [hN] at hNm d5
  rw [hT] at hTx d6 d7
  try have d5 := d5 rfl
  try have d6 := d6 rfl
  try have d7 := d7 rfl
  have hk11 := txt_kind hT
  refine SatL.of 99 [2] Tryz.func94 (by kernel_rfl) (by kernel_rfl) rfl rfl rfl rfl ?_
  repeat' (first|(apply OK_seq)|(apply thenQ_n)|(apply OK_region)|(apply OKx_boxA;exact rfl; intro gx)|(apply OKx_gc 112;exact rfl; refine OKx_callV (f := 112) rfl rfl rfl (fun w1 hp => hTx w1) ?_)|(apply OKx_gc 100;exact rfl; refine OKx_callV (f := 100) rfl rfl rfl (fun w1 hp => hG w1) ?_)|(apply OKx_nilK)|(apply OK_block)|(apply OK_condF;exact rfl)|(apply OK_skip)|(apply OKx_move;(conv=>lhs;whnf)<;>exact rfl)|(apply OKx_assign;(conv=>lhs;whnf)<;>exact rfl)|(apply OKx_ldB;exact rfl; (apply atP;constructor);exact rfl)|(apply OKx_len;exact rfl)|(apply OKx_lss;exact rfl;exact rfl;all_goals (intro _; try (exfalso;omega)))|(apply OKx_gtr;exact rfl;exact rfl;all_goals (intro _; try (exfalso;omega)))|(apply OKx_eql;exact rfl;exact rfl;all_goals (intro _; try (exfalso;omega)))|(apply OKx_neq;exact rfl;exact rfl;all_goals (intro _; try (exfalso;omega)))|(apply OKx_sneq;exact rfl;exact rfl; all_goals intro _)|(apply OKx_fldO;exact rfl;exact rfl)|(apply OKx_pickT;exact rfl;(conv=>lhs;whnf)<;>exact rfl)|(apply OKx_pickF;exact rfl;(conv=>lhs;whnf)<;>exact rfl)|(apply OKx_guardT;exact rfl;exact rfl)|(apply OKx_guardF;exact rfl;exact rfl)|(apply OKx_notT;exact rfl))
  all_goals (try (exfalso;omega))
  all_goals (try exact absurd d6 (by assumption))
  all_goals
    refine OK_loop1 4 [2, 4, 87, 88, 89, 90, 91, 92, 93, 94, 95, 96, 97, 98] (fun m v L => ∃ j : Nat, j + m = x.parts.length ∧ v = .int .i64 (j : Int) ∧ (∀ i, i < j → (x.parts.getD i default).own = true) ∧ L = [.box 24 gx [.int .i64 x.kind, .int .i64 x.num, .string x.text, .slice pa x.parts.length pc]]) x.parts.length _ (Ent.refl _ _) ⟨0, by omega, rfl, fun i hi => absurd hi (by omega), rfl⟩ ?_
    rintro m v' L G ⟨j, hm, rfl, H, rfl⟩
    by_cases hj : j < x.parts.length
    · have hcall := fun w1 (hb1 : Below w.heap.size w w1) => ih j hj _ w1 ((hE j hj).below hb1)
      have hd : x.parts.getD j default = x.parts[j] := getD_lt _ _ _ hj
      repeat' (first|(apply OK_seq)|(apply OK_region)|(apply OKx_move;(conv=>lhs;whnf)<;>exact rfl)|(apply OKx_lss;exact rfl;exact rfl;all_goals (intro _; try (exfalso;omega))))
      all_goals (try (exfalso;omega))
      all_goals first
        | (refine ⟨by (repeat' (first | refine agree_upd rfl ?_ | exact agree_over | exact agree_refl _ _ | refine agree_over2 rfl ?_)), m - 1, _, by omega, Ent.refl _ _, ?_⟩
           refine ⟨j + 1, by omega, rfl, fun i hi => ?_, rfl⟩
           by_cases e : i = j
           · subst e; rw [hd]; exact hq
           · exact H i (by omega))
        | ((refine bodyQ_r1 (by ((conv=>lhs;whnf)<;>exact rfl)) ?_)
           refine ⟨_, Ent.nil, bool_eq ?_, rfl⟩
           rw [eq_comm, List.all_eq_false]
           exact ⟨x.parts[j], List.getElem_mem hj, by rw [hq]; decide⟩)
    · obtain rfl : j = x.parts.length := by omega
      repeat' (first|(apply OK_seq)|(apply thenQ_n)|(apply OK_region)|(apply OKx_nilK)|(apply blockQ_s)|(apply thenQ_e)|(apply OK_condF;exact rfl)|(apply OK_exit)|(apply OK_ret)|(apply OKx_move;(conv=>lhs;whnf)<;>exact rfl)|(apply OKx_assign;(conv=>lhs;whnf)<;>exact rfl)|(apply OKx_lss;exact rfl;exact rfl;all_goals (intro _; try (exfalso;omega))))
      all_goals (try (exfalso;omega))
      refine bodyQ_r1 (by ((conv=>lhs;whnf)<;>exact rfl)) ?_
      refine ⟨_, Ent.nil, bool_eq ?_, rfl⟩
      rw [eq_comm, List.all_eq_true]
      intro y hy
      obtain ⟨i, hi, rfl⟩ := List.getElem_of_mem hy
      have := H i hi
      rwa [getD_lt _ _ _ hi] at this
theorem num_txt {k : Int} (h : numK k = true) : txtK k = false := by
  unfold numK at h
  unfold txtK
  simp only [Bool.and_eq_true, decide_eq_true_eq] at h
  rw [decide_eq_false (by omega), Bool.false_and]
set_option maxRecDepth 100000 in
set_option maxHeartbeats 4000000 in
theorem rright_sat : ∀ (k : Nat) (x : Cnd), x.depth ≤ k → Rgt1 x
  | 0, x, hk => by have := depth_pos x;omega
  | k + 1, x, hk => by
    have ih : ∀ j, (hj : j < x.parts.length) → Rgt1 x.parts[j] := fun j hj => rright_sat k _ (by have := depth_in (List.getElem_mem hj);omega)
    by_cases hkk : 1 ≤ x.kind ∧ x.kind ≤ 13
    rotate_left
    · exact rrKind_sat x hkk
    obtain ⟨hk1, hk2⟩ := hkk
    by_cases hnd : nodeB x.kind x.num x.text x.parts.length = true
    · cases hN : numK x.kind
      · cases hT : txtK x.kind
        · exact rrOkFF_sat x hk1 hk2 hN hT hnd ih
        · exact rrOkFT_sat x hk1 hk2 hN hT hnd ih
      · exact rrOkTF_sat x hk1 hk2 hN (num_txt hN) hnd ih
    · cases hN : numK x.kind
      · cases hT : txtK x.kind
        · exact rrBadFF_sat x hk1 hk2 hN hT hnd
        · exact rrBadFT_sat x hk1 hk2 hN hT hnd
      · exact rrBadTF_sat x hk1 hk2 hN (num_txt hN) hnd
end Go.Proofs.YthnlnffmmioapaaGreatDoor
namespace Go.Proofs.YthnlnffmmioapaaGreatDoor
open Go.RowKit
set_option maxRecDepth 100000 in
set_option maxHeartbeats 4000000 in
theorem rexpr_sat (v : Value) (x : Cnd) (w : World) (h : Exp w x v) : SatV Tryz.prog 74 [v] w (.int .i64 (rgtE x)) := by
  have hS := fun w1 (hb1 : Below w.heap.size w w1) => size_sat 16 (by omega) x 65536 v w1 (h.below hb1) (by omega)
  have hO := fun w1 (hb1 : Below w.heap.size w w1) => rright_sat _ x (Nat.le_refl _) v w1 (h.below hb1)
  obtain ⟨pv, g, rfl, hs, hP, hE⟩ := h.shape
  have hm : sizB x 16 65536 = mesB x := rfl
  unfold rgtE
  cases hb : mesB x <;> rw [hm, hb] at hS
  · rw [if_pos rfl]
    refine SatL.of 15 [2] Tryz.func74 (by kernel_rfl) (by kernel_rfl) rfl rfl rfl rfl ?_
    repeat' (first|(apply OK_seq)|(apply thenQ_n)|(apply OK_region)|(apply OKx_gc 25;exact rfl; refine OKx_callV (f := 25) rfl rfl rfl (fun w1 hp => hS w1 hp.below) ?_)|(apply OKx_nilK)|(apply thenQ_r)|(apply OK_condT;exact rfl)|(apply OK_ret)|(apply OKx_move;(conv=>lhs;whnf)<;>exact rfl)|(apply OKx_assign;(conv=>lhs;whnf)<;>exact rfl)|(apply OKx_notF;exact rfl)|(apply OKx_extract;exact rfl;(conv=>lhs;whnf)<;>exact rfl)|(apply OKx_boxA;exact rfl;intro _)|(apply OKx_ldBA;exact rfl; (apply atP;constructor);exact rfl))
    refine bodyQ_r1 (by ((conv=>lhs;whnf)<;>exact rfl)) ?_
    exact ⟨_, Ent.nil, rfl, rfl⟩
  · rw [if_neg (by decide)]
    refine SatL.of 15 [2] Tryz.func74 (by kernel_rfl) (by kernel_rfl) rfl rfl rfl rfl ?_
    repeat' (first|(apply OK_seq)|(apply thenQ_n)|(apply OK_region)|(apply OKx_gc 25;exact rfl; refine OKx_callV (f := 25) rfl rfl rfl (fun w1 hp => hS w1 hp.below) ?_)|(apply OKx_gc 94;exact rfl; refine OKx_callB (f := 94) rfl rfl rfl (fun w1 hp => hO w1 hp.below) ?_ ?_ <;> intro hq)|(apply OKx_nilK)|(apply thenQ_r)|(apply OK_condT;exact rfl)|(apply OK_condF;exact rfl)|(apply OK_skip)|(apply OK_ret)|(apply OKx_move;(conv=>lhs;whnf)<;>exact rfl)|(apply OKx_assign;(conv=>lhs;whnf)<;>exact rfl)|(apply OKx_notT;exact rfl)|(apply OKx_notF;exact rfl)|(apply OKx_extract;exact rfl;(conv=>lhs;whnf)<;>exact rfl)|(apply OKx_boxA;exact rfl;intro _)|(apply OKx_ldBA;exact rfl; (apply atP;constructor);exact rfl))
    all_goals
      refine bodyQ_r1 (by ((conv=>lhs;whnf)<;>exact rfl)) ?_
      exact ⟨_, Ent.nil, by rw [hq]; rfl, rfl⟩
end Go.Proofs.YthnlnffmmioapaaGreatDoor
namespace Go.Proofs.YthnlnffmmioapaaGreatDoor
open Go.RowKit
def rHld1 (x : Cnd) : Prop := ∀ (xv bv rv : Value) (b : List ByteArray) (r : Rdn) (w : World), Exp w x xv → Strs w bv b → RdnV w r rv → wdsB b = true → rdgB r = true → SatV Tryz.prog 35 [xv, bv, rv] w (.bool (x.hd b r.words r.src.length))
theorem cnt_step27 (l : List Cnd) (f : Cnd → Bool) (j : Nat) (h : j < l.length) : (l.take (j + 1)).countP f = (l.take j).countP f + if f l[j] = true then 1 else 0 := by
  rw [List.take_succ_eq_append_getElem h, List.countP_append]
  cases e : f l[j] <;> simp [e]
set_option maxRecDepth 100000 in
set_option maxHeartbeats 4000000 in
theorem rholds_sat : ∀ (k : Nat) (x : Cnd), x.depth ≤ k → x.own = true → rHld1 x
  | 0, x, hk, _ => by have := depth_pos x;omega
  | k + 1, x, hk, ho => by
    intro xv bv rv b r w hE hB hR hb hr
    have hE0 := hE
    have hR0 := hR
    obtain ⟨pv, g, rfl, hs, hP, hEs⟩ := hE.shape
    obtain ⟨hpb, pa, pc, rfl, _⟩ := id hP
    have hon := ho
    rw [own_eq, Bool.and_eq_true, List.all_eq_true] at hon
    obtain ⟨hnd, hon⟩ := hon
    obtain ⟨nd1, nd2, _, _, _, _, _, nd7, nd8⟩ := node_iff.1 hnd
    have ih : ∀ j, (hj : j < x.parts.length) → rHld1 x.parts[j] := fun j hj => rholds_sat k _ (by have := depth_in (List.getElem_mem hj);omega) (hon _ (List.getElem_mem hj))
    rw [hd_eq]
    by_cases hlow : x.kind < 11
    · rw [if_neg (by omega), if_neg (by omega), if_neg (by omega)]
      have hcase : x.kind = 1 ∨ x.kind = 2 ∨ x.kind = 3 ∨ x.kind = 4 ∨ x.kind = 5 ∨ x.kind = 6 ∨ x.kind = 7 ∨ x.kind = 8 ∨ x.kind = 9 ∨ x.kind = 10 := by omega
      rcases hcase with h | h | h | h | h | h | h | h | h | h
      · have := rk1_sat x h _ bv rv b r w hE0 hB hR0 hb hr
        rwa [show leafH 1 = leafH x.kind by rw [h]] at this
      · have := rk2_sat x h _ bv rv b r w hE0 hB hR0 hb hr
        rwa [show leafH 2 = leafH x.kind by rw [h]] at this
      · have := rk3_sat x h _ bv rv b r w hE0 hB hR0 hb hr
        rwa [show leafH 3 = leafH x.kind by rw [h]] at this
      · have := rk4_sat x h _ bv rv b r w hE0 hB hR0 hb hr
        rwa [show leafH 4 = leafH x.kind by rw [h]] at this
      · have := rk5_sat x h _ bv rv b r w hE0 hB hR0 hb hr
        rwa [show leafH 5 = leafH x.kind by rw [h]] at this
      · have := rk6_sat x h _ bv rv b r w hE0 hB hR0 hb hr
        rwa [show leafH 6 = leafH x.kind by rw [h]] at this
      · have := rk7_sat x h _ bv rv b r w hE0 hB hR0 hb hr
        rwa [show leafH 7 = leafH x.kind by rw [h]] at this
      · have := rk8_sat x h _ bv rv b r w hE0 hB hR0 hb hr
        rwa [show leafH 8 = leafH x.kind by rw [h]] at this
      · have := rk9_sat x h _ bv rv b r w hE0 hB hR0 hb hr
        rwa [show leafH 9 = leafH x.kind by rw [h]] at this
      · have := rk10_sat x h _ bv rv b r w hE0 hB hR0 hb hr
        rwa [show leafH 10 = leafH x.kind by rw [h]] at this
    obtain ⟨ba, bc, rfl, hbl, _⟩ := hB.at
    obtain ⟨wv, sv, rfl, hWv, hSv⟩ := hR
    obtain ⟨wa, wc, rfl, hwl, _⟩ := hWv.at
    obtain ⟨sa, sc, rfl, hsl, _⟩ := hSv.at
    have hcall := fun j (hj : j < x.parts.length) w1 (h : Below w.heap.size w w1) => ih j hj _ _ _ b r w1 ((hEs j hj).below h) (hB.below h) (hR0.below h) hb hr
    by_cases h13 : x.kind = 13
    · rw [if_neg (by omega), if_neg (by omega), if_pos h13]
      have hpl : x.parts.length = 1 := by
        rw [h13] at nd7 nd8
        have e1 : lstK 13 = 1 := rfl
        have e2 : mstK 13 = 1 := rfl
        have := nd8 (by omega)
        omega
      have hhd : (x.parts.map (Cnd.hd b r.words r.src.length)).headD false = (x.parts[0]'(by omega)).hd b r.words r.src.length := by
        obtain ⟨y, hy⟩ := List.length_eq_one_iff.1 hpl
        simp [hy]
      rw [hhd, h13]
      have hc0 := hcall 0 (by omega)
      refine SatL.of 203 [6] Tryz.func35 (by kernel_rfl) (by kernel_rfl) rfl rfl rfl rfl ?_
      repeat' (first|(apply OK_seq)|(apply thenQ_n)|(apply OK_region)|(apply OKx_gi; refine OKx_idxR2 (i := 0) rfl hP rfl (by omega) ?_; intro pp hpp)|(apply OKx_gl; refine OKx_ldRA rfl hpp ?_)|(apply OKx_gc 35;exact rfl; refine OKx_callB (f := 35) rfl rfl rfl (fun w1 hp => hc0 w1 hp.below) ?_ ?_ <;> intro hqq)|(refine OK_rid 36 ?_; refine OK_quiet (id := 36) (by kernel_rfl) (by kernel_rfl) ?_)|(apply OKx_nilK)|(apply OK_block)|(apply thenQ_r)|(apply blockQ_r)|(apply OK_condT;exact rfl)|(apply OK_condF;exact rfl)|(apply OK_ret)|(apply OKx_move;(conv=>lhs;whnf)<;>exact rfl)|(apply OKx_assign;(conv=>lhs;whnf)<;>exact rfl)|(apply OKx_ldB;exact rfl; (apply atP;constructor);exact rfl)|(apply OKx_eql;exact rfl;exact rfl;all_goals (intro _; try (exfalso;omega)))|(apply OKx_fldO;exact rfl;exact rfl)|(apply OKx_notT;exact rfl)|(apply OKx_notF;exact rfl)|(apply OKx_boxA;exact rfl;intro _)|(apply OKx_ldBA;exact rfl; (apply atP;constructor);exact rfl))
      all_goals (try (exfalso;omega))
      all_goals
        refine bodyQ_r1 (by ((conv=>lhs;whnf)<;>exact rfl)) ?_
        exact ⟨_, Ent.nil, by rw [hqq]; rfl, rfl⟩
    have hk12 : x.kind = 11 ∨ x.kind = 12 := by omega
    have hfin : (if x.kind = 11 then x.parts.all (Cnd.hd b r.words r.src.length) else if x.kind = 12 then x.parts.any (Cnd.hd b r.words r.src.length) else if x.kind = 13 then !(x.parts.map (Cnd.hd b r.words r.src.length)).headD false else leafH x.kind x.num x.text b r.words r.src.length) = if x.kind = 11 then decide (x.parts.countP (Cnd.hd b r.words r.src.length) = x.parts.length) else decide (0 < x.parts.countP (Cnd.hd b r.words r.src.length)) := by
      rcases hk12 with h | h
      · rw [if_pos h, if_pos h, Bool.eq_iff_iff, List.all_eq_true, decide_eq_true_eq, List.countP_eq_length]
      · rw [if_neg (by omega), if_pos h, if_neg (by omega), Bool.eq_iff_iff, List.any_eq_true, decide_eq_true_eq, List.countP_pos_iff]
    rw [hfin]
    have hcl := List.countP_le_length (p := Cnd.hd b r.words r.src.length) (l := x.parts)
    rcases hk12 with h | h
    all_goals
      rw [h]
      refine SatL.of 203 [6] Tryz.func35 (by kernel_rfl) (by kernel_rfl) rfl rfl rfl rfl ?_
      repeat' (first|(apply OK_seq)|(apply thenQ_n)|(apply OK_region)|(refine OKx_boxA (e := 24) rfl ?_; intro gx)|(refine OKx_boxA (e := 33) rfl ?_; intro gr)|(apply OKx_nilK)|(apply OK_block)|(apply blockQ_n)|(apply OK_condF;exact rfl)|(apply OK_skip)|(apply OKx_assign;(conv=>lhs;whnf)<;>exact rfl)|(apply OKx_ldB;exact rfl; (apply atP;constructor);exact rfl)|(apply OKx_eql;exact rfl;exact rfl;all_goals (intro _; try (exfalso;omega)))|(apply OKx_fldO;exact rfl;exact rfl))
      all_goals (try (exfalso;omega))
      refine OK_loop2 11 12 [11, 12, 176, 177, 178, 179, 180, 181, 182, 183, 184, 185, 186, 187, 188, 189, 190, 191, 192] (fun m u v L => ∃ j : Nat, j + m = x.parts.length ∧ u = .int .i64 (((x.parts.take j).countP (Cnd.hd b r.words r.src.length) : Nat) : Int) ∧ v = .int .i64 (j : Int) ∧ L = [.box 33 gr [.slice wa r.words.length wc, .slice sa r.src.length sc], .box 24 gx [.int .i64 _, .int .i64 x.num, .string x.text, .slice pa x.parts.length pc]]) x.parts.length _ (Ent.refl _ _) ⟨0, by omega, rfl, rfl, rfl⟩ ?_
      rintro m u v' L G ⟨j, hm, rfl, rfl, rfl⟩
      by_cases hj : j < x.parts.length
      · have hst := cnt_step27 x.parts (Cnd.hd b r.words r.src.length) j hj
        have hcj := List.countP_le_length (p := Cnd.hd b r.words r.src.length) (l := x.parts.take j)
        rw [List.length_take] at hcj
        have hcc := hcall j hj
        cases hq : (x.parts[j]).hd b r.words r.src.length <;> rw [hq] at hcc hst
        · rw [if_neg (by decide)] at hst
          repeat' (first|(apply OK_seq)|(apply thenQ_n)|(apply OK_region)|(apply OKx_gi; refine OKx_idxR2 (i := j) rfl hP rfl hj ?_; intro pp hpp)|(apply OKx_gl; refine OKx_ldRA rfl hpp ?_)|(apply OKx_gc 35;exact rfl; refine OKx_callV (f := 35) rfl rfl rfl (fun w1 hp => hcc w1 hp.below) ?_)|(refine OK_rid 41 ?_; refine OK_quiet (id := 41) (by kernel_rfl) (by kernel_rfl) ?_)|(apply OKx_nilK)|(apply OK_block)|(apply blockQ_n)|(apply OK_condT;exact rfl)|(apply OK_condF;exact rfl)|(apply OK_skip)|(apply OKx_move;(conv=>lhs;whnf)<;>exact rfl)|(apply OKx_assign;(conv=>lhs;whnf)<;>exact rfl)|(apply OKx_ldB;exact rfl; (apply atP;constructor);exact rfl)|(apply OKx_len;exact rfl)|(apply OKx_lss;exact rfl;exact rfl;all_goals (intro _; try (exfalso;omega)))|(apply OKx_fldO;exact rfl;exact rfl)|(apply OKx_inc;exact rfl;exact rfl;omega)|(apply OKx_ldBA;exact rfl; (apply atP;constructor);exact rfl))
          all_goals (try (exfalso;omega))
          refine ⟨by (repeat' (first | refine agree_upd rfl ?_ | exact agree_over | exact agree_refl _ _ | refine agree_over2 rfl ?_)), m - 1, _, by omega, Ent.refl _ _, ?_⟩
          exact ⟨j + 1, by omega, int_eq (by omega), rfl, rfl⟩
        · rw [if_pos rfl] at hst
          repeat' (first|(apply OK_seq)|(apply thenQ_n)|(apply OK_region)|(apply OKx_gi; refine OKx_idxR2 (i := j) rfl hP rfl hj ?_; intro pp hpp)|(apply OKx_gl; refine OKx_ldRA rfl hpp ?_)|(apply OKx_gc 35;exact rfl; refine OKx_callV (f := 35) rfl rfl rfl (fun w1 hp => hcc w1 hp.below) ?_)|(refine OK_rid 41 ?_; refine OK_quiet (id := 41) (by kernel_rfl) (by kernel_rfl) ?_)|(apply OKx_nilK)|(apply OK_block)|(apply blockQ_n)|(apply OK_condT;exact rfl)|(apply OK_skip)|(apply OKx_move;(conv=>lhs;whnf)<;>exact rfl)|(apply OKx_assign;(conv=>lhs;whnf)<;>exact rfl)|(apply OKx_ldB;exact rfl; (apply atP;constructor);exact rfl)|(apply OKx_len;exact rfl)|(apply OKx_lss;exact rfl;exact rfl;all_goals (intro _; try (exfalso;omega)))|(apply OKx_fldO;exact rfl;exact rfl)|(apply OKx_inc;exact rfl;exact rfl;omega)|(apply OKx_ldBA;exact rfl; (apply atP;constructor);exact rfl))
          all_goals (try (exfalso;omega))
          refine ⟨by (repeat' (first | refine agree_upd rfl ?_ | exact agree_over | exact agree_refl _ _ | refine agree_over2 rfl ?_)), m - 1, _, by omega, Ent.refl _ _, ?_⟩
          exact ⟨j + 1, by omega, int_eq (by omega), rfl, rfl⟩
      · obtain rfl : j = x.parts.length := by omega
        rw [List.take_length]
        repeat' (first|(apply OK_seq)|(apply thenQ_n)|(apply OK_region)|(apply OKx_nilK)|(apply blockQ_s)|(apply thenQ_e)|(apply thenQ_r)|(apply OK_condT;exact rfl)|(apply OK_condF;exact rfl)|(apply OK_skip)|(apply OK_exit)|(apply OK_ret)|(apply OKx_move;(conv=>lhs;whnf)<;>exact rfl)|(apply OKx_assign;(conv=>lhs;whnf)<;>exact rfl)|(apply OKx_ldB;exact rfl; (apply atP;constructor);exact rfl)|(apply OKx_len;exact rfl)|(apply OKx_lss;exact rfl;exact rfl;all_goals (intro _; try (exfalso;omega)))|(apply OKx_gtr;exact rfl;exact rfl;all_goals (intro _; try (exfalso;omega)))|(apply OKx_eql;exact rfl;exact rfl;all_goals (intro _; try (exfalso;omega)))|(apply OKx_fldO;exact rfl;exact rfl))
        all_goals (try (exfalso;omega))
        all_goals
          refine bodyQ_r1 (by ((conv=>lhs;whnf)<;>exact rfl)) ?_
          refine ⟨_, Ent.nil, bool_eq ?_, rfl⟩
          first
            | (rw [if_pos rfl]
               first
                 | rw [decide_eq_true (by omega)]
                 | rw [decide_eq_false (by omega)])
            | (rw [if_neg (by decide)]
               first
                 | rw [decide_eq_true (by omega)]
                 | rw [decide_eq_false (by omega)])
end Go.Proofs.YthnlnffmmioapaaGreatDoor
