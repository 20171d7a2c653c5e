/-
  Part 35 of the proof: Qh27, Lh27. No statement of the seat is proved here.
-/
import Derived.Test.YthnlnffmmioapaaGreatDoorMHHo2734
namespace Go.Proofs.YthnlnffmmioapaaGreatDoor
open Go.RowKit
set_option maxRecDepth 100000 in
set_option maxHeartbeats 4000000 in
theorem rHolds_sat (xv bv rv : Value) (x : Cnd) (b : List ByteArray) (r : Rdn) (w : World) (hE : Exp w x xv) (hB : Strs w bv b) (hR : RdnV w r rv) : SatV Tryz.prog 10 [xv, bv, rv] w (.tuple #[.bool (hldB x b r), .int .i64 (hldE x b r)]) := by
  have hC := fun w1 (h : Below w.heap.size w w1) => valid_sat xv x w1 (hE.below h)
  have hW := fun w1 (h : Below w.heap.size w w1) => rwords_sat bv b w1 (hB.below h)
  have hRd := fun w1 (h : Below w.heap.size w w1) => rright27_sat rv r w1 (hR.below h)
  have hH := fun w1 (h : Below w.heap.size w w1) ho h1 h2 => rholds_sat _ x (Nat.le_refl _) ho xv bv rv b r w1 (hE.below h) (hB.below h) (hR.below h) h1 h2
  obtain ⟨pv, g, rfl, hs, _⟩ := hE.shape
  obtain ⟨ba, bc, rfl, hbl, _⟩ := hB.at
  obtain ⟨wv, sv, rfl, hWv, hSv⟩ := hR
  by_cases h0 : rgtE x = 0 ∧ wdsB b = true ∧ rdgB r = true
  · have hH2 := fun w1 h => hH w1 h (rgtE_zero h0.1).2 h0.2.1 h0.2.2
    unfold hldB hldE
    rw [if_pos h0, decide_eq_true rfl, Bool.true_and]
    rw [h0.1, decide_eq_true rfl] at hC
    rw [h0.2.1] at hW
    rw [h0.2.2] at hRd
    refine SatL.of 25 [6, 7] Tryz.func10 (by kernel_rfl) (by kernel_rfl) rfl rfl rfl rfl ?_
    repeat' (first|(apply OK_seq)|(apply thenQ_n)|(apply OK_region)|(apply OKx_gc 32;exact rfl; refine OKx_callV (f := 32) rfl rfl rfl (fun w1 hp => hC w1 hp.below) ?_)|(apply OKx_gc 33;exact rfl; refine OKx_callV (f := 33) rfl rfl rfl (fun w1 hp => hW w1 hp.below) ?_)|(apply OKx_gc 34;exact rfl; refine OKx_callV (f := 34) rfl rfl rfl (fun w1 hp => hRd w1 hp.below) ?_)|(apply OKx_gc 35;exact rfl; refine OKx_callV (f := 35) rfl rfl rfl (fun w1 hp => hH2 w1 hp.below) ?_)|(apply OKx_nilK)|(apply OK_block)|(apply blockQ_n)|(apply blockQ_s)|(apply thenQ_e)|(apply blockQ_e;exact rfl)|(apply thenQ_r)|(apply blockQ_r)|(apply OK_condT;exact rfl)|(apply OK_condF;exact rfl)|(apply OK_skip)|(apply OK_exit)|(apply OK_ret)|(apply OKx_move;(conv=>lhs;whnf)<;>exact rfl)|(apply OKx_assign;(conv=>lhs;whnf)<;>exact rfl)|(apply OKx_pickT;exact rfl;(conv=>lhs;whnf)<;>exact rfl)|(apply OKx_pickF;exact rfl;(conv=>lhs;whnf)<;>exact rfl)|(apply OKx_guardT;exact rfl;exact rfl)|(apply OKx_guardF;exact rfl;exact rfl)|(apply OKx_guardU;exact rfl;exact rfl)|(apply OKx_notT;exact rfl)|(apply OKx_notF;exact rfl)|(apply OKx_boxA;exact rfl;intro _)|(apply OKx_ldBA;exact rfl; (apply atP;constructor);exact rfl)|(apply OKx_ldRA;(conv=>lhs;whnf)<;>exact rfl;(with_reducible assumption)))
    refine bodyQ_r2 (by ((conv=>lhs;whnf)<;>exact rfl)) (by ((conv=>lhs;whnf)<;>exact rfl)) ?_
    exact ⟨_, Ent.nil, rfl, rfl⟩
  · unfold hldB hldE
    rw [if_neg h0, decide_eq_false (by decide), Bool.false_and]
    refine SatL.of 25 [6, 7] Tryz.func10 (by kernel_rfl) (by kernel_rfl) rfl rfl rfl rfl ?_
    repeat' (first|(apply OK_seq)|(apply thenQ_n)|(apply OK_region)|(apply OKx_gc 32;exact rfl; refine OKx_callB (f := 32) rfl rfl rfl (fun w1 hp => hC w1 hp.below) ?_ ?_ <;> intro q1)|(apply OKx_gc 33;exact rfl; refine OKx_callB (f := 33) rfl rfl rfl (fun w1 hp => hW w1 hp.below) ?_ ?_ <;> intro q2)|(apply OKx_gc 34;exact rfl; refine OKx_callB (f := 34) rfl rfl rfl (fun w1 hp => hRd w1 hp.below) ?_ ?_ <;> intro q3)|(apply OKx_nilK)|(apply OK_block)|(apply blockQ_n)|(apply blockQ_s)|(apply thenQ_e)|(apply blockQ_e;exact rfl)|(apply thenQ_r)|(apply blockQ_r)|(apply OK_condT;exact rfl)|(apply OK_condF;exact rfl)|(apply OK_skip)|(apply OK_exit)|(apply OK_ret)|(apply OKx_move;(conv=>lhs;whnf)<;>exact rfl)|(apply OKx_assign;(conv=>lhs;whnf)<;>exact rfl)|(apply OKx_pickT;exact rfl;(conv=>lhs;whnf)<;>exact rfl)|(apply OKx_pickF;exact rfl;(conv=>lhs;whnf)<;>exact rfl)|(apply OKx_guardT;exact rfl;exact rfl)|(apply OKx_guardF;exact rfl;exact rfl)|(apply OKx_guardU;exact rfl;exact rfl)|(apply OKx_notT;exact rfl)|(apply OKx_notF;exact rfl)|(apply OKx_boxA;exact rfl;intro _)|(apply OKx_ldBA;exact rfl; (apply atP;constructor);exact rfl)|(apply OKx_ldRA;(conv=>lhs;whnf)<;>exact rfl;(with_reducible assumption)))
    all_goals first
      | ((refine bodyQ_r2 (by ((conv=>lhs;whnf)<;>exact rfl)) (by ((conv=>lhs;whnf)<;>exact rfl)) ?_)
         exact ⟨_, Ent.nil, rfl, rfl⟩)
      | exact absurd ⟨of_decide_eq_true q1, q2, q3⟩ h0
set_option maxRecDepth 100000 in
set_option maxHeartbeats 4000000 in
theorem rImplies_sat (xv yv bv lv : Value) (x y : Cnd) (b : List ByteArray) (l : List Rdn) (w : World) (hX : Exp w x xv) (hY : Exp w y yv) (hB : Strs w bv b) (hL : Rdns w lv l) :
    SatV Tryz.prog 12 [xv, yv, bv, lv] w (.tuple #[.bool (impB x y b l), .int .i64 (impE x y b l)]) := by
  have hCx := fun w1 (h : Below w.heap.size w w1) => valid_sat xv x w1 (hX.below h)
  have hCy := fun w1 (h : Below w.heap.size w w1) => valid_sat yv y w1 (hY.below h)
  have hW := fun w1 (h : Below w.heap.size w w1) => rwords_sat bv b w1 (hB.below h)
  have hHx := fun (r : Rdn) (rv : Value) w1 (h : Below w.heap.size w w1) (hr : RdnV w r rv) ho h1 h2 => rholds_sat _ x (Nat.le_refl _) ho xv bv rv b r w1 (hX.below h) (hB.below h) (hr.below h) h1 h2
  have hHy := fun (r : Rdn) (rv : Value) w1 (h : Below w.heap.size w w1) (hr : RdnV w r rv) ho h1 h2 => rholds_sat _ y (Nat.le_refl _) ho yv bv rv b r w1 (hY.below h) (hB.below h) (hr.below h) h1 h2
  obtain ⟨xp, gx0, rfl, _⟩ := hX.shape
  obtain ⟨yp, gy0, rfl, _⟩ := hY.shape
  obtain ⟨ba, bc, rfl, hbl, _⟩ := hB.at
  obtain ⟨g, hS, hE⟩ := hL
  obtain ⟨hbd, la, lc, rfl, _⟩ := id hS
  by_cases h4 : 4096 < l.length
  · have e0 : impE x y b l = 4 := if_pos h4
    have e1 : impB x y b l = false := by unfold impB; rw [e0]; rfl
    rw [e0, e1]
    refine SatL.of 63 [8, 9] Tryz.func12 (by kernel_rfl) (by kernel_rfl) rfl rfl rfl rfl ?_
    repeat' (first|(apply OK_seq)|(apply thenQ_n)|(apply OK_region)|(refine OK_rid 13 ?_; refine OK_quiet (id := 13) (by kernel_rfl) (by kernel_rfl) ?_)|(apply OKx_nilK)|(apply OK_block)|(apply blockQ_n)|(apply blockQ_s)|(apply thenQ_e)|(apply blockQ_e;exact rfl)|(apply thenQ_r)|(apply blockQ_r)|(apply OK_condT;exact rfl)|(apply OK_condF;exact rfl)|(apply OK_skip)|(apply OK_exit)|(apply OK_ret)|(apply OKx_move;(conv=>lhs;whnf)<;>exact rfl)|(apply OKx_assign;(conv=>lhs;whnf)<;>exact rfl)|(apply OKx_len;exact rfl)|(apply OKx_lenR;(conv=>lhs;whnf)<;>exact rfl;(with_reducible assumption))|(apply OKx_lenR2;(conv=>lhs;whnf)<;>exact rfl;(with_reducible assumption))|(apply OKx_lenO;(conv=>lhs;whnf)<;>exact rfl; (apply atP;constructor))|(apply OKx_lss;exact rfl;exact rfl;all_goals (intro _; try (exfalso;omega)))|(apply OKx_gtr;exact rfl;exact rfl;all_goals (intro _; try (exfalso;omega)))|(apply OKx_idxR2;(conv=>lhs;whnf)<;>exact rfl;(with_reducible assumption);exact rfl;omega;intro _ _)|(apply OKx_inc;exact rfl;exact rfl;omega)|(apply OKx_addN;exact rfl;exact rfl;omega)|(apply OKx_add;exact rfl;exact rfl;omega;omega)|(apply OKx_pickT;exact rfl;(conv=>lhs;whnf)<;>exact rfl)|(apply OKx_pickF;exact rfl;(conv=>lhs;whnf)<;>exact rfl)|(apply OKx_guardT;exact rfl;exact rfl)|(apply OKx_guardF;exact rfl;exact rfl)|(apply OKx_guardU;exact rfl;exact rfl)|(apply OKx_notT;exact rfl)|(apply OKx_notF;exact rfl)|(apply OKx_boxA;exact rfl;intro _)|(apply OKx_ldBA;exact rfl; (apply atP;constructor);exact rfl)|(apply OKx_ldRA;(conv=>lhs;whnf)<;>exact rfl;(with_reducible assumption)))
    all_goals (try (exfalso;omega))
    refine bodyQ_r2 (by ((conv=>lhs;whnf)<;>exact rfl)) (by ((conv=>lhs;whnf)<;>exact rfl)) ?_
    exact ⟨_, Ent.nil, rfl, rfl⟩
  have hE1 : ¬(rgtE x = 0 ∧ rgtE y = 0 ∧ wdsB b = true ∧ l.all rdgB = true) → impE x y b l = 1 ∧ impB x y b l = false := fun h => by
    have e0 : impE x y b l = 1 := by unfold impE; rw [if_neg h4, if_neg h]
    exact ⟨e0, by unfold impB; rw [e0]; rfl⟩
  by_cases h0 : rgtE x = 0 ∧ rgtE y = 0 ∧ wdsB b = true
  rotate_left
  · obtain ⟨e0, e1⟩ := hE1 fun h => h0 ⟨h.1, h.2.1, h.2.2.1⟩
    rw [e0, e1]
    refine SatL.of 63 [8, 9] Tryz.func12 (by kernel_rfl) (by kernel_rfl) rfl rfl rfl rfl ?_
    repeat' (first|(apply OK_seq)|(apply thenQ_n)|(apply OK_region)|(apply OKx_gc 32;exact rfl; refine OKx_callB (f := 32) rfl rfl rfl (fun w1 hp => hCx w1 hp.below) ?_ ?_ <;> intro q1)|(apply OKx_gc 32;exact rfl; refine OKx_callB (f := 32) rfl rfl rfl (fun w1 hp => hCy w1 hp.below) ?_ ?_ <;> intro q2)|(apply OKx_gc 33;exact rfl; refine OKx_callB (f := 33) rfl rfl rfl (fun w1 hp => hW w1 hp.below) ?_ ?_ <;> intro q3)|(refine OK_rid 13 ?_; refine OK_quiet (id := 13) (by kernel_rfl) (by kernel_rfl) ?_)|(apply OKx_nilK)|(apply OK_block)|(apply blockQ_n)|(apply blockQ_s)|(apply thenQ_e)|(apply blockQ_e;exact rfl)|(apply thenQ_r)|(apply blockQ_r)|(apply OK_condT;exact rfl)|(apply OK_condF;exact rfl)|(apply OK_skip)|(apply OK_exit)|(apply OK_ret)|(apply OKx_move;(conv=>lhs;whnf)<;>exact rfl)|(apply OKx_assign;(conv=>lhs;whnf)<;>exact rfl)|(apply OKx_len;exact rfl)|(apply OKx_lenR;(conv=>lhs;whnf)<;>exact rfl;(with_reducible assumption))|(apply OKx_lenR2;(conv=>lhs;whnf)<;>exact rfl;(with_reducible assumption))|(apply OKx_lenO;(conv=>lhs;whnf)<;>exact rfl; (apply atP;constructor))|(apply OKx_lss;exact rfl;exact rfl;all_goals (intro _; try (exfalso;omega)))|(apply OKx_gtr;exact rfl;exact rfl;all_goals (intro _; try (exfalso;omega)))|(apply OKx_idxR2;(conv=>lhs;whnf)<;>exact rfl;(with_reducible assumption);exact rfl;omega;intro _ _)|(apply OKx_inc;exact rfl;exact rfl;omega)|(apply OKx_addN;exact rfl;exact rfl;omega)|(apply OKx_add;exact rfl;exact rfl;omega;omega)|(apply OKx_pickT;exact rfl;(conv=>lhs;whnf)<;>exact rfl)|(apply OKx_pickF;exact rfl;(conv=>lhs;whnf)<;>exact rfl)|(apply OKx_guardT;exact rfl;exact rfl)|(apply OKx_guardF;exact rfl;exact rfl)|(apply OKx_guardU;exact rfl;exact rfl)|(apply OKx_notT;exact rfl)|(apply OKx_notF;exact rfl)|(apply OKx_boxA;exact rfl;intro _)|(apply OKx_ldBA;exact rfl; (apply atP;constructor);exact rfl)|(apply OKx_ldRA;(conv=>lhs;whnf)<;>exact rfl;(with_reducible assumption)))
    all_goals (try (exfalso;omega))
    all_goals first
      | ((refine bodyQ_r2 (by ((conv=>lhs;whnf)<;>exact rfl)) (by ((conv=>lhs;whnf)<;>exact rfl)) ?_)
         exact ⟨_, Ent.nil, rfl, rfl⟩)
      | exact absurd ⟨of_decide_eq_true q1, of_decide_eq_true q2, q3⟩ h0
  obtain ⟨hx0, hy0, hb0⟩ := h0
  rw [hx0, decide_eq_true rfl] at hCx
  rw [hy0, decide_eq_true rfl] at hCy
  rw [hb0] at hW
  refine SatL.of 63 [8, 9] Tryz.func12 (by kernel_rfl) (by kernel_rfl) rfl rfl rfl rfl ?_
  repeat' (first|(apply OK_seq)|(apply thenQ_n)|(apply OK_region)|(apply OKx_gc 32;exact rfl; refine OKx_callV (f := 32) rfl rfl rfl (fun w1 hp => hCx w1 hp.below) ?_)|(apply OKx_gc 32;exact rfl; refine OKx_callV (f := 32) rfl rfl rfl (fun w1 hp => hCy w1 hp.below) ?_)|(apply OKx_gc 33;exact rfl; refine OKx_callV (f := 33) rfl rfl rfl (fun w1 hp => hW w1 hp.below) ?_)|(refine OK_rid 13 ?_; refine OK_quiet (id := 13) (by kernel_rfl) (by kernel_rfl) ?_)|(apply OKx_nilK)|(apply OK_block)|(apply blockQ_n)|(apply blockQ_s)|(apply thenQ_e)|(apply blockQ_e;exact rfl)|(apply thenQ_r)|(apply blockQ_r)|(apply OK_condT;exact rfl)|(apply OK_condF;exact rfl)|(apply OK_skip)|(apply OK_exit)|(apply OK_ret)|(apply OKx_move;(conv=>lhs;whnf)<;>exact rfl)|(apply OKx_assign;(conv=>lhs;whnf)<;>exact rfl)|(apply OKx_len;exact rfl)|(apply OKx_lenR;(conv=>lhs;whnf)<;>exact rfl;(with_reducible assumption))|(apply OKx_lenR2;(conv=>lhs;whnf)<;>exact rfl;(with_reducible assumption))|(apply OKx_lenO;(conv=>lhs;whnf)<;>exact rfl; (apply atP;constructor))|(apply OKx_lss;exact rfl;exact rfl;all_goals (intro _; try (exfalso;omega)))|(apply OKx_gtr;exact rfl;exact rfl;all_goals (intro _; try (exfalso;omega)))|(apply OKx_idxR2;(conv=>lhs;whnf)<;>exact rfl;(with_reducible assumption);exact rfl;omega;intro _ _)|(apply OKx_inc;exact rfl;exact rfl;omega)|(apply OKx_addN;exact rfl;exact rfl;omega)|(apply OKx_add;exact rfl;exact rfl;omega;omega)|(apply OKx_pickT;exact rfl;(conv=>lhs;whnf)<;>exact rfl)|(apply OKx_pickF;exact rfl;(conv=>lhs;whnf)<;>exact rfl)|(apply OKx_guardT;exact rfl;exact rfl)|(apply OKx_guardF;exact rfl;exact rfl)|(apply OKx_guardU;exact rfl;exact rfl)|(apply OKx_notT;exact rfl)|(apply OKx_notF;exact rfl)|(apply OKx_boxA;exact rfl;intro _)|(apply OKx_ldBA;exact rfl; (apply atP;constructor);exact rfl)|(apply OKx_ldRA;(conv=>lhs;whnf)<;>exact rfl;(with_reducible assumption)))
  all_goals (try (exfalso;omega))
  rename_i g4 g5 _
  refine OK_loop1 10 [8, 9, 10, 28, 29, 30, 31, 32, 33, 34, 35, 36, 37, 38, 39] (fun m v L => ∃ j : Nat, j + m = l.length ∧ v = .int .i64 (j : Int) ∧ (∀ i, i < j → rdgB (l.getD i default) = true) ∧ L = [.box 24 g5 [.int .i64 y.kind, .int .i64 y.num, .string y.text, yp], .box 24 g4 [.int .i64 x.kind, .int .i64 x.num, .string x.text, xp]]) l.length _ (Ent.refl _ _) ⟨0, by omega, rfl, fun i hi => absurd hi (by omega), rfl⟩ ?_
  rintro m v' L G ⟨j, hm, rfl, H, rfl⟩
  by_cases hj : j < l.length
  · have hd : l.getD j default = l[j] := getD_lt _ _ _ hj
    have hRd := fun w1 (h : Below w.heap.size w w1) => rright27_sat _ l[j] w1 ((hE j hj).below h)
    repeat' (first|(apply OK_seq)|(apply thenQ_n)|(apply OK_region)|(apply OKx_gi; refine OKx_idxR2 (i := j) rfl hS rfl hj ?_; intro pp hpp)|(apply OKx_gl; refine OKx_ldRA rfl hpp ?_)|(apply OKx_gc 34;exact rfl; refine OKx_callB (f := 34) rfl rfl rfl (fun w1 hp => hRd w1 hp.below) ?_ ?_ <;> intro hq)|(refine OK_rid 13 ?_; refine OK_quiet (id := 13) (by kernel_rfl) (by kernel_rfl) ?_)|(apply OKx_nilK)|(apply OK_block)|(apply blockQ_n)|(apply blockQ_s)|(apply thenQ_e)|(apply blockQ_e;exact rfl)|(apply thenQ_r)|(apply blockQ_r)|(apply OK_condT;exact rfl)|(apply OK_condF;exact rfl)|(apply OK_skip)|(apply OK_exit)|(apply OK_ret)|(apply OKx_move;(conv=>lhs;whnf)<;>exact rfl)|(apply OKx_assign;(conv=>lhs;whnf)<;>exact rfl)|(apply OKx_len;exact rfl)|(apply OKx_lenR;(conv=>lhs;whnf)<;>exact rfl;(with_reducible assumption))|(apply OKx_lenR2;(conv=>lhs;whnf)<;>exact rfl;(with_reducible assumption))|(apply OKx_lenO;(conv=>lhs;whnf)<;>exact rfl; (apply atP;constructor))|(apply OKx_lss;exact rfl;exact rfl;all_goals (intro _; try (exfalso;omega)))|(apply OKx_gtr;exact rfl;exact rfl;all_goals (intro _; try (exfalso;omega)))|(apply OKx_idxR2;(conv=>lhs;whnf)<;>exact rfl;(with_reducible assumption);exact rfl;omega;intro _ _)|(apply OKx_inc;exact rfl;exact rfl;omega)|(apply OKx_addN;exact rfl;exact rfl;omega)|(apply OKx_add;exact rfl;exact rfl;omega;omega)|(apply OKx_pickT;exact rfl;(conv=>lhs;whnf)<;>exact rfl)|(apply OKx_pickF;exact rfl;(conv=>lhs;whnf)<;>exact rfl)|(apply OKx_guardT;exact rfl;exact rfl)|(apply OKx_guardF;exact rfl;exact rfl)|(apply OKx_guardU;exact rfl;exact rfl)|(apply OKx_notT;exact rfl)|(apply OKx_notF;exact rfl)|(apply OKx_boxA;exact rfl;intro _)|(apply OKx_ldBA;exact rfl; (apply atP;constructor);exact rfl)|(apply OKx_ldRA;(conv=>lhs;whnf)<;>exact rfl;(with_reducible assumption)))
    all_goals (try (exfalso;omega))
    all_goals first
      | (refine ⟨by (repeat' (first | refine agree_upd rfl ?_ | exact agree_over | exact agree_refl _ _ | refine agree_over2 rfl ?_)), m - 1, _, by omega, Ent.refl _ _, ?_⟩
         refine ⟨j + 1, by omega, rfl, fun i hi => ?_, rfl⟩
         by_cases e : i = j
         · subst e; rw [hd]; exact hq
         · exact H i (by omega))
      | ((refine bodyQ_r2 (by ((conv=>lhs;whnf)<;>exact rfl)) (by ((conv=>lhs;whnf)<;>exact rfl)) ?_)
         obtain ⟨e0, e1⟩ := hE1 fun h => by
           have := List.all_eq_true.1 h.2.2.2 _ (List.getElem_mem hj)
           rw [hq] at this
           cases this
         rw [e0, e1]
         exact ⟨_, Ent.nil, rfl, rfl⟩)
  obtain rfl : j = l.length := by omega
  have hall : l.all rdgB = true := by
    rw [List.all_eq_true]
    intro r hr
    obtain ⟨i, hi, rfl⟩ := List.getElem_of_mem hr
    have := H i hi
    rwa [getD_lt _ _ _ hi] at this
  have e0 : impE x y b l = 0 := by unfold impE; rw [if_neg h4, if_pos ⟨hx0, hy0, hb0, hall⟩]
  have e1 : impB x y b l = l.all fun r => !(x.hd b r.words r.src.length && !y.hd b r.words r.src.length) := by unfold impB; rw [decide_eq_true e0, Bool.true_and]
  rw [e0, e1]
  repeat' (first|(apply OK_seq)|(apply thenQ_n)|(apply OK_region)|(refine OK_rid 13 ?_; refine OK_quiet (id := 13) (by kernel_rfl) (by kernel_rfl) ?_)|(apply OKx_nilK)|(apply OK_block)|(apply blockQ_n)|(apply blockQ_s)|(apply thenQ_e)|(apply blockQ_e;exact rfl)|(apply thenQ_r)|(apply blockQ_r)|(apply OK_condT;exact rfl)|(apply OK_condF;exact rfl)|(apply OK_skip)|(apply OK_exit)|(apply OK_ret)|(apply OKx_move;(conv=>lhs;whnf)<;>exact rfl)|(apply OKx_assign;(conv=>lhs;whnf)<;>exact rfl)|(apply OKx_len;exact rfl)|(apply OKx_lenR;(conv=>lhs;whnf)<;>exact rfl;(with_reducible assumption))|(apply OKx_lenR2;(conv=>lhs;whnf)<;>exact rfl;(with_reducible assumption))|(apply OKx_lenO;(conv=>lhs;whnf)<;>exact rfl; (apply atP;constructor))|(apply OKx_lss;exact rfl;exact rfl;all_goals (intro _; try (exfalso;omega)))|(apply OKx_gtr;exact rfl;exact rfl;all_goals (intro _; try (exfalso;omega)))|(apply OKx_idxR2;(conv=>lhs;whnf)<;>exact rfl;(with_reducible assumption);exact rfl;omega;intro _ _)|(apply OKx_inc;exact rfl;exact rfl;omega)|(apply OKx_addN;exact rfl;exact rfl;omega)|(apply OKx_add;exact rfl;exact rfl;omega;omega)|(apply OKx_pickT;exact rfl;(conv=>lhs;whnf)<;>exact rfl)|(apply OKx_pickF;exact rfl;(conv=>lhs;whnf)<;>exact rfl)|(apply OKx_guardT;exact rfl;exact rfl)|(apply OKx_guardF;exact rfl;exact rfl)|(apply OKx_guardU;exact rfl;exact rfl)|(apply OKx_notT;exact rfl)|(apply OKx_notF;exact rfl)|(apply OKx_boxA;exact rfl;intro _)|(apply OKx_ldBA;exact rfl; (apply atP;constructor);exact rfl)|(apply OKx_ldRA;(conv=>lhs;whnf)<;>exact rfl;(with_reducible assumption)))
  all_goals (try (exfalso;omega))
  refine OK_loop1 11 [8, 9, 11, 40, 41, 42, 43, 44, 45, 46, 47, 48, 49, 50, 51, 52, 53, 54, 55, 56, 57, 58, 59, 60, 61, 62] (fun m v L => ∃ j : Nat, j + m = l.length ∧ v = .int .i64 (j : Int) ∧ (∀ i, i < j → (!(x.hd b (l.getD i default).words (l.getD i default).src.length && !y.hd b (l.getD i default).words (l.getD i default).src.length)) = true) ∧ L = [.box 24 g5 [.int .i64 y.kind, .int .i64 y.num, .string y.text, yp], .box 24 g4 [.int .i64 x.kind, .int .i64 x.num, .string x.text, xp]]) l.length _ (Ent.refl _ _) ⟨0, by omega, rfl, fun i hi => absurd hi (by omega), rfl⟩ ?_
  rintro m v' L G ⟨j, hm, rfl, H2, rfl⟩
  by_cases hj : j < l.length
  · have hd : l.getD j default = l[j] := getD_lt _ _ _ hj
    have hrj := List.all_eq_true.1 hall _ (List.getElem_mem hj)
    have hh1 := fun w1 h => hHx l[j] _ w1 h (hE j hj) (rgtE_zero hx0).2 hb0 hrj
    have hh2 := fun w1 h => hHy l[j] _ w1 h (hE j hj) (rgtE_zero hy0).2 hb0 hrj
    cases q1 : x.hd b l[j].words l[j].src.length <;> cases q2 : y.hd b l[j].words l[j].src.length
    all_goals
      rw [q1] at hh1
      rw [q2] at hh2
      repeat' (first|(apply OK_seq)|(apply thenQ_n)|(apply OK_region)|(apply OKx_gi; refine OKx_idxR2 (i := j) rfl hS rfl hj ?_; intro pp hpp)|(apply OKx_gl; refine OKx_ldRA rfl hpp ?_)|(apply OKx_gc 35;exact rfl; refine OKx_callV (f := 35) rfl rfl rfl (fun w1 hp => hh1 w1 hp.below) ?_)|(apply OKx_gc 35;exact rfl; refine OKx_callV (f := 35) rfl rfl rfl (fun w1 hp => hh2 w1 hp.below) ?_)|(refine OK_rid 13 ?_; refine OK_quiet (id := 13) (by kernel_rfl) (by kernel_rfl) ?_)|(apply OKx_nilK)|(apply OK_block)|(apply blockQ_n)|(apply blockQ_s)|(apply thenQ_e)|(apply blockQ_e;exact rfl)|(apply thenQ_r)|(apply blockQ_r)|(apply OK_condT;exact rfl)|(apply OK_condF;exact rfl)|(apply OK_skip)|(apply OK_exit)|(apply OK_ret)|(apply OKx_move;(conv=>lhs;whnf)<;>exact rfl)|(apply OKx_assign;(conv=>lhs;whnf)<;>exact rfl)|(apply OKx_len;exact rfl)|(apply OKx_lenR;(conv=>lhs;whnf)<;>exact rfl;(with_reducible assumption))|(apply OKx_lenR2;(conv=>lhs;whnf)<;>exact rfl;(with_reducible assumption))|(apply OKx_lenO;(conv=>lhs;whnf)<;>exact rfl; (apply atP;constructor))|(apply OKx_lss;exact rfl;exact rfl;all_goals (intro _; try (exfalso;omega)))|(apply OKx_gtr;exact rfl;exact rfl;all_goals (intro _; try (exfalso;omega)))|(apply OKx_idxR2;(conv=>lhs;whnf)<;>exact rfl;(with_reducible assumption);exact rfl;omega;intro _ _)|(apply OKx_inc;exact rfl;exact rfl;omega)|(apply OKx_addN;exact rfl;exact rfl;omega)|(apply OKx_add;exact rfl;exact rfl;omega;omega)|(apply OKx_pickT;exact rfl;(conv=>lhs;whnf)<;>exact rfl)|(apply OKx_pickF;exact rfl;(conv=>lhs;whnf)<;>exact rfl)|(apply OKx_guardT;exact rfl;exact rfl)|(apply OKx_guardF;exact rfl;exact rfl)|(apply OKx_guardU;exact rfl;exact rfl)|(apply OKx_notT;exact rfl)|(apply OKx_notF;exact rfl)|(apply OKx_boxA;exact rfl;intro _)|(apply OKx_ldBA;exact rfl; (apply atP;constructor);exact rfl)|(apply OKx_ldRA;(conv=>lhs;whnf)<;>exact rfl;(with_reducible assumption)))
      all_goals (try (exfalso;omega))
      all_goals first
        | (refine ⟨by (repeat' (first | refine agree_upd rfl ?_ | exact agree_over | exact agree_refl _ _ | refine agree_over2 rfl ?_)), m - 1, _, by omega, Ent.refl _ _, ?_⟩
           refine ⟨j + 1, by omega, rfl, fun i hi => ?_, rfl⟩
           by_cases e : i = j
           · subst e; rw [hd, q1, q2]; rfl
           · exact H2 i (by omega))
        | ((refine bodyQ_r2 (by ((conv=>lhs;whnf)<;>exact rfl)) (by ((conv=>lhs;whnf)<;>exact rfl)) ?_)
           refine ⟨_, Ent.nil, ?_, rfl⟩
           rw [show (l.all fun r => !(x.hd b r.words r.src.length && !y.hd b r.words r.src.length)) = false from List.all_eq_false.2 ⟨l[j], List.getElem_mem hj, by rw [q1, q2]; decide⟩])
  · obtain rfl : j = l.length := by omega
    repeat' (first|(apply OK_seq)|(apply thenQ_n)|(apply OK_region)|(refine OK_rid 13 ?_; refine OK_quiet (id := 13) (by kernel_rfl) (by kernel_rfl) ?_)|(apply OKx_nilK)|(apply OK_block)|(apply blockQ_n)|(apply blockQ_s)|(apply thenQ_e)|(apply blockQ_e;exact rfl)|(apply thenQ_r)|(apply blockQ_r)|(apply OK_condT;exact rfl)|(apply OK_condF;exact rfl)|(apply OK_skip)|(apply OK_exit)|(apply OK_ret)|(apply OKx_move;(conv=>lhs;whnf)<;>exact rfl)|(apply OKx_assign;(conv=>lhs;whnf)<;>exact rfl)|(apply OKx_len;exact rfl)|(apply OKx_lenR;(conv=>lhs;whnf)<;>exact rfl;(with_reducible assumption))|(apply OKx_lenR2;(conv=>lhs;whnf)<;>exact rfl;(with_reducible assumption))|(apply OKx_lenO;(conv=>lhs;whnf)<;>exact rfl; (apply atP;constructor))|(apply OKx_lss;exact rfl;exact rfl;all_goals (intro _; try (exfalso;omega)))|(apply OKx_gtr;exact rfl;exact rfl;all_goals (intro _; try (exfalso;omega)))|(apply OKx_idxR2;(conv=>lhs;whnf)<;>exact rfl;(with_reducible assumption);exact rfl;omega;intro _ _)|(apply OKx_inc;exact rfl;exact rfl;omega)|(apply OKx_addN;exact rfl;exact rfl;omega)|(apply OKx_add;exact rfl;exact rfl;omega;omega)|(apply OKx_pickT;exact rfl;(conv=>lhs;whnf)<;>exact rfl)|(apply OKx_pickF;exact rfl;(conv=>lhs;whnf)<;>exact rfl)|(apply OKx_guardT;exact rfl;exact rfl)|(apply OKx_guardF;exact rfl;exact rfl)|(apply OKx_guardU;exact rfl;exact rfl)|(apply OKx_notT;exact rfl)|(apply OKx_notF;exact rfl)|(apply OKx_boxA;exact rfl;intro _)|(apply OKx_ldBA;exact rfl; (apply atP;constructor);exact rfl)|(apply OKx_ldRA;(conv=>lhs;whnf)<;>exact rfl;(with_reducible assumption)))
    all_goals (try (exfalso;omega))
    refine bodyQ_r2 (by ((conv=>lhs;whnf)<;>exact rfl)) (by ((conv=>lhs;whnf)<;>exact rfl)) ?_
    refine ⟨_, Ent.nil, ?_, rfl⟩
    rw [show (l.all fun r => !(x.hd b r.words r.src.length && !y.hd b r.words r.src.length)) = true from List.all_eq_true.2 fun r hr => by
      obtain ⟨i, hi, rfl⟩ := List.getElem_of_mem hr
      have := H2 i hi
      rwa [getD_lt _ _ _ hi] at this]
end Go.Proofs.YthnlnffmmioapaaGreatDoor
namespace Go.Proofs.YthnlnffmmioapaaGreatDoor
open Go.RowKit
theorem OKx_bneqF {P : Program} {n : Nat} {w0 : World} {K : Fm → List Res → Prop} {F : Fm} {L : List Res} {m : Md} {ops : Array Oper} {rest : List Oper} {d : Option Nat} {ty : TypeId} {pos : String} {aft : Array Edge} {t ut : TypeId} {x y : Operand} {a : Bool}
    (ht : P.underlying t = some .bool) (hx : rv n F x = .bool a) (hy : rv n F y = .bool a) (kk : OKx P n w0 m ops K rest (updo F d (.bool false)) L) : OKx P n w0 m ops K (⟨d, .binOp .neq t x y ut, ty, pos, aft, none⟩ :: rest) F L :=
  OKx_bneq ht hx hy (by rw [show (!(a == a)) = false by cases a <;> rfl]; exact kk)
set_option maxRecDepth 100000 in
set_option maxHeartbeats 4000000 in
theorem ClassifyHolds_sat (xv yv bv lv : Value) (x y : Cnd) (b : List ByteArray) (l : List Rdn) (w : World) (hX : Exp w x xv) (hY : Exp w y yv) (hB : Strs w bv b) (hLc : Rdns w lv l ∧ ∀ a k c, lv = .slice a k c → k ≤ c) (hkd : KdL w) (hkf : KfL w) (ht : TbL w) :
    SatV Tryz.prog 3 [xv, yv, bv, lv] w (.bool true) := by
  obtain ⟨hL, hcp⟩ := hLc
  have hA := fun w1 (h : Below w.heap.size w w1) => awake27_sat w1 (hkd.below h) (hkf.below h) (ht.below h)
  have hGx := fun w1 (h : Below w.heap.size w w1) => great26_sat xv x w1 (hX.below h)
  have hGy := fun w1 (h : Below w.heap.size w w1) => great26_sat yv y w1 (hY.below h)
  have hGb := fun w1 (h : Below w.heap.size w w1) => greatW_sat bv b w1 (hB.below h)
  have hGl := fun w1 (h : Below w.heap.size w w1) => great27_sat lv l w1 (hL.below h)
  have hI := fun w1 (h : Below w.heap.size w w1) => Implies_sat xv yv bv lv x y b l w1 (hX.below h) (hY.below h) (hB.below h) (hL.below h) (hkd.below h) (hkf.below h)
  have hJ := fun w1 (h : Below w.heap.size w w1) => rImplies_sat xv yv bv lv x y b l w1 (hX.below h) (hY.below h) (hB.below h) (hL.below h)
  have hH := fun (r : Rdn) (rv : Value) w1 (h : Below w.heap.size w w1) (hr : RdnV w r rv) => Holds_sat xv bv rv x b r w1 (hX.below h) (hB.below h) (hr.below h) (hkd.below h) (hkf.below h)
  have hK := fun (r : Rdn) (rv : Value) w1 (h : Below w.heap.size w w1) (hr : RdnV w r rv) => rHolds_sat xv bv rv x b r w1 (hX.below h) (hB.below h) (hr.below h)
  obtain ⟨xp, gx0, rfl, _, hPx, _⟩ := hX.shape
  obtain ⟨_, xa, xc, rfl, _⟩ := id hPx
  obtain ⟨yp, gy0, rfl, _, hPy, _⟩ := hY.shape
  obtain ⟨_, ya, yc, rfl, _⟩ := id hPy
  obtain ⟨ba, bc, rfl, hbl, _⟩ := hB.at
  obtain ⟨g, hS, hE⟩ := hL
  obtain ⟨hbd, la, lc, rfl, hcell⟩ := id hS
  have hlc := hcp _ _ _ rfl
  by_cases h0 : grtX x = false ∧ grtX y = false ∧ grtW b = false ∧ grtR l = false
  rotate_left
  · clear hI hJ hH hK
    refine SatL.of 94 [8] Tryz.func3 (by kernel_rfl) (by kernel_rfl) rfl rfl rfl rfl ?_
    repeat' (first|(apply OK_seq)|(apply thenQ_n)|(apply OK_region)|(apply OKx_gc 5;exact rfl; refine OKx_callB (f := 5) rfl rfl rfl (fun w1 hp => hGx w1 hp.below) ?_ ?_ <;> intro q1)|(apply OKx_gc 5;exact rfl; refine OKx_callB (f := 5) rfl rfl rfl (fun w1 hp => hGy w1 hp.below) ?_ ?_ <;> intro q2)|(apply OKx_gc 6;exact rfl; refine OKx_callB (f := 6) rfl rfl rfl (fun w1 hp => hGb w1 hp.below) ?_ ?_ <;> intro q3)|(apply OKx_gc 7;exact rfl; refine OKx_callB (f := 7) rfl rfl rfl (fun w1 hp => hGl w1 hp.below) ?_ ?_ <;> intro q4)|(apply OKx_gc 8;exact rfl; refine OKx_callV (f := 8) rfl rfl rfl (fun w1 hp => hA w1 hp.below) ?_)|(apply OKx_nilK)|(apply OK_block)|(apply blockQ_n)|(apply blockQ_s)|(apply thenQ_e)|(apply blockQ_e;exact rfl)|(apply thenQ_r)|(apply blockQ_r)|(apply OK_condT;exact rfl)|(apply OK_condF;exact rfl)|(apply OK_skip)|(apply OK_exit)|(apply OK_ret)|(apply OKx_move;(conv=>lhs;whnf)<;>exact rfl)|(apply OKx_assign;(conv=>lhs;whnf)<;>exact rfl)|(apply OKx_len;exact rfl)|(apply OKx_lenR;(conv=>lhs;whnf)<;>exact rfl;(with_reducible assumption))|(apply OKx_lenR2;(conv=>lhs;whnf)<;>exact rfl;(with_reducible assumption))|(apply OKx_lenO;(conv=>lhs;whnf)<;>exact rfl; (apply atP;constructor))|(apply OKx_lss;exact rfl;exact rfl;all_goals (intro _; try (exfalso;omega)))|(apply OKx_eql;exact rfl;exact rfl;all_goals (intro _; try (exfalso;omega)))|(apply OKx_neq;exact rfl;exact rfl;all_goals (intro _; try (exfalso;omega)))|(apply OKx_idxR2;(conv=>lhs;whnf)<;>exact rfl;(with_reducible assumption);exact rfl;omega;intro _ _)|(apply OKx_inc;exact rfl;exact rfl;omega)|(apply OKx_addN;exact rfl;exact rfl;omega)|(apply OKx_add;exact rfl;exact rfl;omega;omega)|(apply OKx_min;exact rfl;exact rfl)|(apply OKx_pickT;exact rfl;(conv=>lhs;whnf)<;>exact rfl)|(apply OKx_pickF;exact rfl;(conv=>lhs;whnf)<;>exact rfl)|(apply OKx_guardT;exact rfl;exact rfl)|(apply OKx_guardF;exact rfl;exact rfl)|(apply OKx_guardU;exact rfl;exact rfl)|(apply OKx_extract;exact rfl;(conv=>lhs;whnf)<;>exact rfl)|(apply OKx_boxA;exact rfl;intro _)|(apply OKx_allocA;intro _)|(apply OKx_ldBA;exact rfl; (apply atP;constructor);exact rfl)|(apply OKx_ldRA;(conv=>lhs;whnf)<;>exact rfl;(with_reducible assumption))|(apply OKx_stBA; kernel_rfl;exact rfl;exact rfl;exact rfl; (apply atP;constructor);exact rfl;exact rfl;exact rfl))
    all_goals first
      | ((refine bodyQ_r1 (by ((conv=>lhs;whnf)<;>exact rfl)) ?_)
         exact ⟨_, Ent.nil, rfl, rfl⟩)
      | exact absurd ⟨q1, q2, q3, q4⟩ h0
  obtain ⟨g1, g2, g3, g4⟩ := h0
  rw [g1] at hGx
  rw [g2] at hGy
  rw [g3] at hGb
  rw [g4] at hGl
  obtain ⟨n, hn⟩ : ∃ n, n = min l.length 7 := ⟨_, rfl⟩
  have hmin : min (l.length : Int) 7 = (n : Int) := by omega
  have hnl : n ≤ l.length := by omega
  have hS2 : Sl2 w (.slice la n lc) 2 n g := by
    refine ⟨by omega, la, lc, rfl, ?_⟩
    rcases hcell with h0 | ⟨b0, o0, e0, hc⟩
    · exact .inl (by omega)
    · exact .inr ⟨b0, o0, e0, fun i hi c hc2 => hc i (by omega) c hc2⟩
  refine SatL.of 94 [8] Tryz.func3 (by kernel_rfl) (by kernel_rfl) rfl rfl rfl rfl ?_
  repeat' (first|(apply OK_seq)|(apply thenQ_n)|(apply OK_region)|(apply OKx_gc 5;exact rfl; refine OKx_callV (f := 5) rfl rfl rfl (fun w1 hp => hGx w1 hp.below) ?_)|(apply OKx_gc 5;exact rfl; refine OKx_callV (f := 5) rfl rfl rfl (fun w1 hp => hGy w1 hp.below) ?_)|(apply OKx_gc 6;exact rfl; refine OKx_callV (f := 6) rfl rfl rfl (fun w1 hp => hGb w1 hp.below) ?_)|(apply OKx_gc 7;exact rfl; refine OKx_callV (f := 7) rfl rfl rfl (fun w1 hp => hGl w1 hp.below) ?_)|(apply OKx_gb; refine OKx_min rfl rfl ?_; rw [hmin])|(refine OKx_slHq (h := n) rfl rfl (by omega) ?_)|(apply OKx_nilK)|(apply OK_block)|(apply blockQ_n)|(apply blockQ_s)|(apply thenQ_e)|(apply blockQ_e;exact rfl)|(apply thenQ_r)|(apply blockQ_r)|(apply OK_condT;exact rfl)|(apply OK_condF;exact rfl)|(apply OK_skip)|(apply OK_exit)|(apply OK_ret)|(apply OKx_move;(conv=>lhs;whnf)<;>exact rfl)|(apply OKx_assign;(conv=>lhs;whnf)<;>exact rfl)|(apply OKx_len;exact rfl)|(apply OKx_lenR;(conv=>lhs;whnf)<;>exact rfl;(with_reducible assumption))|(apply OKx_lenR2;(conv=>lhs;whnf)<;>exact rfl;(with_reducible assumption))|(apply OKx_lenO;(conv=>lhs;whnf)<;>exact rfl; (apply atP;constructor))|(apply OKx_lss;exact rfl;exact rfl;all_goals (intro _; try (exfalso;omega)))|(apply OKx_eql;exact rfl;exact rfl;all_goals (intro _; try (exfalso;omega)))|(apply OKx_neq;exact rfl;exact rfl;all_goals (intro _; try (exfalso;omega)))|(apply OKx_idxR2;(conv=>lhs;whnf)<;>exact rfl;(with_reducible assumption);exact rfl;omega;intro _ _)|(apply OKx_inc;exact rfl;exact rfl;omega)|(apply OKx_addN;exact rfl;exact rfl;omega)|(apply OKx_add;exact rfl;exact rfl;omega;omega)|(apply OKx_min;exact rfl;exact rfl)|(apply OKx_pickT;exact rfl;(conv=>lhs;whnf)<;>exact rfl)|(apply OKx_pickF;exact rfl;(conv=>lhs;whnf)<;>exact rfl)|(apply OKx_guardT;exact rfl;exact rfl)|(apply OKx_guardF;exact rfl;exact rfl)|(apply OKx_guardU;exact rfl;exact rfl)|(apply OKx_extract;exact rfl;(conv=>lhs;whnf)<;>exact rfl)|(apply OKx_boxA;exact rfl;intro _)|(apply OKx_allocA;intro _)|(apply OKx_ldBA;exact rfl; (apply atP;constructor);exact rfl)|(apply OKx_ldRA;(conv=>lhs;whnf)<;>exact rfl;(with_reducible assumption))|(apply OKx_stBA; kernel_rfl;exact rfl;exact rfl;exact rfl; (apply atP;constructor);exact rfl;exact rfl;exact rfl))
  rename_i gx gy
  refine OK_loop1 40 [8, 10, 11, 12, 13, 14, 40, 41, 42, 43, 44, 45, 46, 47, 48, 49, 50, 51, 52, 53, 54, 55, 56, 57, 58, 59, 60, 61, 62, 63, 64, 65, 66] (fun m v L => ∃ j : Nat, j + m = n ∧ v = .int .i64 (j : Int) ∧ L = [.box 24 gy [.int .i64 y.kind, .int .i64 y.num, .string y.text, .slice ya y.parts.length yc], .box 24 gx [.int .i64 x.kind, .int .i64 x.num, .string x.text, .slice xa x.parts.length xc]]) n _ (Ent.refl _ _) ⟨0, by omega, rfl, rfl⟩ ?_
  rintro m v' L G ⟨j, hm, rfl, rfl⟩
  by_cases hj : j < n
  · have hjl : j < l.length := by omega
    have hr := hE j hjl
    have hr0 := hr
    obtain ⟨wv, sv, hag, hWv, hSv⟩ := hr0
    obtain ⟨wa, wc, rfl, hwl, _⟩ := hWv.at
    obtain ⟨sa, sc, rfl, hsl, _⟩ := hSv.at
    have heq : ((List.range 2).map (g j)).toArray = #[.slice wa l[j].words.length wc, .slice sa l[j].src.length sc] := Value.agg.inj hag
    rw [hag] at hr
    have hh := fun w1 h => hH l[j] _ w1 h hr
    have hk := fun w1 h => hK l[j] _ w1 h hr
    clear hH hK hI hJ
    generalize hldE x b l[j] = e at hh hk
    generalize hldB x b l[j] = v at hh hk
    all_goals
      repeat' (first|(apply OK_seq)|(apply thenQ_n)|(apply OK_region)|(apply OKx_gi; refine OKx_idxR2 (i := j) rfl hS2 rfl hj ?_; intro pp hpp)|(apply OKx_gl; refine OKx_ldRA rfl hpp ?_; rw [heq])|(apply OKx_gc 9;exact rfl; refine OKx_callV (f := 9) rfl rfl rfl (fun w1 hp => hh w1 hp.below) ?_)|(apply OKx_gc 10;exact rfl; refine OKx_callV (f := 10) rfl rfl rfl (fun w1 hp => hk w1 hp.below) ?_)|(refine OKx_bneqF Tryz.underlying4 rfl rfl ?_)|(apply OKx_nilK)|(apply OK_block)|(apply blockQ_n)|(apply blockQ_s)|(apply thenQ_e)|(apply blockQ_e;exact rfl)|(apply thenQ_r)|(apply blockQ_r)|(apply OK_condT;exact rfl)|(apply OK_condF;exact rfl)|(apply OK_skip)|(apply OK_exit)|(apply OK_ret)|(apply OKx_move;(conv=>lhs;whnf)<;>exact rfl)|(apply OKx_assign;(conv=>lhs;whnf)<;>exact rfl)|(apply OKx_len;exact rfl)|(apply OKx_lenR;(conv=>lhs;whnf)<;>exact rfl;(with_reducible assumption))|(apply OKx_lenR2;(conv=>lhs;whnf)<;>exact rfl;(with_reducible assumption))|(apply OKx_lenO;(conv=>lhs;whnf)<;>exact rfl; (apply atP;constructor))|(apply OKx_lss;exact rfl;exact rfl;all_goals (intro _; try (exfalso;omega)))|(apply OKx_eql;exact rfl;exact rfl;all_goals (intro _; try (exfalso;omega)))|(apply OKx_neq;exact rfl;exact rfl;all_goals (intro _; try (exfalso;omega)))|(apply OKx_idxR2;(conv=>lhs;whnf)<;>exact rfl;(with_reducible assumption);exact rfl;omega;intro _ _)|(apply OKx_inc;exact rfl;exact rfl;omega)|(apply OKx_addN;exact rfl;exact rfl;omega)|(apply OKx_add;exact rfl;exact rfl;omega;omega)|(apply OKx_min;exact rfl;exact rfl)|(apply OKx_pickT;exact rfl;(conv=>lhs;whnf)<;>exact rfl)|(apply OKx_pickF;exact rfl;(conv=>lhs;whnf)<;>exact rfl)|(apply OKx_guardT;exact rfl;exact rfl)|(apply OKx_guardF;exact rfl;exact rfl)|(apply OKx_guardU;exact rfl;exact rfl)|(apply OKx_extract;exact rfl;(conv=>lhs;whnf)<;>exact rfl)|(apply OKx_boxA;exact rfl;intro _)|(apply OKx_allocA;intro _)|(apply OKx_ldBA;exact rfl; (apply atP;constructor);exact rfl)|(apply OKx_ldRA;(conv=>lhs;whnf)<;>exact rfl;(with_reducible assumption))|(apply OKx_stBA; kernel_rfl;exact rfl;exact rfl;exact rfl; (apply atP;constructor);exact rfl;exact rfl;exact rfl))
      all_goals (try (exfalso;omega))
      all_goals first
        | exact absurd rfl (by assumption)
        | (refine ⟨by (repeat' (first | refine agree_upd rfl ?_ | exact agree_over | exact agree_refl _ _ | refine agree_over2 rfl ?_)), m - 1, _, by omega, Ent.pick [1, 2] rfl, ?_⟩
           exact ⟨j + 1, by omega, rfl, rfl⟩)
  · obtain rfl : j = n := by omega
    clear hH hK
    generalize impE x y b l = e at hI hJ
    generalize impB x y b l = v at hI hJ
    repeat' (first|(apply OK_seq)|(apply thenQ_n)|(apply OK_region)|(apply OKx_gc 11;exact rfl; refine OKx_callV (f := 11) rfl rfl rfl (fun w1 hp => hI w1 hp.below) ?_)|(apply OKx_gc 12;exact rfl; refine OKx_callV (f := 12) rfl rfl rfl (fun w1 hp => hJ w1 hp.below) ?_)|(apply OKx_gn; refine OKx_beqT Tryz.underlying4 rfl rfl ?_)|(apply OKx_gn; refine OKx_ieqT rfl rfl ?_)|(apply OKx_gc 8;exact rfl; refine OKx_callV (f := 8) rfl rfl rfl (fun w1 hp => hA w1 hp.below) ?_)|(apply OKx_nilK)|(apply OK_block)|(apply blockQ_n)|(apply blockQ_s)|(apply thenQ_e)|(apply blockQ_e;exact rfl)|(apply thenQ_r)|(apply blockQ_r)|(apply OK_condT;exact rfl)|(apply OK_condF;exact rfl)|(apply OK_skip)|(apply OK_exit)|(apply OK_ret)|(apply OKx_move;(conv=>lhs;whnf)<;>exact rfl)|(apply OKx_assign;(conv=>lhs;whnf)<;>exact rfl)|(apply OKx_len;exact rfl)|(apply OKx_lenR;(conv=>lhs;whnf)<;>exact rfl;(with_reducible assumption))|(apply OKx_lenR2;(conv=>lhs;whnf)<;>exact rfl;(with_reducible assumption))|(apply OKx_lenO;(conv=>lhs;whnf)<;>exact rfl; (apply atP;constructor))|(apply OKx_lss;exact rfl;exact rfl;all_goals (intro _; try (exfalso;omega)))|(apply OKx_eql;exact rfl;exact rfl;all_goals (intro _; try (exfalso;omega)))|(apply OKx_neq;exact rfl;exact rfl;all_goals (intro _; try (exfalso;omega)))|(apply OKx_idxR2;(conv=>lhs;whnf)<;>exact rfl;(with_reducible assumption);exact rfl;omega;intro _ _)|(apply OKx_inc;exact rfl;exact rfl;omega)|(apply OKx_addN;exact rfl;exact rfl;omega)|(apply OKx_add;exact rfl;exact rfl;omega;omega)|(apply OKx_min;exact rfl;exact rfl)|(apply OKx_pickT;exact rfl;(conv=>lhs;whnf)<;>exact rfl)|(apply OKx_pickF;exact rfl;(conv=>lhs;whnf)<;>exact rfl)|(apply OKx_guardT;exact rfl;exact rfl)|(apply OKx_guardF;exact rfl;exact rfl)|(apply OKx_guardU;exact rfl;exact rfl)|(apply OKx_extract;exact rfl;(conv=>lhs;whnf)<;>exact rfl)|(apply OKx_boxA;exact rfl;intro _)|(apply OKx_allocA;intro _)|(apply OKx_ldBA;exact rfl; (apply atP;constructor);exact rfl)|(apply OKx_ldRA;(conv=>lhs;whnf)<;>exact rfl;(with_reducible assumption))|(apply OKx_stBA; kernel_rfl;exact rfl;exact rfl;exact rfl; (apply atP;constructor);exact rfl;exact rfl;exact rfl))
    all_goals (try (exfalso;omega))
    refine bodyQ_r1 (by ((conv=>lhs;whnf)<;>exact rfl)) ?_
    exact ⟨_, Ent.nil, rfl, rfl⟩
end Go.Proofs.YthnlnffmmioapaaGreatDoor
