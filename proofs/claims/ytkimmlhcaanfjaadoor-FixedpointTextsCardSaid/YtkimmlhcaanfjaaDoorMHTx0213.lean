/-
  Part 13 of the proof: Rqa02. No statement of the seat is proved here.
-/
import Derived.Test.YtkimmlhcaanfjaaDoorMHTx0212
namespace Go.Proofs.YtkimmlhcaanfjaaDoor
open Go.RowKit
set_option maxRecDepth 100000 in
set_option maxHeartbeats 4000000 in
theorem rP_AT_sat (s T0 R D : List UInt8) (w : World) (hl : ¬ 65536 < s.length) (h3 : ¬ s.length < 3) (hsf : s.drop (s.length - 2) = [112, 116]) (hT' : s.take (s.length - 2) = T0) (hRd : T0.drop 1 = R) (hng : (T0.getD 0 0).toNat = 45) (hD : dgs R = D)
    (hb : (D.length = 0 ∨ (1 < D.length ∧ (R.getD 0 0).toNat = 48))) : SatV Tryd.prog 12 [.string (bOf s)] w (.tuple #[.int .i64 (refC R true).1, .int .i64 (refC R true).2]) := by
  have hz : (bOf s).size = s.length := bOf_size s
  have hTl : T0.length = s.length - 2 := by rw [← hT', List.length_take];omega
  have zT : (bOf T0).size = T0.length := bOf_size T0
  have hsq : bOf (s.drop (s.length - 2)) = ⟨#[112, 116]⟩ := by rw [hsf]; rfl
  have hRl0 : R.length = T0.length - 1 := by rw [← hRd, List.length_drop]
  refine SatL.of 132 [2, 3] Tryd.func12 (by kernel_rfl) (by kernel_rfl) rfl rfl rfl rfl ?_
  repeat' (first|(apply OK_seq)|(apply thenQ_n)|(apply OK_region)|(apply OKx_gn; refine OKx_subN (a := s.length) (b := 2) rfl rfl (by omega) (by omega) ?_)|(refine OKx_sslL (l := s.length - 2) rfl rfl (by omega) hsf ?_)|(refine OKx_sslH (h := s.length - 2) rfl rfl (by omega) hT' ?_)|(refine OKx_idxB (s := T0) (i := 0) rfl rfl (by omega) ?_)|(apply OKx_gn; apply OKx_sneq;exact rfl;exact rfl; all_goals (intro hs; first | (exfalso; exact hs rfl) | skip))|(refine OKx_sslL (s := T0) (l := 1) rfl rfl (by omega) hRd ?_)|(apply OKx_nilK)|(apply OK_block)|(apply blockQ_n)|(apply blockQ_s)|(apply thenQ_e)|(apply blockQ_e;exact rfl)|(apply thenQ_r)|(apply blockQ_r)|(apply OK_condT;exact rfl)|(apply OK_condF;exact rfl)|(apply OK_skip)|(apply OK_exit)|(apply OK_ret)|(apply OKx_move;(conv=>lhs;whnf)<;>exact rfl)|(apply OKx_assign;(conv=>lhs;whnf)<;>exact rfl)|(apply OKx_lenS;exact rfl)|(apply OKx_lss;exact rfl;exact rfl;all_goals (intro _; try (exfalso;omega)))|(apply OKx_gtr;exact rfl;exact rfl;all_goals (intro _; try (exfalso;omega)))|(apply OKx_eql;exact rfl;exact rfl;all_goals (intro _; try (exfalso;omega)))|(apply OKx_neq;exact rfl;exact rfl;all_goals (intro _; try (exfalso;omega)))|(apply OKx_sneq;exact rfl;exact rfl; all_goals intro _)|(apply OKx_idxS;exact rfl;exact rfl;omega)|(apply OKx_inc;exact rfl;exact rfl;omega)|(apply OKx_addN;exact rfl;exact rfl;omega)|(apply OKx_add;exact rfl;exact rfl;omega;omega)|(apply OKx_dec;exact rfl;exact rfl;omega;omega)|(apply OKx_subN;exact rfl;exact rfl;omega;omega)|(apply OKx_sub;exact rfl;exact rfl;omega;omega)|(apply OKx_min;exact rfl;exact rfl)|(apply OKx_pickT;exact rfl;(conv=>lhs;whnf)<;>exact rfl)|(apply OKx_pickF;exact rfl;(conv=>lhs;whnf)<;>exact rfl)|(apply OKx_guardT;exact rfl;exact rfl)|(apply OKx_guardF;exact rfl;exact rfl)|(apply OKx_guardU;exact rfl;exact rfl)|(apply OKx_notT;exact rfl)|(apply OKx_notF;exact rfl))
  have zR : (bOf R).size = R.length := bOf_size R
  have hRl : R.length ≤ 65536 := by omega
  have hDd : ∀ b ∈ D, isDg b = true := by rw [← hD]; exact all_takeWhile R
  have hDl : D.length ≤ R.length := by
    rw [← hD]
    by_cases h : (dgs R).length = 0
    · omega
    · have := (dgs_at R ((dgs R).length - 1) (by omega)).1;omega
  have hDg : ∀ i, i < D.length → D.getD i 0 = R.getD i 0 := fun i hi => by rw [← hD] at hi ⊢; exact (dgs_at R i hi).2.2
  have hDi : ∀ i, i < D.length → isDg (R.getD i 0) = true := fun i hi => by rw [← hD] at hi; exact (dgs_at R i hi).2.1
  have hDe : D.length < R.length → isDg (R.getD D.length 0) = false := fun h => by rw [← hD] at h ⊢; exact dgs_end R h
  have hDt : ∀ i, i < D.length → min (valD (D.take (i + 1))) 2147483648 = min (min (valD (D.take i)) 2147483648 * 10 + dgv (R.getD i 0)) 2147483648 := fun i hi => by
    have h9 := valD_nonneg (D.take i) fun b hb => hDd b (List.mem_of_mem_take hb)
    have h8 := dgv_rng (hDi i hi)
    rw [take_snoc D i hi, valD_snoc, hDg i hi]
    omega
  have hDr : ∀ i, 0 ≤ valD (D.take i) := fun i => valD_nonneg _ fun b hb => hDd b (List.mem_of_mem_take hb)
  refine OK_loop2 6 7 [6, 7, 37, 38, 39, 40, 41, 42, 43, 44, 45, 46, 47, 48, 49, 50, 51, 52, 53, 54, 55, 56, 57] (fun m u v L => ∃ (k : Nat) (W0 : Int), k + m = D.length ∧ W0 = min (valD (D.take k)) 2147483648 ∧ u = .int .i64 W0 ∧ v = .int .i64 (k : Int) ∧ L = []) D.length _ (Ent.refl _ _) ⟨0, 0, by omega, rfl, rfl, rfl, rfl⟩ ?_
  rintro m u v L G ⟨k, W0, hm, hW, rfl, rfl, rfl⟩
  have hW0 := hDr k
  by_cases hk : k < D.length
  · have hd := hDi k hk
    have hdr := isDg_rng hd
    have hdv : IntKind.u8.wrap (((R.getD k 0).toNat : Int) - 48) = dgv (R.getD k 0) := by unfold dgv; rw [IntKind.wrap_u8];omega
    have hdv2 := dgv_rng hd
    have hst := hDt k hk
    rw [← hW] at hst
    repeat' (first|(apply OK_seq)|(apply thenQ_n)|(apply OK_region)|(refine OKx_idxB (i := k) rfl rfl (by omega) ?_)|(apply OKx_gc 34;exact rfl; refine OKx_callV (f := 34) (v := .bool true) rfl rfl rfl (fun w1 hp => by have := rdig_sat (R.getD k 0) w1; rwa [hd] at this) ?_)|(apply OKx_gn; refine OKx_mul rfl rfl (by omega) (by omega) ?_)|(refine OKx_subK rfl rfl hdv ?_)|(apply OKx_gv; refine OKx_conv rfl rfl Tryd.underlying3 (by omega) (by omega) ?_)|(apply OKx_gn; refine OKx_add (b := dgv (R.getD k 0)) rfl rfl (by omega) (by omega) ?_)|(apply OKx_gb; refine OKx_min rfl rfl ?_; rw [← hst])|(apply OKx_nilK)|(apply OK_block)|(apply blockQ_n)|(apply blockQ_s)|(apply thenQ_e)|(apply blockQ_e;exact rfl)|(apply thenQ_r)|(apply blockQ_r)|(apply OK_condT;exact rfl)|(apply OK_condF;exact rfl)|(apply OK_skip)|(apply OK_exit)|(apply OK_ret)|(apply OKx_move;(conv=>lhs;whnf)<;>exact rfl)|(apply OKx_assign;(conv=>lhs;whnf)<;>exact rfl)|(apply OKx_lenS;exact rfl)|(apply OKx_lss;exact rfl;exact rfl;all_goals (intro _; try (exfalso;omega)))|(apply OKx_gtr;exact rfl;exact rfl;all_goals (intro _; try (exfalso;omega)))|(apply OKx_eql;exact rfl;exact rfl;all_goals (intro _; try (exfalso;omega)))|(apply OKx_neq;exact rfl;exact rfl;all_goals (intro _; try (exfalso;omega)))|(apply OKx_sneq;exact rfl;exact rfl; all_goals intro _)|(apply OKx_idxS;exact rfl;exact rfl;omega)|(apply OKx_inc;exact rfl;exact rfl;omega)|(apply OKx_addN;exact rfl;exact rfl;omega)|(apply OKx_add;exact rfl;exact rfl;omega;omega)|(apply OKx_dec;exact rfl;exact rfl;omega;omega)|(apply OKx_subN;exact rfl;exact rfl;omega;omega)|(apply OKx_sub;exact rfl;exact rfl;omega;omega)|(apply OKx_min;exact rfl;exact rfl)|(apply OKx_pickT;exact rfl;(conv=>lhs;whnf)<;>exact rfl)|(apply OKx_pickF;exact rfl;(conv=>lhs;whnf)<;>exact rfl)|(apply OKx_guardT;exact rfl;exact rfl)|(apply OKx_guardF;exact rfl;exact rfl)|(apply OKx_guardU;exact rfl;exact rfl)|(apply OKx_notT;exact rfl)|(apply OKx_notF;exact rfl))
    refine ⟨by (repeat' (first | refine agree_upd rfl ?_ | exact agree_over | exact agree_refl _ _ | refine agree_over2 rfl ?_)), m - 1, _, by omega, Ent.refl _ _, ?_⟩
    exact ⟨k + 1, _, by omega, rfl, rfl, rfl, rfl⟩
  obtain rfl : k = D.length := by omega
  rw [List.take_length] at hW hW0
  have hWr : 0 ≤ W0 ∧ W0 ≤ 2147483648 := by omega
  have hbc : ((dgs R).length = 0 ∨ (1 < (dgs R).length ∧ R.getD 0 0 = 48)) ↔ (D.length = 0 ∨ (1 < D.length ∧ (R.getD 0 0).toNat = 48)) := by rw [hD, u48]
  have arm1 : D.length < R.length → isDg (R.getD D.length 0) = false := hDe
  have e2 : refC R true = (0, 3) := by unfold refC; rw [if_pos (hbc.2 hb)]
  rw [e2]
  by_cases hlt : D.length < R.length
  · have hd := hDe hlt
    repeat' (first|(apply OK_seq)|(apply thenQ_n)|(apply OK_region)|(refine OKx_idxB (i := D.length) rfl rfl (by omega) ?_)|(refine OKx_idxB (i := 0) rfl rfl (by omega) ?_)|(apply OKx_gc 34;exact rfl; refine OKx_callV (f := 34) (v := .bool false) rfl rfl rfl (fun w1 hp => by have := rdig_sat (R.getD D.length 0) w1; rwa [hd] at this) ?_)|(apply OKx_nilK)|(apply OK_block)|(apply blockQ_n)|(apply blockQ_s)|(apply thenQ_e)|(apply blockQ_e;exact rfl)|(apply thenQ_r)|(apply blockQ_r)|(apply OK_condT;exact rfl)|(apply OK_condF;exact rfl)|(apply OK_skip)|(apply OK_exit)|(apply OK_ret)|(apply OKx_move;(conv=>lhs;whnf)<;>exact rfl)|(apply OKx_assign;(conv=>lhs;whnf)<;>exact rfl)|(apply OKx_lenS;exact rfl)|(apply OKx_lss;exact rfl;exact rfl;all_goals (intro _; try (exfalso;omega)))|(apply OKx_gtr;exact rfl;exact rfl;all_goals (intro _; try (exfalso;omega)))|(apply OKx_eql;exact rfl;exact rfl;all_goals (intro _; try (exfalso;omega)))|(apply OKx_neq;exact rfl;exact rfl;all_goals (intro _; try (exfalso;omega)))|(apply OKx_sneq;exact rfl;exact rfl; all_goals intro _)|(apply OKx_idxS;exact rfl;exact rfl;omega)|(apply OKx_inc;exact rfl;exact rfl;omega)|(apply OKx_addN;exact rfl;exact rfl;omega)|(apply OKx_add;exact rfl;exact rfl;omega;omega)|(apply OKx_dec;exact rfl;exact rfl;omega;omega)|(apply OKx_subN;exact rfl;exact rfl;omega;omega)|(apply OKx_sub;exact rfl;exact rfl;omega;omega)|(apply OKx_min;exact rfl;exact rfl)|(apply OKx_pickT;exact rfl;(conv=>lhs;whnf)<;>exact rfl)|(apply OKx_pickF;exact rfl;(conv=>lhs;whnf)<;>exact rfl)|(apply OKx_guardT;exact rfl;exact rfl)|(apply OKx_guardF;exact rfl;exact rfl)|(apply OKx_guardU;exact rfl;exact rfl)|(apply OKx_notT;exact rfl)|(apply OKx_notF;exact rfl))
    all_goals
      refine bodyQ_r2 (by ((conv=>lhs;whnf)<;>exact rfl)) (by ((conv=>lhs;whnf)<;>exact rfl)) ?_
      exact ⟨_, Ent.nil, rfl, rfl⟩
  · repeat' (first|(apply OK_seq)|(apply thenQ_n)|(apply OK_region)|(refine OKx_idxB (i := 0) rfl rfl (by omega) ?_)|(apply OKx_nilK)|(apply OK_block)|(apply blockQ_n)|(apply blockQ_s)|(apply thenQ_e)|(apply blockQ_e;exact rfl)|(apply thenQ_r)|(apply blockQ_r)|(apply OK_condT;exact rfl)|(apply OK_condF;exact rfl)|(apply OK_skip)|(apply OK_exit)|(apply OK_ret)|(apply OKx_move;(conv=>lhs;whnf)<;>exact rfl)|(apply OKx_assign;(conv=>lhs;whnf)<;>exact rfl)|(apply OKx_lenS;exact rfl)|(apply OKx_lss;exact rfl;exact rfl;all_goals (intro _; try (exfalso;omega)))|(apply OKx_gtr;exact rfl;exact rfl;all_goals (intro _; try (exfalso;omega)))|(apply OKx_eql;exact rfl;exact rfl;all_goals (intro _; try (exfalso;omega)))|(apply OKx_neq;exact rfl;exact rfl;all_goals (intro _; try (exfalso;omega)))|(apply OKx_sneq;exact rfl;exact rfl; all_goals intro _)|(apply OKx_idxS;exact rfl;exact rfl;omega)|(apply OKx_inc;exact rfl;exact rfl;omega)|(apply OKx_addN;exact rfl;exact rfl;omega)|(apply OKx_add;exact rfl;exact rfl;omega;omega)|(apply OKx_dec;exact rfl;exact rfl;omega;omega)|(apply OKx_subN;exact rfl;exact rfl;omega;omega)|(apply OKx_sub;exact rfl;exact rfl;omega;omega)|(apply OKx_min;exact rfl;exact rfl)|(apply OKx_pickT;exact rfl;(conv=>lhs;whnf)<;>exact rfl)|(apply OKx_pickF;exact rfl;(conv=>lhs;whnf)<;>exact rfl)|(apply OKx_guardT;exact rfl;exact rfl)|(apply OKx_guardF;exact rfl;exact rfl)|(apply OKx_guardU;exact rfl;exact rfl)|(apply OKx_notT;exact rfl)|(apply OKx_notF;exact rfl))
    all_goals
      refine bodyQ_r2 (by ((conv=>lhs;whnf)<;>exact rfl)) (by ((conv=>lhs;whnf)<;>exact rfl)) ?_
      exact ⟨_, Ent.nil, rfl, rfl⟩
set_option maxRecDepth 100000 in
set_option maxHeartbeats 4000000 in
theorem rP_BT_sat (s T0 R D : List UInt8) (w : World) (hl : ¬ 65536 < s.length) (h3 : ¬ s.length < 3) (hsf : s.drop (s.length - 2) = [112, 116]) (hT' : s.take (s.length - 2) = T0) (hRd : T0.drop 1 = R) (hng : (T0.getD 0 0).toNat = 45) (hD : dgs R = D)
    (hb : ¬ (D.length = 0 ∨ (1 < D.length ∧ (R.getD 0 0).toNat = 48))) (hlt : ¬ D.length < R.length) : SatV Tryd.prog 12 [.string (bOf s)] w (.tuple #[.int .i64 (refC R true).1, .int .i64 (refC R true).2]) := by
  have hz : (bOf s).size = s.length := bOf_size s
  have hTl : T0.length = s.length - 2 := by rw [← hT', List.length_take];omega
  have zT : (bOf T0).size = T0.length := bOf_size T0
  have hsq : bOf (s.drop (s.length - 2)) = ⟨#[112, 116]⟩ := by rw [hsf]; rfl
  have hRl0 : R.length = T0.length - 1 := by rw [← hRd, List.length_drop]
  refine SatL.of 132 [2, 3] Tryd.func12 (by kernel_rfl) (by kernel_rfl) rfl rfl rfl rfl ?_
  repeat' (first|(apply OK_seq)|(apply thenQ_n)|(apply OK_region)|(apply OKx_gn; refine OKx_subN (a := s.length) (b := 2) rfl rfl (by omega) (by omega) ?_)|(refine OKx_sslL (l := s.length - 2) rfl rfl (by omega) hsf ?_)|(refine OKx_sslH (h := s.length - 2) rfl rfl (by omega) hT' ?_)|(refine OKx_idxB (s := T0) (i := 0) rfl rfl (by omega) ?_)|(apply OKx_gn; apply OKx_sneq;exact rfl;exact rfl; all_goals (intro hs; first | (exfalso; exact hs rfl) | skip))|(refine OKx_sslL (s := T0) (l := 1) rfl rfl (by omega) hRd ?_)|(apply OKx_nilK)|(apply OK_block)|(apply blockQ_n)|(apply blockQ_s)|(apply thenQ_e)|(apply blockQ_e;exact rfl)|(apply thenQ_r)|(apply blockQ_r)|(apply OK_condT;exact rfl)|(apply OK_condF;exact rfl)|(apply OK_skip)|(apply OK_exit)|(apply OK_ret)|(apply OKx_move;(conv=>lhs;whnf)<;>exact rfl)|(apply OKx_assign;(conv=>lhs;whnf)<;>exact rfl)|(apply OKx_lenS;exact rfl)|(apply OKx_lss;exact rfl;exact rfl;all_goals (intro _; try (exfalso;omega)))|(apply OKx_gtr;exact rfl;exact rfl;all_goals (intro _; try (exfalso;omega)))|(apply OKx_eql;exact rfl;exact rfl;all_goals (intro _; try (exfalso;omega)))|(apply OKx_neq;exact rfl;exact rfl;all_goals (intro _; try (exfalso;omega)))|(apply OKx_sneq;exact rfl;exact rfl; all_goals intro _)|(apply OKx_idxS;exact rfl;exact rfl;omega)|(apply OKx_inc;exact rfl;exact rfl;omega)|(apply OKx_addN;exact rfl;exact rfl;omega)|(apply OKx_add;exact rfl;exact rfl;omega;omega)|(apply OKx_dec;exact rfl;exact rfl;omega;omega)|(apply OKx_subN;exact rfl;exact rfl;omega;omega)|(apply OKx_sub;exact rfl;exact rfl;omega;omega)|(apply OKx_min;exact rfl;exact rfl)|(apply OKx_pickT;exact rfl;(conv=>lhs;whnf)<;>exact rfl)|(apply OKx_pickF;exact rfl;(conv=>lhs;whnf)<;>exact rfl)|(apply OKx_guardT;exact rfl;exact rfl)|(apply OKx_guardF;exact rfl;exact rfl)|(apply OKx_guardU;exact rfl;exact rfl)|(apply OKx_notT;exact rfl)|(apply OKx_notF;exact rfl))
  have zR : (bOf R).size = R.length := bOf_size R
  have hRl : R.length ≤ 65536 := by omega
  have hDd : ∀ b ∈ D, isDg b = true := by rw [← hD]; exact all_takeWhile R
  have hDl : D.length ≤ R.length := by
    rw [← hD]
    by_cases h : (dgs R).length = 0
    · omega
    · have := (dgs_at R ((dgs R).length - 1) (by omega)).1;omega
  have hDg : ∀ i, i < D.length → D.getD i 0 = R.getD i 0 := fun i hi => by rw [← hD] at hi ⊢; exact (dgs_at R i hi).2.2
  have hDi : ∀ i, i < D.length → isDg (R.getD i 0) = true := fun i hi => by rw [← hD] at hi; exact (dgs_at R i hi).2.1
  have hDe : D.length < R.length → isDg (R.getD D.length 0) = false := fun h => by rw [← hD] at h ⊢; exact dgs_end R h
  have hDt : ∀ i, i < D.length → min (valD (D.take (i + 1))) 2147483648 = min (min (valD (D.take i)) 2147483648 * 10 + dgv (R.getD i 0)) 2147483648 := fun i hi => by
    have h9 := valD_nonneg (D.take i) fun b hb => hDd b (List.mem_of_mem_take hb)
    have h8 := dgv_rng (hDi i hi)
    rw [take_snoc D i hi, valD_snoc, hDg i hi]
    omega
  have hDr : ∀ i, 0 ≤ valD (D.take i) := fun i => valD_nonneg _ fun b hb => hDd b (List.mem_of_mem_take hb)
  refine OK_loop2 6 7 [6, 7, 37, 38, 39, 40, 41, 42, 43, 44, 45, 46, 47, 48, 49, 50, 51, 52, 53, 54, 55, 56, 57] (fun m u v L => ∃ (k : Nat) (W0 : Int), k + m = D.length ∧ W0 = min (valD (D.take k)) 2147483648 ∧ u = .int .i64 W0 ∧ v = .int .i64 (k : Int) ∧ L = []) D.length _ (Ent.refl _ _) ⟨0, 0, by omega, rfl, rfl, rfl, rfl⟩ ?_
  rintro m u v L G ⟨k, W0, hm, hW, rfl, rfl, rfl⟩
  have hW0 := hDr k
  by_cases hk : k < D.length
  · have hd := hDi k hk
    have hdr := isDg_rng hd
    have hdv : IntKind.u8.wrap (((R.getD k 0).toNat : Int) - 48) = dgv (R.getD k 0) := by unfold dgv; rw [IntKind.wrap_u8];omega
    have hdv2 := dgv_rng hd
    have hst := hDt k hk
    rw [← hW] at hst
    repeat' (first|(apply OK_seq)|(apply thenQ_n)|(apply OK_region)|(refine OKx_idxB (i := k) rfl rfl (by omega) ?_)|(apply OKx_gc 34;exact rfl; refine OKx_callV (f := 34) (v := .bool true) rfl rfl rfl (fun w1 hp => by have := rdig_sat (R.getD k 0) w1; rwa [hd] at this) ?_)|(apply OKx_gn; refine OKx_mul rfl rfl (by omega) (by omega) ?_)|(refine OKx_subK rfl rfl hdv ?_)|(apply OKx_gv; refine OKx_conv rfl rfl Tryd.underlying3 (by omega) (by omega) ?_)|(apply OKx_gn; refine OKx_add (b := dgv (R.getD k 0)) rfl rfl (by omega) (by omega) ?_)|(apply OKx_gb; refine OKx_min rfl rfl ?_; rw [← hst])|(apply OKx_nilK)|(apply OK_block)|(apply blockQ_n)|(apply blockQ_s)|(apply thenQ_e)|(apply blockQ_e;exact rfl)|(apply thenQ_r)|(apply blockQ_r)|(apply OK_condT;exact rfl)|(apply OK_condF;exact rfl)|(apply OK_skip)|(apply OK_exit)|(apply OK_ret)|(apply OKx_move;(conv=>lhs;whnf)<;>exact rfl)|(apply OKx_assign;(conv=>lhs;whnf)<;>exact rfl)|(apply OKx_lenS;exact rfl)|(apply OKx_lss;exact rfl;exact rfl;all_goals (intro _; try (exfalso;omega)))|(apply OKx_gtr;exact rfl;exact rfl;all_goals (intro _; try (exfalso;omega)))|(apply OKx_eql;exact rfl;exact rfl;all_goals (intro _; try (exfalso;omega)))|(apply OKx_neq;exact rfl;exact rfl;all_goals (intro _; try (exfalso;omega)))|(apply OKx_sneq;exact rfl;exact rfl; all_goals intro _)|(apply OKx_idxS;exact rfl;exact rfl;omega)|(apply OKx_inc;exact rfl;exact rfl;omega)|(apply OKx_addN;exact rfl;exact rfl;omega)|(apply OKx_add;exact rfl;exact rfl;omega;omega)|(apply OKx_dec;exact rfl;exact rfl;omega;omega)|(apply OKx_subN;exact rfl;exact rfl;omega;omega)|(apply OKx_sub;exact rfl;exact rfl;omega;omega)|(apply OKx_min;exact rfl;exact rfl)|(apply OKx_pickT;exact rfl;(conv=>lhs;whnf)<;>exact rfl)|(apply OKx_pickF;exact rfl;(conv=>lhs;whnf)<;>exact rfl)|(apply OKx_guardT;exact rfl;exact rfl)|(apply OKx_guardF;exact rfl;exact rfl)|(apply OKx_guardU;exact rfl;exact rfl)|(apply OKx_notT;exact rfl)|(apply OKx_notF;exact rfl))
    refine ⟨by (repeat' (first | refine agree_upd rfl ?_ | exact agree_over | exact agree_refl _ _ | refine agree_over2 rfl ?_)), m - 1, _, by omega, Ent.refl _ _, ?_⟩
    exact ⟨k + 1, _, by omega, rfl, rfl, rfl, rfl⟩
  obtain rfl : k = D.length := by omega
  rw [List.take_length] at hW hW0
  have hWr : 0 ≤ W0 ∧ W0 ≤ 2147483648 := by omega
  have hbc : ((dgs R).length = 0 ∨ (1 < (dgs R).length ∧ R.getD 0 0 = 48)) ↔ (D.length = 0 ∨ (1 < D.length ∧ (R.getD 0 0).toNat = 48)) := by rw [hD, u48]
  have arm1 : D.length < R.length → isDg (R.getD D.length 0) = false := hDe
  have hD1 : 1 ≤ D.length := by omega
  have e2 : refC R true = if refBad (R.drop D.length) then (0, 3) else finR true (W0 * 1000 + dgsF (R.drop D.length).tail) := by
    unfold refC
    rw [if_neg (fun h => hb (hbc.1 h)), hD, hW]
  rw [e2]
  have hpn : R.drop D.length = [] := List.drop_eq_nil_of_le (by omega)
  have hnb : ¬ refBad (R.drop D.length) := fun h => h.1 hpn
  rw [if_neg hnb, hpn]
  have eF : dgsF ([] : List UInt8).tail = 0 := rfl
  rw [eF]
  by_cases h0 : W0 * 1000 + 0 = 0
  · rw [h0, finT0]
    repeat' (first|(apply OK_seq)|(apply thenQ_n)|(apply OK_region)|(refine OKx_idxB (s := R) (i := D.length) rfl rfl (by omega) ?_)|(refine OKx_idxB (s := R) (i := 0) rfl rfl (by omega) ?_)|(refine OKx_sslL (s := R) (l := D.length) rfl rfl (by omega) hpn ?_)|(apply OKx_gn; apply OKx_sneq;exact rfl;exact rfl; all_goals (intro hs; first | (exfalso; exact hs rfl) | skip))|(apply OKx_gn; refine OKx_mul rfl rfl (by omega) (by omega) ?_)|(apply OKx_gn; refine OKx_add rfl rfl (by omega) (by omega) ?_)|(apply OKx_nilK)|(apply OK_block)|(apply blockQ_n)|(apply blockQ_s)|(apply thenQ_e)|(apply blockQ_e;exact rfl)|(apply thenQ_r)|(apply blockQ_r)|(apply OK_condT;exact rfl)|(apply OK_condF;exact rfl)|(apply OK_skip)|(apply OK_exit)|(apply OK_ret)|(apply OKx_move;(conv=>lhs;whnf)<;>exact rfl)|(apply OKx_assign;(conv=>lhs;whnf)<;>exact rfl)|(apply OKx_lenS;exact rfl)|(apply OKx_lss;exact rfl;exact rfl;all_goals (intro _; try (exfalso;omega)))|(apply OKx_gtr;exact rfl;exact rfl;all_goals (intro _; try (exfalso;omega)))|(apply OKx_eql;exact rfl;exact rfl;all_goals (intro _; try (exfalso;omega)))|(apply OKx_neq;exact rfl;exact rfl;all_goals (intro _; try (exfalso;omega)))|(apply OKx_sneq;exact rfl;exact rfl; all_goals intro _)|(apply OKx_idxS;exact rfl;exact rfl;omega)|(apply OKx_inc;exact rfl;exact rfl;omega)|(apply OKx_addN;exact rfl;exact rfl;omega)|(apply OKx_add;exact rfl;exact rfl;omega;omega)|(apply OKx_dec;exact rfl;exact rfl;omega;omega)|(apply OKx_subN;exact rfl;exact rfl;omega;omega)|(apply OKx_sub;exact rfl;exact rfl;omega;omega)|(apply OKx_min;exact rfl;exact rfl)|(apply OKx_pickT;exact rfl;(conv=>lhs;whnf)<;>exact rfl)|(apply OKx_pickF;exact rfl;(conv=>lhs;whnf)<;>exact rfl)|(apply OKx_guardT;exact rfl;exact rfl)|(apply OKx_guardF;exact rfl;exact rfl)|(apply OKx_guardU;exact rfl;exact rfl)|(apply OKx_notT;exact rfl)|(apply OKx_notF;exact rfl))
    all_goals
      refine bodyQ_r2 (by ((conv=>lhs;whnf)<;>exact rfl)) (by ((conv=>lhs;whnf)<;>exact rfl)) ?_
      exact ⟨_, Ent.nil, rfl, rfl⟩
  by_cases hbig : 1073741824 < W0 * 1000 + 0
  · rw [finT1 h0 hbig]
    repeat' (first|(apply OK_seq)|(apply thenQ_n)|(apply OK_region)|(refine OKx_idxB (s := R) (i := D.length) rfl rfl (by omega) ?_)|(refine OKx_idxB (s := R) (i := 0) rfl rfl (by omega) ?_)|(refine OKx_sslL (s := R) (l := D.length) rfl rfl (by omega) hpn ?_)|(apply OKx_gn; apply OKx_sneq;exact rfl;exact rfl; all_goals (intro hs; first | (exfalso; exact hs rfl) | skip))|(apply OKx_gn; refine OKx_mul rfl rfl (by omega) (by omega) ?_)|(apply OKx_gn; refine OKx_add rfl rfl (by omega) (by omega) ?_)|(apply OKx_nilK)|(apply OK_block)|(apply blockQ_n)|(apply blockQ_s)|(apply thenQ_e)|(apply blockQ_e;exact rfl)|(apply thenQ_r)|(apply blockQ_r)|(apply OK_condT;exact rfl)|(apply OK_condF;exact rfl)|(apply OK_skip)|(apply OK_exit)|(apply OK_ret)|(apply OKx_move;(conv=>lhs;whnf)<;>exact rfl)|(apply OKx_assign;(conv=>lhs;whnf)<;>exact rfl)|(apply OKx_lenS;exact rfl)|(apply OKx_lss;exact rfl;exact rfl;all_goals (intro _; try (exfalso;omega)))|(apply OKx_gtr;exact rfl;exact rfl;all_goals (intro _; try (exfalso;omega)))|(apply OKx_eql;exact rfl;exact rfl;all_goals (intro _; try (exfalso;omega)))|(apply OKx_neq;exact rfl;exact rfl;all_goals (intro _; try (exfalso;omega)))|(apply OKx_sneq;exact rfl;exact rfl; all_goals intro _)|(apply OKx_idxS;exact rfl;exact rfl;omega)|(apply OKx_inc;exact rfl;exact rfl;omega)|(apply OKx_addN;exact rfl;exact rfl;omega)|(apply OKx_add;exact rfl;exact rfl;omega;omega)|(apply OKx_dec;exact rfl;exact rfl;omega;omega)|(apply OKx_subN;exact rfl;exact rfl;omega;omega)|(apply OKx_sub;exact rfl;exact rfl;omega;omega)|(apply OKx_min;exact rfl;exact rfl)|(apply OKx_pickT;exact rfl;(conv=>lhs;whnf)<;>exact rfl)|(apply OKx_pickF;exact rfl;(conv=>lhs;whnf)<;>exact rfl)|(apply OKx_guardT;exact rfl;exact rfl)|(apply OKx_guardF;exact rfl;exact rfl)|(apply OKx_guardU;exact rfl;exact rfl)|(apply OKx_notT;exact rfl)|(apply OKx_notF;exact rfl))
    all_goals
      refine bodyQ_r2 (by ((conv=>lhs;whnf)<;>exact rfl)) (by ((conv=>lhs;whnf)<;>exact rfl)) ?_
      exact ⟨_, Ent.nil, rfl, rfl⟩
  · rw [finT2 h0 (by omega)]
    repeat' (first|(apply OK_seq)|(apply thenQ_n)|(apply OK_region)|(refine OKx_idxB (s := R) (i := D.length) rfl rfl (by omega) ?_)|(refine OKx_idxB (s := R) (i := 0) rfl rfl (by omega) ?_)|(refine OKx_sslL (s := R) (l := D.length) rfl rfl (by omega) hpn ?_)|(apply OKx_gn; apply OKx_sneq;exact rfl;exact rfl; all_goals (intro hs; first | (exfalso; exact hs rfl) | skip))|(apply OKx_gn; refine OKx_mul rfl rfl (by omega) (by omega) ?_)|(apply OKx_gn; refine OKx_add rfl rfl (by omega) (by omega) ?_)|(refine OKx_neg rfl (by omega) (by omega) ?_)|(apply OKx_nilK)|(apply OK_block)|(apply blockQ_n)|(apply blockQ_s)|(apply thenQ_e)|(apply blockQ_e;exact rfl)|(apply thenQ_r)|(apply blockQ_r)|(apply OK_condT;exact rfl)|(apply OK_condF;exact rfl)|(apply OK_skip)|(apply OK_exit)|(apply OK_ret)|(apply OKx_move;(conv=>lhs;whnf)<;>exact rfl)|(apply OKx_assign;(conv=>lhs;whnf)<;>exact rfl)|(apply OKx_lenS;exact rfl)|(apply OKx_lss;exact rfl;exact rfl;all_goals (intro _; try (exfalso;omega)))|(apply OKx_gtr;exact rfl;exact rfl;all_goals (intro _; try (exfalso;omega)))|(apply OKx_eql;exact rfl;exact rfl;all_goals (intro _; try (exfalso;omega)))|(apply OKx_neq;exact rfl;exact rfl;all_goals (intro _; try (exfalso;omega)))|(apply OKx_sneq;exact rfl;exact rfl; all_goals intro _)|(apply OKx_idxS;exact rfl;exact rfl;omega)|(apply OKx_inc;exact rfl;exact rfl;omega)|(apply OKx_addN;exact rfl;exact rfl;omega)|(apply OKx_add;exact rfl;exact rfl;omega;omega)|(apply OKx_dec;exact rfl;exact rfl;omega;omega)|(apply OKx_subN;exact rfl;exact rfl;omega;omega)|(apply OKx_sub;exact rfl;exact rfl;omega;omega)|(apply OKx_min;exact rfl;exact rfl)|(apply OKx_pickT;exact rfl;(conv=>lhs;whnf)<;>exact rfl)|(apply OKx_pickF;exact rfl;(conv=>lhs;whnf)<;>exact rfl)|(apply OKx_guardT;exact rfl;exact rfl)|(apply OKx_guardF;exact rfl;exact rfl)|(apply OKx_guardU;exact rfl;exact rfl)|(apply OKx_notT;exact rfl)|(apply OKx_notF;exact rfl))
    all_goals
      refine bodyQ_r2 (by ((conv=>lhs;whnf)<;>exact rfl)) (by ((conv=>lhs;whnf)<;>exact rfl)) ?_
      exact ⟨_, Ent.nil, rfl, rfl⟩
set_option maxRecDepth 100000 in
set_option maxHeartbeats 4000000 in
theorem rP_CT_sat (s T0 R D : List UInt8) (w : World) (hl : ¬ 65536 < s.length) (h3 : ¬ s.length < 3) (hsf : s.drop (s.length - 2) = [112, 116]) (hT' : s.take (s.length - 2) = T0) (hRd : T0.drop 1 = R) (hng : (T0.getD 0 0).toNat = 45) (hD : dgs R = D)
    (Q : List UInt8) (hQd : R.drop D.length = Q) (hb : ¬ (D.length = 0 ∨ (1 < D.length ∧ (R.getD 0 0).toNat = 48))) (hlt : D.length < R.length) (hq : ((Q.getD 0 0).toNat ≠ 46 ∨ Q.length < 2 ∨ 4 < Q.length ∨ (Q.getD (Q.length - 1) 0).toNat = 48)) : SatV Tryd.prog 12 [.string (bOf s)] w (.tuple #[.int .i64 (refC R true).1, .int .i64 (refC R true).2]) := by
  have hz : (bOf s).size = s.length := bOf_size s
  have hTl : T0.length = s.length - 2 := by rw [← hT', List.length_take];omega
  have zT : (bOf T0).size = T0.length := bOf_size T0
  have hsq : bOf (s.drop (s.length - 2)) = ⟨#[112, 116]⟩ := by rw [hsf]; rfl
  have hRl0 : R.length = T0.length - 1 := by rw [← hRd, List.length_drop]
  refine SatL.of 132 [2, 3] Tryd.func12 (by kernel_rfl) (by kernel_rfl) rfl rfl rfl rfl ?_
  repeat' (first|(apply OK_seq)|(apply thenQ_n)|(apply OK_region)|(apply OKx_gn; refine OKx_subN (a := s.length) (b := 2) rfl rfl (by omega) (by omega) ?_)|(refine OKx_sslL (l := s.length - 2) rfl rfl (by omega) hsf ?_)|(refine OKx_sslH (h := s.length - 2) rfl rfl (by omega) hT' ?_)|(refine OKx_idxB (s := T0) (i := 0) rfl rfl (by omega) ?_)|(apply OKx_gn; apply OKx_sneq;exact rfl;exact rfl; all_goals (intro hs; first | (exfalso; exact hs rfl) | skip))|(refine OKx_sslL (s := T0) (l := 1) rfl rfl (by omega) hRd ?_)|(apply OKx_nilK)|(apply OK_block)|(apply blockQ_n)|(apply blockQ_s)|(apply thenQ_e)|(apply blockQ_e;exact rfl)|(apply thenQ_r)|(apply blockQ_r)|(apply OK_condT;exact rfl)|(apply OK_condF;exact rfl)|(apply OK_skip)|(apply OK_exit)|(apply OK_ret)|(apply OKx_move;(conv=>lhs;whnf)<;>exact rfl)|(apply OKx_assign;(conv=>lhs;whnf)<;>exact rfl)|(apply OKx_lenS;exact rfl)|(apply OKx_lss;exact rfl;exact rfl;all_goals (intro _; try (exfalso;omega)))|(apply OKx_gtr;exact rfl;exact rfl;all_goals (intro _; try (exfalso;omega)))|(apply OKx_eql;exact rfl;exact rfl;all_goals (intro _; try (exfalso;omega)))|(apply OKx_neq;exact rfl;exact rfl;all_goals (intro _; try (exfalso;omega)))|(apply OKx_sneq;exact rfl;exact rfl; all_goals intro _)|(apply OKx_idxS;exact rfl;exact rfl;omega)|(apply OKx_inc;exact rfl;exact rfl;omega)|(apply OKx_addN;exact rfl;exact rfl;omega)|(apply OKx_add;exact rfl;exact rfl;omega;omega)|(apply OKx_dec;exact rfl;exact rfl;omega;omega)|(apply OKx_subN;exact rfl;exact rfl;omega;omega)|(apply OKx_sub;exact rfl;exact rfl;omega;omega)|(apply OKx_min;exact rfl;exact rfl)|(apply OKx_pickT;exact rfl;(conv=>lhs;whnf)<;>exact rfl)|(apply OKx_pickF;exact rfl;(conv=>lhs;whnf)<;>exact rfl)|(apply OKx_guardT;exact rfl;exact rfl)|(apply OKx_guardF;exact rfl;exact rfl)|(apply OKx_guardU;exact rfl;exact rfl)|(apply OKx_notT;exact rfl)|(apply OKx_notF;exact rfl))
  have zR : (bOf R).size = R.length := bOf_size R
  have hRl : R.length ≤ 65536 := by omega
  have hDd : ∀ b ∈ D, isDg b = true := by rw [← hD]; exact all_takeWhile R
  have hDl : D.length ≤ R.length := by
    rw [← hD]
    by_cases h : (dgs R).length = 0
    · omega
    · have := (dgs_at R ((dgs R).length - 1) (by omega)).1;omega
  have hDg : ∀ i, i < D.length → D.getD i 0 = R.getD i 0 := fun i hi => by rw [← hD] at hi ⊢; exact (dgs_at R i hi).2.2
  have hDi : ∀ i, i < D.length → isDg (R.getD i 0) = true := fun i hi => by rw [← hD] at hi; exact (dgs_at R i hi).2.1
  have hDe : D.length < R.length → isDg (R.getD D.length 0) = false := fun h => by rw [← hD] at h ⊢; exact dgs_end R h
  have hDt : ∀ i, i < D.length → min (valD (D.take (i + 1))) 2147483648 = min (min (valD (D.take i)) 2147483648 * 10 + dgv (R.getD i 0)) 2147483648 := fun i hi => by
    have h9 := valD_nonneg (D.take i) fun b hb => hDd b (List.mem_of_mem_take hb)
    have h8 := dgv_rng (hDi i hi)
    rw [take_snoc D i hi, valD_snoc, hDg i hi]
    omega
  have hDr : ∀ i, 0 ≤ valD (D.take i) := fun i => valD_nonneg _ fun b hb => hDd b (List.mem_of_mem_take hb)
  refine OK_loop2 6 7 [6, 7, 37, 38, 39, 40, 41, 42, 43, 44, 45, 46, 47, 48, 49, 50, 51, 52, 53, 54, 55, 56, 57] (fun m u v L => ∃ (k : Nat) (W0 : Int), k + m = D.length ∧ W0 = min (valD (D.take k)) 2147483648 ∧ u = .int .i64 W0 ∧ v = .int .i64 (k : Int) ∧ L = []) D.length _ (Ent.refl _ _) ⟨0, 0, by omega, rfl, rfl, rfl, rfl⟩ ?_
  rintro m u v L G ⟨k, W0, hm, hW, rfl, rfl, rfl⟩
  have hW0 := hDr k
  by_cases hk : k < D.length
  · have hd := hDi k hk
    have hdr := isDg_rng hd
    have hdv : IntKind.u8.wrap (((R.getD k 0).toNat : Int) - 48) = dgv (R.getD k 0) := by unfold dgv; rw [IntKind.wrap_u8];omega
    have hdv2 := dgv_rng hd
    have hst := hDt k hk
    rw [← hW] at hst
    repeat' (first|(apply OK_seq)|(apply thenQ_n)|(apply OK_region)|(refine OKx_idxB (i := k) rfl rfl (by omega) ?_)|(apply OKx_gc 34;exact rfl; refine OKx_callV (f := 34) (v := .bool true) rfl rfl rfl (fun w1 hp => by have := rdig_sat (R.getD k 0) w1; rwa [hd] at this) ?_)|(apply OKx_gn; refine OKx_mul rfl rfl (by omega) (by omega) ?_)|(refine OKx_subK rfl rfl hdv ?_)|(apply OKx_gv; refine OKx_conv rfl rfl Tryd.underlying3 (by omega) (by omega) ?_)|(apply OKx_gn; refine OKx_add (b := dgv (R.getD k 0)) rfl rfl (by omega) (by omega) ?_)|(apply OKx_gb; refine OKx_min rfl rfl ?_; rw [← hst])|(apply OKx_nilK)|(apply OK_block)|(apply blockQ_n)|(apply blockQ_s)|(apply thenQ_e)|(apply blockQ_e;exact rfl)|(apply thenQ_r)|(apply blockQ_r)|(apply OK_condT;exact rfl)|(apply OK_condF;exact rfl)|(apply OK_skip)|(apply OK_exit)|(apply OK_ret)|(apply OKx_move;(conv=>lhs;whnf)<;>exact rfl)|(apply OKx_assign;(conv=>lhs;whnf)<;>exact rfl)|(apply OKx_lenS;exact rfl)|(apply OKx_lss;exact rfl;exact rfl;all_goals (intro _; try (exfalso;omega)))|(apply OKx_gtr;exact rfl;exact rfl;all_goals (intro _; try (exfalso;omega)))|(apply OKx_eql;exact rfl;exact rfl;all_goals (intro _; try (exfalso;omega)))|(apply OKx_neq;exact rfl;exact rfl;all_goals (intro _; try (exfalso;omega)))|(apply OKx_sneq;exact rfl;exact rfl; all_goals intro _)|(apply OKx_idxS;exact rfl;exact rfl;omega)|(apply OKx_inc;exact rfl;exact rfl;omega)|(apply OKx_addN;exact rfl;exact rfl;omega)|(apply OKx_add;exact rfl;exact rfl;omega;omega)|(apply OKx_dec;exact rfl;exact rfl;omega;omega)|(apply OKx_subN;exact rfl;exact rfl;omega;omega)|(apply OKx_sub;exact rfl;exact rfl;omega;omega)|(apply OKx_min;exact rfl;exact rfl)|(apply OKx_pickT;exact rfl;(conv=>lhs;whnf)<;>exact rfl)|(apply OKx_pickF;exact rfl;(conv=>lhs;whnf)<;>exact rfl)|(apply OKx_guardT;exact rfl;exact rfl)|(apply OKx_guardF;exact rfl;exact rfl)|(apply OKx_guardU;exact rfl;exact rfl)|(apply OKx_notT;exact rfl)|(apply OKx_notF;exact rfl))
    refine ⟨by (repeat' (first | refine agree_upd rfl ?_ | exact agree_over | exact agree_refl _ _ | refine agree_over2 rfl ?_)), m - 1, _, by omega, Ent.refl _ _, ?_⟩
    exact ⟨k + 1, _, by omega, rfl, rfl, rfl, rfl⟩
  obtain rfl : k = D.length := by omega
  rw [List.take_length] at hW hW0
  have hWr : 0 ≤ W0 ∧ W0 ≤ 2147483648 := by omega
  have hbc : ((dgs R).length = 0 ∨ (1 < (dgs R).length ∧ R.getD 0 0 = 48)) ↔ (D.length = 0 ∨ (1 < D.length ∧ (R.getD 0 0).toNat = 48)) := by rw [hD, u48]
  have arm1 : D.length < R.length → isDg (R.getD D.length 0) = false := hDe
  have hD1 : 1 ≤ D.length := by omega
  have e2 : refC R true = if refBad (R.drop D.length) then (0, 3) else finR true (W0 * 1000 + dgsF (R.drop D.length).tail) := by
    unfold refC
    rw [if_neg (fun h => hb (hbc.1 h)), hD, hW]
  rw [e2]
  have hd := hDe hlt
  have hpl : (R.drop D.length).length = R.length - D.length := List.length_drop
  rw [hQd] at hpl ⊢
  have zQ : (bOf Q).size = Q.length := bOf_size Q
  have hPne : bOf Q ≠ ⟨#[]⟩ := fun e => by
    have h9 : Q = [] := bOf_inj (b := []) e
    rw [h9, List.length_nil] at hpl;omega
  have hbad : refBad Q := ⟨fun e => hPne (by rw [e]; rfl), by
    rcases hq with h9 | h9 | h9 | h9
    · exact .inl fun e => h9 (by rw [e]; rfl)
    · exact .inr (.inl h9)
    · exact .inr (.inr (.inl h9))
    · exact .inr (.inr (.inr (.inl (u8_eq h9))))⟩
  rw [if_pos hbad]
  repeat' (first|(apply OK_seq)|(apply thenQ_n)|(apply OK_region)|(refine OKx_idxB (s := Q) (i := 0) rfl rfl (by omega) ?_)|(refine OKx_idxB (s := Q) (i := Q.length - 1) rfl rfl (by omega) ?_)|(apply OKx_gn; refine OKx_dec (a := Q.length) rfl rfl (by omega) (by omega) ?_)|(refine OKx_idxB (s := R) (i := D.length) rfl rfl (by omega) ?_)|(refine OKx_idxB (s := R) (i := 0) rfl rfl (by omega) ?_)|(apply OKx_gc 34;exact rfl; refine OKx_callV (f := 34) (v := .bool false) rfl rfl rfl (fun w1 hp => by have := rdig_sat (R.getD D.length 0) w1; rwa [hd] at this) ?_)|(refine OKx_sslL (s := R) (l := D.length) rfl rfl (by omega) hQd ?_)|(apply OKx_gn; apply OKx_sneq;exact rfl;exact rfl; all_goals (intro hs; first | (exfalso; exact hs rfl) | (exfalso; exact hPne hs) | skip))|(apply OKx_nilK)|(apply OK_block)|(apply blockQ_n)|(apply blockQ_s)|(apply thenQ_e)|(apply blockQ_e;exact rfl)|(apply thenQ_r)|(apply blockQ_r)|(apply OK_condT;exact rfl)|(apply OK_condF;exact rfl)|(apply OK_skip)|(apply OK_exit)|(apply OK_ret)|(apply OKx_move;(conv=>lhs;whnf)<;>exact rfl)|(apply OKx_assign;(conv=>lhs;whnf)<;>exact rfl)|(apply OKx_lenS;exact rfl)|(apply OKx_lss;exact rfl;exact rfl;all_goals (intro _; try (exfalso;omega)))|(apply OKx_gtr;exact rfl;exact rfl;all_goals (intro _; try (exfalso;omega)))|(apply OKx_eql;exact rfl;exact rfl;all_goals (intro _; try (exfalso;omega)))|(apply OKx_neq;exact rfl;exact rfl;all_goals (intro _; try (exfalso;omega)))|(apply OKx_sneq;exact rfl;exact rfl; all_goals intro _)|(apply OKx_idxS;exact rfl;exact rfl;omega)|(apply OKx_inc;exact rfl;exact rfl;omega)|(apply OKx_addN;exact rfl;exact rfl;omega)|(apply OKx_add;exact rfl;exact rfl;omega;omega)|(apply OKx_dec;exact rfl;exact rfl;omega;omega)|(apply OKx_subN;exact rfl;exact rfl;omega;omega)|(apply OKx_sub;exact rfl;exact rfl;omega;omega)|(apply OKx_min;exact rfl;exact rfl)|(apply OKx_pickT;exact rfl;(conv=>lhs;whnf)<;>exact rfl)|(apply OKx_pickF;exact rfl;(conv=>lhs;whnf)<;>exact rfl)|(apply OKx_guardT;exact rfl;exact rfl)|(apply OKx_guardF;exact rfl;exact rfl)|(apply OKx_guardU;exact rfl;exact rfl)|(apply OKx_notT;exact rfl)|(apply OKx_notF;exact rfl))
  all_goals
    refine bodyQ_r2 (by ((conv=>lhs;whnf)<;>exact rfl)) (by ((conv=>lhs;whnf)<;>exact rfl)) ?_
    exact ⟨_, Ent.nil, rfl, rfl⟩
end Go.Proofs.YtkimmlhcaanfjaaDoor
