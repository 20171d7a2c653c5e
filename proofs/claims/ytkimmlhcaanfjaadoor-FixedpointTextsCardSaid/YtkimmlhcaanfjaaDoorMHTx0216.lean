/-
  Part 16 of the proof: Rrb02, Rs02, Lz02, Tbl. No statement of the seat is proved here.
-/
import Derived.Test.YtkimmlhcaanfjaaDoorMHTx0215
import Derived.LaidSub
import Derived.MakeChecks
import Derived.Lib.LaidTab
namespace Go.Proofs.YtkimmlhcaanfjaaDoor
open Go.RowKit
set_option maxRecDepth 100000 in
set_option maxHeartbeats 4000000 in
theorem rP_DF_sat (s T0 R D : List UInt8) (w : World) (hl : ¬ 65536 < s.length) (h3 : ¬ s.length < 3) (hsf : s.drop (s.length - 2) = [112, 116]) (hT' : s.take (s.length - 2) = T0) (hRd : T0 = R) (hng : ¬ (T0.getD 0 0).toNat = 45) (hD : dgs R = D)
    (Q : List UInt8) (hQd : R.drop D.length = Q) (hb : ¬ (D.length = 0 ∨ (1 < D.length ∧ (R.getD 0 0).toNat = 48))) (hlt : D.length < R.length) (hq : ¬ ((Q.getD 0 0).toNat ≠ 46 ∨ Q.length < 2 ∨ 4 < Q.length ∨ (Q.getD (Q.length - 1) 0).toNat = 48)) : SatV Tryd.prog 12 [.string (bOf s)] w (.tuple #[.int .i64 (refC R false).1, .int .i64 (refC R false).2]) := by
  have hz : (bOf s).size = s.length := bOf_size s
  have hTl : T0.length = s.length - 2 := by rw [← hT', List.length_take];omega
  have zT : (bOf T0).size = T0.length := bOf_size T0
  have hsq : bOf (s.drop (s.length - 2)) = ⟨#[112, 116]⟩ := by rw [hsf]; rfl
  subst hRd
  generalize hR0 : T0 = R at *
  refine SatL.of 132 [2, 3] Tryd.func12 (by kernel_rfl) (by kernel_rfl) rfl rfl rfl rfl ?_
  repeat' (first|(apply OK_seq)|(apply thenQ_n)|(apply OK_region)|(apply OKx_gn; refine OKx_subN (a := s.length) (b := 2) rfl rfl (by omega) (by omega) ?_)|(refine OKx_sslL (l := s.length - 2) rfl rfl (by omega) hsf ?_)|(refine OKx_sslH (h := s.length - 2) rfl rfl (by omega) hT' ?_)|(refine OKx_idxB (s := R) (i := 0) rfl rfl (by omega) ?_)|(apply OKx_gn; apply OKx_sneq;exact rfl;exact rfl; all_goals (intro hs; first | (exfalso; exact hs rfl) | skip))|(apply OKx_nilK)|(apply OK_block)|(apply blockQ_n)|(apply blockQ_s)|(apply thenQ_e)|(apply blockQ_e;exact rfl)|(apply thenQ_r)|(apply blockQ_r)|(apply OK_condT;exact rfl)|(apply OK_condF;exact rfl)|(apply OK_skip)|(apply OK_exit)|(apply OK_ret)|(apply OKx_move;(conv=>lhs;whnf)<;>exact rfl)|(apply OKx_assign;(conv=>lhs;whnf)<;>exact rfl)|(apply OKx_lenS;exact rfl)|(apply OKx_lss;exact rfl;exact rfl;all_goals (intro _; try (exfalso;omega)))|(apply OKx_gtr;exact rfl;exact rfl;all_goals (intro _; try (exfalso;omega)))|(apply OKx_eql;exact rfl;exact rfl;all_goals (intro _; try (exfalso;omega)))|(apply OKx_neq;exact rfl;exact rfl;all_goals (intro _; try (exfalso;omega)))|(apply OKx_sneq;exact rfl;exact rfl; all_goals intro _)|(apply OKx_idxS;exact rfl;exact rfl;omega)|(apply OKx_inc;exact rfl;exact rfl;omega)|(apply OKx_addN;exact rfl;exact rfl;omega)|(apply OKx_add;exact rfl;exact rfl;omega;omega)|(apply OKx_dec;exact rfl;exact rfl;omega;omega)|(apply OKx_subN;exact rfl;exact rfl;omega;omega)|(apply OKx_sub;exact rfl;exact rfl;omega;omega)|(apply OKx_min;exact rfl;exact rfl)|(apply OKx_pickT;exact rfl;(conv=>lhs;whnf)<;>exact rfl)|(apply OKx_pickF;exact rfl;(conv=>lhs;whnf)<;>exact rfl)|(apply OKx_guardT;exact rfl;exact rfl)|(apply OKx_guardF;exact rfl;exact rfl)|(apply OKx_guardU;exact rfl;exact rfl)|(apply OKx_notT;exact rfl)|(apply OKx_notF;exact rfl))
  have zR : (bOf R).size = R.length := bOf_size R
  have hRl : R.length ≤ 65536 := by omega
  have hDd : ∀ b ∈ D, isDg b = true := by rw [← hD]; exact all_takeWhile R
  have hDl : D.length ≤ R.length := by
    rw [← hD]
    by_cases h : (dgs R).length = 0
    · omega
    · have := (dgs_at R ((dgs R).length - 1) (by omega)).1;omega
  have hDg : ∀ i, i < D.length → D.getD i 0 = R.getD i 0 := fun i hi => by rw [← hD] at hi ⊢; exact (dgs_at R i hi).2.2
  have hDi : ∀ i, i < D.length → isDg (R.getD i 0) = true := fun i hi => by rw [← hD] at hi; exact (dgs_at R i hi).2.1
  have hDe : D.length < R.length → isDg (R.getD D.length 0) = false := fun h => by rw [← hD] at h ⊢; exact dgs_end R h
  have hDt : ∀ i, i < D.length → min (valD (D.take (i + 1))) 2147483648 = min (min (valD (D.take i)) 2147483648 * 10 + dgv (R.getD i 0)) 2147483648 := fun i hi => by
    have h9 := valD_nonneg (D.take i) fun b hb => hDd b (List.mem_of_mem_take hb)
    have h8 := dgv_rng (hDi i hi)
    rw [take_snoc D i hi, valD_snoc, hDg i hi]
    omega
  have hDr : ∀ i, 0 ≤ valD (D.take i) := fun i => valD_nonneg _ fun b hb => hDd b (List.mem_of_mem_take hb)
  refine OK_loop2 6 7 [6, 7, 37, 38, 39, 40, 41, 42, 43, 44, 45, 46, 47, 48, 49, 50, 51, 52, 53, 54, 55, 56, 57] (fun m u v L => ∃ (k : Nat) (W0 : Int), k + m = D.length ∧ W0 = min (valD (D.take k)) 2147483648 ∧ u = .int .i64 W0 ∧ v = .int .i64 (k : Int) ∧ L = []) D.length _ (Ent.refl _ _) ⟨0, 0, by omega, rfl, rfl, rfl, rfl⟩ ?_
  rintro m u v L G ⟨k, W0, hm, hW, rfl, rfl, rfl⟩
  have hW0 := hDr k
  by_cases hk : k < D.length
  · have hd := hDi k hk
    have hdr := isDg_rng hd
    have hdv : IntKind.u8.wrap (((R.getD k 0).toNat : Int) - 48) = dgv (R.getD k 0) := by unfold dgv; rw [IntKind.wrap_u8];omega
    have hdv2 := dgv_rng hd
    have hst := hDt k hk
    rw [← hW] at hst
    repeat' (first|(apply OK_seq)|(apply thenQ_n)|(apply OK_region)|(refine OKx_idxB (i := k) rfl rfl (by omega) ?_)|(apply OKx_gc 34;exact rfl; refine OKx_callV (f := 34) (v := .bool true) rfl rfl rfl (fun w1 hp => by have := rdig_sat (R.getD k 0) w1; rwa [hd] at this) ?_)|(apply OKx_gn; refine OKx_mul rfl rfl (by omega) (by omega) ?_)|(refine OKx_subK rfl rfl hdv ?_)|(apply OKx_gv; refine OKx_conv rfl rfl Tryd.underlying3 (by omega) (by omega) ?_)|(apply OKx_gn; refine OKx_add (b := dgv (R.getD k 0)) rfl rfl (by omega) (by omega) ?_)|(apply OKx_gb; refine OKx_min rfl rfl ?_; rw [← hst])|(apply OKx_nilK)|(apply OK_block)|(apply blockQ_n)|(apply blockQ_s)|(apply thenQ_e)|(apply blockQ_e;exact rfl)|(apply thenQ_r)|(apply blockQ_r)|(apply OK_condT;exact rfl)|(apply OK_condF;exact rfl)|(apply OK_skip)|(apply OK_exit)|(apply OK_ret)|(apply OKx_move;(conv=>lhs;whnf)<;>exact rfl)|(apply OKx_assign;(conv=>lhs;whnf)<;>exact rfl)|(apply OKx_lenS;exact rfl)|(apply OKx_lss;exact rfl;exact rfl;all_goals (intro _; try (exfalso;omega)))|(apply OKx_gtr;exact rfl;exact rfl;all_goals (intro _; try (exfalso;omega)))|(apply OKx_eql;exact rfl;exact rfl;all_goals (intro _; try (exfalso;omega)))|(apply OKx_neq;exact rfl;exact rfl;all_goals (intro _; try (exfalso;omega)))|(apply OKx_sneq;exact rfl;exact rfl; all_goals intro _)|(apply OKx_idxS;exact rfl;exact rfl;omega)|(apply OKx_inc;exact rfl;exact rfl;omega)|(apply OKx_addN;exact rfl;exact rfl;omega)|(apply OKx_add;exact rfl;exact rfl;omega;omega)|(apply OKx_dec;exact rfl;exact rfl;omega;omega)|(apply OKx_subN;exact rfl;exact rfl;omega;omega)|(apply OKx_sub;exact rfl;exact rfl;omega;omega)|(apply OKx_min;exact rfl;exact rfl)|(apply OKx_pickT;exact rfl;(conv=>lhs;whnf)<;>exact rfl)|(apply OKx_pickF;exact rfl;(conv=>lhs;whnf)<;>exact rfl)|(apply OKx_guardT;exact rfl;exact rfl)|(apply OKx_guardF;exact rfl;exact rfl)|(apply OKx_guardU;exact rfl;exact rfl)|(apply OKx_notT;exact rfl)|(apply OKx_notF;exact rfl))
    refine ⟨by (repeat' (first | refine agree_upd rfl ?_ | exact agree_over | exact agree_refl _ _ | refine agree_over2 rfl ?_)), m - 1, _, by omega, Ent.refl _ _, ?_⟩
    exact ⟨k + 1, _, by omega, rfl, rfl, rfl, rfl⟩
  obtain rfl : k = D.length := by omega
  rw [List.take_length] at hW hW0
  have hWr : 0 ≤ W0 ∧ W0 ≤ 2147483648 := by omega
  have hbc : ((dgs R).length = 0 ∨ (1 < (dgs R).length ∧ R.getD 0 0 = 48)) ↔ (D.length = 0 ∨ (1 < D.length ∧ (R.getD 0 0).toNat = 48)) := by rw [hD, u48]
  have arm1 : D.length < R.length → isDg (R.getD D.length 0) = false := hDe
  have hD1 : 1 ≤ D.length := by omega
  have e2 : refC R false = if refBad (R.drop D.length) then (0, 3) else finR false (W0 * 1000 + dgsF (R.drop D.length).tail) := by
    unfold refC
    rw [if_neg (fun h => hb (hbc.1 h)), hD, hW]
  rw [e2]
  have hd := hDe hlt
  have hpl : (R.drop D.length).length = R.length - D.length := List.length_drop
  rw [hQd] at hpl ⊢
  have zQ : (bOf Q).size = Q.length := bOf_size Q
  have hPne : bOf Q ≠ ⟨#[]⟩ := fun e => by
    have h9 : Q = [] := bOf_inj (b := []) e
    rw [h9, List.length_nil] at hpl;omega
  have hq1 : (Q.getD 0 0).toNat = 46 := by omega
  have hq2 : 2 ≤ Q.length ∧ Q.length ≤ 4 := by omega
  have hq3 : (Q.getD (Q.length - 1) 0).toNat ≠ 48 := fun e => hq (by omega)
  obtain ⟨F, hF⟩ : ∃ F, Q = 46 :: F := by
    cases Q with
    | nil => rw [List.length_nil] at hq2;omega
    | cons a F => exact ⟨F, by rw [u8_eq (a := a) (b := 46) hq1]⟩
  have hFl : Q.length = F.length + 1 := by rw [hF]; rfl
  have hFg : ∀ j, Q.getD (j + 1) 0 = F.getD j 0 := fun j => by rw [hF]; rfl
  have hQt : Q.tail = F := by rw [hF]; rfl
  have hgood : F.all isDg = true → ¬ refBad Q := fun ha h9 => by
    rcases h9.2 with h9 | h9 | h9 | h9 | h9
    · exact h9 (u8_eq (b := 46) hq1)
    · omega
    · omega
    · exact hq3 (by rw [h9]; rfl)
    · rw [hQt, ha] at h9; cases h9
  have hbad : F.all isDg = false → refBad Q := fun ha => ⟨fun e => hPne (by rw [e]; rfl), .inr (.inr (.inr (.inr (by rw [hQt]; exact ha))))⟩
  rw [hQt]
  repeat' (first|(apply OK_seq)|(apply thenQ_n)|(apply OK_region)|(refine OKx_idxB (s := Q) (i := 0) rfl rfl (by omega) ?_)|(refine OKx_idxB (s := Q) (i := Q.length - 1) rfl rfl (by omega) ?_)|(apply OKx_gn; refine OKx_dec (a := Q.length) rfl rfl (by omega) (by omega) ?_)|(refine OKx_idxB (s := R) (i := D.length) rfl rfl (by omega) ?_)|(refine OKx_idxB (s := R) (i := 0) rfl rfl (by omega) ?_)|(apply OKx_gc 34;exact rfl; refine OKx_callV (f := 34) (v := .bool false) rfl rfl rfl (fun w1 hp => by have := rdig_sat (R.getD D.length 0) w1; rwa [hd] at this) ?_)|(refine OKx_sslL (s := R) (l := D.length) rfl rfl (by omega) hQd ?_)|(apply OKx_gn; apply OKx_sneq;exact rfl;exact rfl; all_goals (intro hs; first | (exfalso; exact hs rfl) | (exfalso; exact hPne hs) | skip))|(apply OKx_nilK)|(apply OK_block)|(apply blockQ_n)|(apply blockQ_s)|(apply thenQ_e)|(apply blockQ_e;exact rfl)|(apply thenQ_r)|(apply blockQ_r)|(apply OK_condT;exact rfl)|(apply OK_condF;exact rfl)|(apply OK_skip)|(apply OK_exit)|(apply OK_ret)|(apply OKx_move;(conv=>lhs;whnf)<;>exact rfl)|(apply OKx_assign;(conv=>lhs;whnf)<;>exact rfl)|(apply OKx_lenS;exact rfl)|(apply OKx_lss;exact rfl;exact rfl;all_goals (intro _; try (exfalso;omega)))|(apply OKx_gtr;exact rfl;exact rfl;all_goals (intro _; try (exfalso;omega)))|(apply OKx_eql;exact rfl;exact rfl;all_goals (intro _; try (exfalso;omega)))|(apply OKx_neq;exact rfl;exact rfl;all_goals (intro _; try (exfalso;omega)))|(apply OKx_sneq;exact rfl;exact rfl; all_goals intro _)|(apply OKx_idxS;exact rfl;exact rfl;omega)|(apply OKx_inc;exact rfl;exact rfl;omega)|(apply OKx_addN;exact rfl;exact rfl;omega)|(apply OKx_add;exact rfl;exact rfl;omega;omega)|(apply OKx_dec;exact rfl;exact rfl;omega;omega)|(apply OKx_subN;exact rfl;exact rfl;omega;omega)|(apply OKx_sub;exact rfl;exact rfl;omega;omega)|(apply OKx_min;exact rfl;exact rfl)|(apply OKx_pickT;exact rfl;(conv=>lhs;whnf)<;>exact rfl)|(apply OKx_pickF;exact rfl;(conv=>lhs;whnf)<;>exact rfl)|(apply OKx_guardT;exact rfl;exact rfl)|(apply OKx_guardF;exact rfl;exact rfl)|(apply OKx_guardU;exact rfl;exact rfl)|(apply OKx_notT;exact rfl)|(apply OKx_notF;exact rfl))
  all_goals
    refine OK_loop2 9 10 [2, 3, 9, 10, 95, 96, 97, 98, 99, 100, 101, 102, 103, 104, 105, 106, 107, 108, 109, 110, 111, 112, 113, 114, 115, 116] (fun m u v L => ∃ k : Nat, k + m = 3 ∧ u = .int .i64 (pth F k) ∧ v = .int .i64 ((k + 1 : Nat) : Int) ∧ (∀ j, j < k → j < F.length → isDg (F.getD j 0) = true) ∧ L = []) 3 _ (Ent.refl _ _) ⟨0, rfl, rfl, rfl, fun j hj => absurd hj (by omega), rfl⟩ ?_
    rintro m u v L G ⟨k, hm3, rfl, rfl, H, rfl⟩
    by_cases hk3 : k < 3
    · have hp1 := pth_rng F k H
      have hp10 : (10 : Int) ^ k ≤ 100 := by
        match k, hk3 with
        | 0, _ => decide
        | 1, _ => decide
        | 2, _ => decide
      by_cases hkF : k < F.length
      · cases hdk : isDg (F.getD k 0) with
        | false =>
          have hdq : isDg (Q.getD (k + 1) 0) = false := by rw [hFg]; exact hdk
          rw [if_pos (hbad (not_all_dig hkF hdk))]
          repeat' (first|(apply OK_seq)|(apply thenQ_n)|(apply OK_region)|(refine OKx_idxB (s := Q) (i := k + 1) rfl rfl (by omega) ?_)|(apply OKx_gc 34;exact rfl; refine OKx_callV (f := 34) (v := .bool false) rfl rfl rfl (fun w1 hp => by have := rdig_sat (Q.getD (k + 1) 0) w1; rwa [hdq] at this) ?_)|(apply OKx_gn; refine OKx_mul rfl rfl (by omega) (by omega) ?_)|(apply OKx_gn; refine OKx_add rfl rfl (by omega) (by omega) ?_)|(apply OKx_nilK)|(apply OK_block)|(apply blockQ_n)|(apply blockQ_s)|(apply thenQ_e)|(apply blockQ_e;exact rfl)|(apply thenQ_r)|(apply blockQ_r)|(apply OK_condT;exact rfl)|(apply OK_condF;exact rfl)|(apply OK_skip)|(apply OK_exit)|(apply OK_ret)|(apply OKx_move;(conv=>lhs;whnf)<;>exact rfl)|(apply OKx_assign;(conv=>lhs;whnf)<;>exact rfl)|(apply OKx_lenS;exact rfl)|(apply OKx_lss;exact rfl;exact rfl;all_goals (intro _; try (exfalso;omega)))|(apply OKx_gtr;exact rfl;exact rfl;all_goals (intro _; try (exfalso;omega)))|(apply OKx_eql;exact rfl;exact rfl;all_goals (intro _; try (exfalso;omega)))|(apply OKx_neq;exact rfl;exact rfl;all_goals (intro _; try (exfalso;omega)))|(apply OKx_sneq;exact rfl;exact rfl; all_goals intro _)|(apply OKx_idxS;exact rfl;exact rfl;omega)|(apply OKx_inc;exact rfl;exact rfl;omega)|(apply OKx_addN;exact rfl;exact rfl;omega)|(apply OKx_add;exact rfl;exact rfl;omega;omega)|(apply OKx_dec;exact rfl;exact rfl;omega;omega)|(apply OKx_subN;exact rfl;exact rfl;omega;omega)|(apply OKx_sub;exact rfl;exact rfl;omega;omega)|(apply OKx_min;exact rfl;exact rfl)|(apply OKx_pickT;exact rfl;(conv=>lhs;whnf)<;>exact rfl)|(apply OKx_pickF;exact rfl;(conv=>lhs;whnf)<;>exact rfl)|(apply OKx_guardT;exact rfl;exact rfl)|(apply OKx_guardF;exact rfl;exact rfl)|(apply OKx_guardU;exact rfl;exact rfl)|(apply OKx_notT;exact rfl)|(apply OKx_notF;exact rfl))
          refine bodyQ_r2 (by ((conv=>lhs;whnf)<;>exact rfl)) (by ((conv=>lhs;whnf)<;>exact rfl)) ?_
          exact ⟨_, Ent.nil, rfl, rfl⟩
        | true =>
          have hdq : isDg (Q.getD (k + 1) 0) = true := by rw [hFg]; exact hdk
          have hdr := isDg_rng hdq
          have hdv : IntKind.u8.wrap (((Q.getD (k + 1) 0).toNat : Int) - 48) = dgv (Q.getD (k + 1) 0) := by unfold dgv; rw [IntKind.wrap_u8];omega
          have hdv2 := dgv_rng hdq
          repeat' (first|(apply OK_seq)|(apply thenQ_n)|(apply OK_region)|(refine OKx_idxB (s := Q) (i := k + 1) rfl rfl (by omega) ?_)|(apply OKx_gc 34;exact rfl; refine OKx_callV (f := 34) (v := .bool true) rfl rfl rfl (fun w1 hp => by have := rdig_sat (Q.getD (k + 1) 0) w1; rwa [hdq] at this) ?_)|(refine OKx_subK rfl rfl hdv ?_)|(apply OKx_gv; refine OKx_conv rfl rfl Tryd.underlying3 (by omega) (by omega) ?_)|(apply OKx_gn; refine OKx_mul rfl rfl (by omega) (by omega) ?_)|(apply OKx_gn; refine OKx_add (b := dgv (Q.getD (k + 1) 0)) rfl rfl (by omega) (by omega) ?_)|(apply OKx_nilK)|(apply OK_block)|(apply blockQ_n)|(apply blockQ_s)|(apply thenQ_e)|(apply blockQ_e;exact rfl)|(apply thenQ_r)|(apply blockQ_r)|(apply OK_condT;exact rfl)|(apply OK_condF;exact rfl)|(apply OK_skip)|(apply OK_exit)|(apply OK_ret)|(apply OKx_move;(conv=>lhs;whnf)<;>exact rfl)|(apply OKx_assign;(conv=>lhs;whnf)<;>exact rfl)|(apply OKx_lenS;exact rfl)|(apply OKx_lss;exact rfl;exact rfl;all_goals (intro _; try (exfalso;omega)))|(apply OKx_gtr;exact rfl;exact rfl;all_goals (intro _; try (exfalso;omega)))|(apply OKx_eql;exact rfl;exact rfl;all_goals (intro _; try (exfalso;omega)))|(apply OKx_neq;exact rfl;exact rfl;all_goals (intro _; try (exfalso;omega)))|(apply OKx_sneq;exact rfl;exact rfl; all_goals intro _)|(apply OKx_idxS;exact rfl;exact rfl;omega)|(apply OKx_inc;exact rfl;exact rfl;omega)|(apply OKx_addN;exact rfl;exact rfl;omega)|(apply OKx_add;exact rfl;exact rfl;omega;omega)|(apply OKx_dec;exact rfl;exact rfl;omega;omega)|(apply OKx_subN;exact rfl;exact rfl;omega;omega)|(apply OKx_sub;exact rfl;exact rfl;omega;omega)|(apply OKx_min;exact rfl;exact rfl)|(apply OKx_pickT;exact rfl;(conv=>lhs;whnf)<;>exact rfl)|(apply OKx_pickF;exact rfl;(conv=>lhs;whnf)<;>exact rfl)|(apply OKx_guardT;exact rfl;exact rfl)|(apply OKx_guardF;exact rfl;exact rfl)|(apply OKx_guardU;exact rfl;exact rfl)|(apply OKx_notT;exact rfl)|(apply OKx_notF;exact rfl))
          refine ⟨by (repeat' (first | refine agree_upd rfl ?_ | exact agree_over | exact agree_refl _ _ | refine agree_over2 rfl ?_)), m - 1, _, by omega, Ent.refl _ _, ?_⟩
          refine ⟨k + 1, by omega, int_eq (by rw [pth, if_pos hkF, hFg]), rfl, fun j hj hj2 => ?_, rfl⟩
          by_cases hjk : j < k
          · exact H j hjk hj2
          · obtain rfl : j = k := by omega
            exact hdk
      · repeat' (first|(apply OK_seq)|(apply thenQ_n)|(apply OK_region)|(apply OKx_gn; refine OKx_mul rfl rfl (by omega) (by omega) ?_)|(apply OKx_gn; refine OKx_add rfl rfl (by omega) (by omega) ?_)|(apply OKx_nilK)|(apply OK_block)|(apply blockQ_n)|(apply blockQ_s)|(apply thenQ_e)|(apply blockQ_e;exact rfl)|(apply thenQ_r)|(apply blockQ_r)|(apply OK_condT;exact rfl)|(apply OK_condF;exact rfl)|(apply OK_skip)|(apply OK_exit)|(apply OK_ret)|(apply OKx_move;(conv=>lhs;whnf)<;>exact rfl)|(apply OKx_assign;(conv=>lhs;whnf)<;>exact rfl)|(apply OKx_lenS;exact rfl)|(apply OKx_lss;exact rfl;exact rfl;all_goals (intro _; try (exfalso;omega)))|(apply OKx_gtr;exact rfl;exact rfl;all_goals (intro _; try (exfalso;omega)))|(apply OKx_eql;exact rfl;exact rfl;all_goals (intro _; try (exfalso;omega)))|(apply OKx_neq;exact rfl;exact rfl;all_goals (intro _; try (exfalso;omega)))|(apply OKx_sneq;exact rfl;exact rfl; all_goals intro _)|(apply OKx_idxS;exact rfl;exact rfl;omega)|(apply OKx_inc;exact rfl;exact rfl;omega)|(apply OKx_addN;exact rfl;exact rfl;omega)|(apply OKx_add;exact rfl;exact rfl;omega;omega)|(apply OKx_dec;exact rfl;exact rfl;omega;omega)|(apply OKx_subN;exact rfl;exact rfl;omega;omega)|(apply OKx_sub;exact rfl;exact rfl;omega;omega)|(apply OKx_min;exact rfl;exact rfl)|(apply OKx_pickT;exact rfl;(conv=>lhs;whnf)<;>exact rfl)|(apply OKx_pickF;exact rfl;(conv=>lhs;whnf)<;>exact rfl)|(apply OKx_guardT;exact rfl;exact rfl)|(apply OKx_guardF;exact rfl;exact rfl)|(apply OKx_guardU;exact rfl;exact rfl)|(apply OKx_notT;exact rfl)|(apply OKx_notF;exact rfl))
        refine ⟨by (repeat' (first | refine agree_upd rfl ?_ | exact agree_over | exact agree_refl _ _ | refine agree_over2 rfl ?_)), m - 1, _, by omega, Ent.refl _ _, ?_⟩
        refine ⟨k + 1, by omega, int_eq (by rw [pth, if_neg hkF, Int.add_zero]), rfl, fun j hj hj2 => ?_, rfl⟩
        exact H j (by omega) hj2
    obtain rfl : k = 3 := by omega
    have hall := all_dig (F := F) fun j hj => H j (by omega) hj
    have hpr := pth_rng F 3 H
    have e10 : (10 : Int) ^ 3 = 1000 := by decide
    rw [e10] at hpr
    rw [if_neg (hgood hall), ← pth_end F (by omega) (by omega)]
    generalize pth F 3 = M at *
    by_cases hbig : 1073741824 < W0 * 1000 + M
    · rw [finF1 hbig]
      repeat' (first|(apply OK_seq)|(apply thenQ_n)|(apply OK_region)|(apply OKx_gn; refine OKx_mul rfl rfl (by omega) (by omega) ?_)|(apply OKx_gn; refine OKx_add rfl rfl (by omega) (by omega) ?_)|(apply OKx_gn; refine OKx_mul rfl rfl (by omega) (by omega) ?_)|(apply OKx_gn; refine OKx_add rfl rfl (by omega) (by omega) ?_)|(apply OKx_nilK)|(apply OK_block)|(apply blockQ_n)|(apply blockQ_s)|(apply thenQ_e)|(apply blockQ_e;exact rfl)|(apply thenQ_r)|(apply blockQ_r)|(apply OK_condT;exact rfl)|(apply OK_condF;exact rfl)|(apply OK_skip)|(apply OK_exit)|(apply OK_ret)|(apply OKx_move;(conv=>lhs;whnf)<;>exact rfl)|(apply OKx_assign;(conv=>lhs;whnf)<;>exact rfl)|(apply OKx_lenS;exact rfl)|(apply OKx_lss;exact rfl;exact rfl;all_goals (intro _; try (exfalso;omega)))|(apply OKx_gtr;exact rfl;exact rfl;all_goals (intro _; try (exfalso;omega)))|(apply OKx_eql;exact rfl;exact rfl;all_goals (intro _; try (exfalso;omega)))|(apply OKx_neq;exact rfl;exact rfl;all_goals (intro _; try (exfalso;omega)))|(apply OKx_sneq;exact rfl;exact rfl; all_goals intro _)|(apply OKx_idxS;exact rfl;exact rfl;omega)|(apply OKx_inc;exact rfl;exact rfl;omega)|(apply OKx_addN;exact rfl;exact rfl;omega)|(apply OKx_add;exact rfl;exact rfl;omega;omega)|(apply OKx_dec;exact rfl;exact rfl;omega;omega)|(apply OKx_subN;exact rfl;exact rfl;omega;omega)|(apply OKx_sub;exact rfl;exact rfl;omega;omega)|(apply OKx_min;exact rfl;exact rfl)|(apply OKx_pickT;exact rfl;(conv=>lhs;whnf)<;>exact rfl)|(apply OKx_pickF;exact rfl;(conv=>lhs;whnf)<;>exact rfl)|(apply OKx_guardT;exact rfl;exact rfl)|(apply OKx_guardF;exact rfl;exact rfl)|(apply OKx_guardU;exact rfl;exact rfl)|(apply OKx_notT;exact rfl)|(apply OKx_notF;exact rfl))
      all_goals
        refine bodyQ_r2 (by ((conv=>lhs;whnf)<;>exact rfl)) (by ((conv=>lhs;whnf)<;>exact rfl)) ?_
        exact ⟨_, Ent.nil, rfl, rfl⟩
    · rw [finF2 (by omega)]
      repeat' (first|(apply OK_seq)|(apply thenQ_n)|(apply OK_region)|(apply OKx_gn; refine OKx_mul rfl rfl (by omega) (by omega) ?_)|(apply OKx_gn; refine OKx_add rfl rfl (by omega) (by omega) ?_)|(apply OKx_gn; refine OKx_mul rfl rfl (by omega) (by omega) ?_)|(apply OKx_gn; refine OKx_add rfl rfl (by omega) (by omega) ?_)|(apply OKx_nilK)|(apply OK_block)|(apply blockQ_n)|(apply blockQ_s)|(apply thenQ_e)|(apply blockQ_e;exact rfl)|(apply thenQ_r)|(apply blockQ_r)|(apply OK_condT;exact rfl)|(apply OK_condF;exact rfl)|(apply OK_skip)|(apply OK_exit)|(apply OK_ret)|(apply OKx_move;(conv=>lhs;whnf)<;>exact rfl)|(apply OKx_assign;(conv=>lhs;whnf)<;>exact rfl)|(apply OKx_lenS;exact rfl)|(apply OKx_lss;exact rfl;exact rfl;all_goals (intro _; try (exfalso;omega)))|(apply OKx_gtr;exact rfl;exact rfl;all_goals (intro _; try (exfalso;omega)))|(apply OKx_eql;exact rfl;exact rfl;all_goals (intro _; try (exfalso;omega)))|(apply OKx_neq;exact rfl;exact rfl;all_goals (intro _; try (exfalso;omega)))|(apply OKx_sneq;exact rfl;exact rfl; all_goals intro _)|(apply OKx_idxS;exact rfl;exact rfl;omega)|(apply OKx_inc;exact rfl;exact rfl;omega)|(apply OKx_addN;exact rfl;exact rfl;omega)|(apply OKx_add;exact rfl;exact rfl;omega;omega)|(apply OKx_dec;exact rfl;exact rfl;omega;omega)|(apply OKx_subN;exact rfl;exact rfl;omega;omega)|(apply OKx_sub;exact rfl;exact rfl;omega;omega)|(apply OKx_min;exact rfl;exact rfl)|(apply OKx_pickT;exact rfl;(conv=>lhs;whnf)<;>exact rfl)|(apply OKx_pickF;exact rfl;(conv=>lhs;whnf)<;>exact rfl)|(apply OKx_guardT;exact rfl;exact rfl)|(apply OKx_guardF;exact rfl;exact rfl)|(apply OKx_guardU;exact rfl;exact rfl)|(apply OKx_notT;exact rfl)|(apply OKx_notF;exact rfl))
      all_goals
        refine bodyQ_r2 (by ((conv=>lhs;whnf)<;>exact rfl)) (by ((conv=>lhs;whnf)<;>exact rfl)) ?_
        exact ⟨_, Ent.nil, rfl, rfl⟩
end Go.Proofs.YtkimmlhcaanfjaaDoor
namespace Go.Proofs.YtkimmlhcaanfjaaDoor
open Go.RowKit
set_option maxRecDepth 100000 in
set_option maxHeartbeats 4000000 in
theorem rParse_sat (s : List UInt8) (w : World) : SatV Tryd.prog 12 [.string (bOf s)] w (.tuple #[.int .i64 (refR s).1, .int .i64 (refR s).2]) := by
  have hz : (bOf s).size = s.length := bOf_size s
  by_cases hl : 65536 < s.length
  · have he : refR s = (0, 4) := if_pos hl
    rw [he]
    refine SatL.of 132 [2, 3] Tryd.func12 (by kernel_rfl) (by kernel_rfl) rfl rfl rfl rfl ?_
    repeat' (first|(apply OK_seq)|(apply thenQ_n)|(apply OK_region)|(apply OKx_nilK)|(apply OK_block)|(apply blockQ_n)|(apply blockQ_s)|(apply thenQ_e)|(apply blockQ_e;exact rfl)|(apply thenQ_r)|(apply blockQ_r)|(apply OK_condT;exact rfl)|(apply OK_condF;exact rfl)|(apply OK_skip)|(apply OK_exit)|(apply OK_ret)|(apply OKx_move;(conv=>lhs;whnf)<;>exact rfl)|(apply OKx_assign;(conv=>lhs;whnf)<;>exact rfl)|(apply OKx_lenS;exact rfl)|(apply OKx_lss;exact rfl;exact rfl;all_goals (intro _; try (exfalso;omega)))|(apply OKx_gtr;exact rfl;exact rfl;all_goals (intro _; try (exfalso;omega)))|(apply OKx_eql;exact rfl;exact rfl;all_goals (intro _; try (exfalso;omega)))|(apply OKx_neq;exact rfl;exact rfl;all_goals (intro _; try (exfalso;omega)))|(apply OKx_sneq;exact rfl;exact rfl; all_goals intro _)|(apply OKx_idxS;exact rfl;exact rfl;omega)|(apply OKx_inc;exact rfl;exact rfl;omega)|(apply OKx_addN;exact rfl;exact rfl;omega)|(apply OKx_add;exact rfl;exact rfl;omega;omega)|(apply OKx_dec;exact rfl;exact rfl;omega;omega)|(apply OKx_subN;exact rfl;exact rfl;omega;omega)|(apply OKx_sub;exact rfl;exact rfl;omega;omega)|(apply OKx_min;exact rfl;exact rfl)|(apply OKx_pickT;exact rfl;(conv=>lhs;whnf)<;>exact rfl)|(apply OKx_pickF;exact rfl;(conv=>lhs;whnf)<;>exact rfl)|(apply OKx_guardT;exact rfl;exact rfl)|(apply OKx_guardF;exact rfl;exact rfl)|(apply OKx_guardU;exact rfl;exact rfl)|(apply OKx_notT;exact rfl)|(apply OKx_notF;exact rfl))
    refine bodyQ_r2 (by ((conv=>lhs;whnf)<;>exact rfl)) (by ((conv=>lhs;whnf)<;>exact rfl)) ?_
    exact ⟨_, Ent.nil, rfl, rfl⟩
  by_cases h3 : s.length < 3
  · have he : refR s = (0, 3) := by unfold refR; rw [if_neg hl, if_pos (Or.inl h3)]
    rw [he]
    refine SatL.of 132 [2, 3] Tryd.func12 (by kernel_rfl) (by kernel_rfl) rfl rfl rfl rfl ?_
    repeat' (first|(apply OK_seq)|(apply thenQ_n)|(apply OK_region)|(apply OKx_nilK)|(apply OK_block)|(apply blockQ_n)|(apply blockQ_s)|(apply thenQ_e)|(apply blockQ_e;exact rfl)|(apply thenQ_r)|(apply blockQ_r)|(apply OK_condT;exact rfl)|(apply OK_condF;exact rfl)|(apply OK_skip)|(apply OK_exit)|(apply OK_ret)|(apply OKx_move;(conv=>lhs;whnf)<;>exact rfl)|(apply OKx_assign;(conv=>lhs;whnf)<;>exact rfl)|(apply OKx_lenS;exact rfl)|(apply OKx_lss;exact rfl;exact rfl;all_goals (intro _; try (exfalso;omega)))|(apply OKx_gtr;exact rfl;exact rfl;all_goals (intro _; try (exfalso;omega)))|(apply OKx_eql;exact rfl;exact rfl;all_goals (intro _; try (exfalso;omega)))|(apply OKx_neq;exact rfl;exact rfl;all_goals (intro _; try (exfalso;omega)))|(apply OKx_sneq;exact rfl;exact rfl; all_goals intro _)|(apply OKx_idxS;exact rfl;exact rfl;omega)|(apply OKx_inc;exact rfl;exact rfl;omega)|(apply OKx_addN;exact rfl;exact rfl;omega)|(apply OKx_add;exact rfl;exact rfl;omega;omega)|(apply OKx_dec;exact rfl;exact rfl;omega;omega)|(apply OKx_subN;exact rfl;exact rfl;omega;omega)|(apply OKx_sub;exact rfl;exact rfl;omega;omega)|(apply OKx_min;exact rfl;exact rfl)|(apply OKx_pickT;exact rfl;(conv=>lhs;whnf)<;>exact rfl)|(apply OKx_pickF;exact rfl;(conv=>lhs;whnf)<;>exact rfl)|(apply OKx_guardT;exact rfl;exact rfl)|(apply OKx_guardF;exact rfl;exact rfl)|(apply OKx_guardU;exact rfl;exact rfl)|(apply OKx_notT;exact rfl)|(apply OKx_notF;exact rfl))
    refine bodyQ_r2 (by ((conv=>lhs;whnf)<;>exact rfl)) (by ((conv=>lhs;whnf)<;>exact rfl)) ?_
    exact ⟨_, Ent.nil, rfl, rfl⟩
  by_cases hsf : s.drop (s.length - 2) = [112, 116]
  rotate_left
  · have he : refR s = (0, 3) := by unfold refR; rw [if_neg hl, if_pos (Or.inr hsf)]
    have hne : bOf (s.drop (s.length - 2)) ≠ ⟨#[112, 116]⟩ := fun e => hsf (bOf_inj (b := [112, 116]) e)
    rw [he]
    refine SatL.of 132 [2, 3] Tryd.func12 (by kernel_rfl) (by kernel_rfl) rfl rfl rfl rfl ?_
    repeat' (first|(apply OK_seq)|(apply thenQ_n)|(apply OK_region)|(apply OKx_gn; refine OKx_subN (a := s.length) (b := 2) rfl rfl (by omega) (by omega) ?_)|(refine OKx_sslL (l := s.length - 2) rfl rfl (by omega) rfl ?_)|(apply OKx_gn; apply OKx_sneq;exact rfl;exact rfl; all_goals (intro hs; first | (exfalso; exact hne hs) | skip))|(apply OKx_nilK)|(apply OK_block)|(apply blockQ_n)|(apply blockQ_s)|(apply thenQ_e)|(apply blockQ_e;exact rfl)|(apply thenQ_r)|(apply blockQ_r)|(apply OK_condT;exact rfl)|(apply OK_condF;exact rfl)|(apply OK_skip)|(apply OK_exit)|(apply OK_ret)|(apply OKx_move;(conv=>lhs;whnf)<;>exact rfl)|(apply OKx_assign;(conv=>lhs;whnf)<;>exact rfl)|(apply OKx_lenS;exact rfl)|(apply OKx_lss;exact rfl;exact rfl;all_goals (intro _; try (exfalso;omega)))|(apply OKx_gtr;exact rfl;exact rfl;all_goals (intro _; try (exfalso;omega)))|(apply OKx_eql;exact rfl;exact rfl;all_goals (intro _; try (exfalso;omega)))|(apply OKx_neq;exact rfl;exact rfl;all_goals (intro _; try (exfalso;omega)))|(apply OKx_sneq;exact rfl;exact rfl; all_goals intro _)|(apply OKx_idxS;exact rfl;exact rfl;omega)|(apply OKx_inc;exact rfl;exact rfl;omega)|(apply OKx_addN;exact rfl;exact rfl;omega)|(apply OKx_add;exact rfl;exact rfl;omega;omega)|(apply OKx_dec;exact rfl;exact rfl;omega;omega)|(apply OKx_subN;exact rfl;exact rfl;omega;omega)|(apply OKx_sub;exact rfl;exact rfl;omega;omega)|(apply OKx_min;exact rfl;exact rfl)|(apply OKx_pickT;exact rfl;(conv=>lhs;whnf)<;>exact rfl)|(apply OKx_pickF;exact rfl;(conv=>lhs;whnf)<;>exact rfl)|(apply OKx_guardT;exact rfl;exact rfl)|(apply OKx_guardF;exact rfl;exact rfl)|(apply OKx_guardU;exact rfl;exact rfl)|(apply OKx_notT;exact rfl)|(apply OKx_notF;exact rfl))
    refine bodyQ_r2 (by ((conv=>lhs;whnf)<;>exact rfl)) (by ((conv=>lhs;whnf)<;>exact rfl)) ?_
    exact ⟨_, Ent.nil, rfl, rfl⟩
  have he : refR s = refC (refRest s) (refNeg s) := by
    unfold refR
    rw [if_neg hl, if_neg (fun h => by rcases h with h | h; · exact h3 h
                                       · exact h hsf)]
  rw [he]
  obtain ⟨T0, hT⟩ : ∃ T0, T0 = s.take (s.length - 2) := ⟨_, rfl⟩
  have hT' : s.take (s.length - 2) = T0 := hT.symm
  by_cases hng : (T0.getD 0 0).toNat = 45
  · have hn1 : refNeg s = true := by unfold refNeg; rw [← hT]; exact decide_eq_true (u8_eq hng)
    have hr1 : refRest s = T0.drop 1 := by unfold refRest; rw [← hT, if_pos (u8_eq hng)]
    rw [hn1, hr1]
    obtain ⟨R, hR⟩ : ∃ R, R = T0.drop 1 := ⟨_, rfl⟩
    have hRd : T0.drop 1 = R := hR.symm
    rw [hRd]
    obtain ⟨D, hD⟩ : ∃ D, dgs R = D := ⟨_, rfl⟩
    obtain ⟨Q, hQd⟩ : ∃ Q, R.drop D.length = Q := ⟨_, rfl⟩
    by_cases hb : D.length = 0 ∨ (1 < D.length ∧ (R.getD 0 0).toNat = 48)
    · exact rP_AT_sat s T0 R D w hl h3 hsf hT' hRd hng hD hb
    by_cases hlt : D.length < R.length
    · by_cases hq : (Q.getD 0 0).toNat ≠ 46 ∨ Q.length < 2 ∨ 4 < Q.length ∨ (Q.getD (Q.length - 1) 0).toNat = 48
      · exact rP_CT_sat s T0 R D w hl h3 hsf hT' hRd hng hD Q hQd hb hlt hq
      · exact rP_DT_sat s T0 R D w hl h3 hsf hT' hRd hng hD Q hQd hb hlt hq
    · exact rP_BT_sat s T0 R D w hl h3 hsf hT' hRd hng hD hb hlt
  · have hn1 : refNeg s = false := by unfold refNeg; rw [← hT]; exact decide_eq_false (fun e => hng (by rw [e]; rfl))
    have hr1 : refRest s = T0 := by unfold refRest; rw [← hT, if_neg (fun e => hng (by rw [e]; rfl))]
    rw [hn1, hr1]
    obtain ⟨R, hR⟩ : ∃ R, R = T0 := ⟨_, rfl⟩
    have hRd : T0 = R := hR.symm
    rw [hRd]
    obtain ⟨D, hD⟩ : ∃ D, dgs R = D := ⟨_, rfl⟩
    obtain ⟨Q, hQd⟩ : ∃ Q, R.drop D.length = Q := ⟨_, rfl⟩
    by_cases hb : D.length = 0 ∨ (1 < D.length ∧ (R.getD 0 0).toNat = 48)
    · exact rP_AF_sat s T0 R D w hl h3 hsf hT' hRd hng hD hb
    by_cases hlt : D.length < R.length
    · by_cases hq : (Q.getD 0 0).toNat ≠ 46 ∨ Q.length < 2 ∨ 4 < Q.length ∨ (Q.getD (Q.length - 1) 0).toNat = 48
      · exact rP_CF_sat s T0 R D w hl h3 hsf hT' hRd hng hD Q hQd hb hlt hq
      · exact rP_DF_sat s T0 R D w hl h3 hsf hT' hRd hng hD Q hQd hb hlt hq
    · exact rP_BF_sat s T0 R D w hl h3 hsf hT' hRd hng hD hb hlt
end Go.Proofs.YtkimmlhcaanfjaaDoor
namespace Go.Proofs.YtkimmlhcaanfjaaDoor
open Go.RowKit
set_option maxRecDepth 100000 in
set_option maxHeartbeats 4000000 in
theorem FixedpointTexts_sat (n : Int) (s : ByteArray) (w : World) (h0 : -9223372036854775808 ≤ n ∧ n ≤ 9223372036854775807) (_ : s.size ≤ 140737488355328) (hm : MxL w) (ht : TbL w) :
    SatV Tryd.prog 3 [.int .i64 n, .string s] w (.bool true) := by
  obtain ⟨l, rfl⟩ : ∃ l, s = bOf l := ⟨s.data.toList, (bOf_data s).symm⟩
  have hz : (bOf l).size = l.length := bOf_size l
  have c1 := fun w1 (hb : Below w.heap.size w w1) => Parse_sat l w1 (hm.below hb)
  have c2 := fun w1 => rParse_sat l w1
  have c3 := fun w1 (hb : Below w.heap.size w w1) => Print_sat n w1 (ht.below hb) h0.1 h0.2
  have c4 := fun w1 (hb : Below w.heap.size w w1) => rPrint_sat n w1 (ht.below hb) h0.1 h0.2
  simp only [refR_eq] at c2
  by_cases hg : 40 < l.length ∧ l.length ≤ 65536 ∨ 65540 < l.length
  · refine SatL.of 75 [4] Tryd.func3 (by kernel_rfl) (by kernel_rfl) rfl rfl rfl rfl ?_
    repeat' (first|(apply OK_seq)|(apply thenQ_n)|(apply OK_region)|(apply OKx_gc 10;exact rfl; refine OKx_callV (f := 10) rfl rfl rfl (fun w1 hp => awake02_sat w1 (hm.below hp.below) (ht.below hp.below)) ?_)|(apply OKx_nilK)|(apply OK_block)|(apply blockQ_n)|(apply blockQ_s)|(apply thenQ_e)|(apply blockQ_e;exact rfl)|(apply thenQ_r)|(apply blockQ_r)|(apply OK_condT;exact rfl)|(apply OK_condF;exact rfl)|(apply OK_skip)|(apply OK_exit)|(apply OK_ret)|(apply OKx_move;(conv=>lhs;whnf)<;>exact rfl)|(apply OKx_assign;(conv=>lhs;whnf)<;>exact rfl)|(apply OKx_lenS;exact rfl)|(apply OKx_leq;exact rfl;exact rfl;all_goals (intro _; try (exfalso;omega)))|(apply OKx_gtr;exact rfl;exact rfl;all_goals (intro _; try (exfalso;omega)))|(apply OKx_eql;exact rfl;exact rfl;all_goals (intro _; try (exfalso;omega)))|(apply OKx_seql;exact rfl;exact rfl; all_goals intro _)|(apply OKx_pickT;exact rfl;(conv=>lhs;whnf)<;>exact rfl)|(apply OKx_pickF;exact rfl;(conv=>lhs;whnf)<;>exact rfl)|(apply OKx_guardT;exact rfl;exact rfl)|(apply OKx_guardF;exact rfl;exact rfl)|(apply OKx_guardU;exact rfl;exact rfl)|(apply OKx_extract;exact rfl;(conv=>lhs;whnf)<;>exact rfl))
    all_goals
      refine bodyQ_r1 (by ((conv=>lhs;whnf)<;>exact rfl)) ?_
      exact ⟨_, Ent.nil, rfl, rfl⟩
  · refine SatL.of 75 [4] Tryd.func3 (by kernel_rfl) (by kernel_rfl) rfl rfl rfl rfl ?_
    repeat' (first|(apply OK_seq)|(apply thenQ_n)|(apply OK_region)|(apply OKx_gc 10;exact rfl; refine OKx_callV (f := 10) rfl rfl rfl (fun w1 hp => awake02_sat w1 (hm.below hp.below) (ht.below hp.below)) ?_)|(apply OKx_gc 11;exact rfl; refine OKx_callV (f := 11) rfl rfl rfl (fun w1 hp => c1 w1 hp.below) ?_)|(apply OKx_gc 12;exact rfl; refine OKx_callV (f := 12) rfl rfl rfl (fun w1 hp => c2 w1) ?_)|(apply OKx_gc 13;exact rfl; refine OKx_callV (f := 13) rfl rfl rfl (fun w1 hp => c3 w1 hp.below) ?_)|(apply OKx_gc 14;exact rfl; refine OKx_callV (f := 14) rfl rfl rfl (fun w1 hp => c4 w1 hp.below) ?_)|(apply OKx_gc 15;exact rfl; refine OKx_callV (f := 15) rfl rfl rfl (fun w1 hp => chk_sat n w1) ?_)|(apply OKx_gc 16;exact rfl; refine OKx_callV (f := 16) rfl rfl rfl (fun w1 hp => rchk_sat n w1) ?_)|(apply OKx_gn; refine OKx_ieqT rfl rfl ?_)|(apply OKx_gn; apply OKx_seql;exact rfl;exact rfl; all_goals (intro hs; first | (exfalso; exact hs rfl) | skip))|(apply OKx_nilK)|(apply OK_block)|(apply blockQ_n)|(apply blockQ_s)|(apply thenQ_e)|(apply blockQ_e;exact rfl)|(apply thenQ_r)|(apply blockQ_r)|(apply OK_condT;exact rfl)|(apply OK_condF;exact rfl)|(apply OK_skip)|(apply OK_exit)|(apply OK_ret)|(apply OKx_move;(conv=>lhs;whnf)<;>exact rfl)|(apply OKx_assign;(conv=>lhs;whnf)<;>exact rfl)|(apply OKx_lenS;exact rfl)|(apply OKx_leq;exact rfl;exact rfl;all_goals (intro _; try (exfalso;omega)))|(apply OKx_gtr;exact rfl;exact rfl;all_goals (intro _; try (exfalso;omega)))|(apply OKx_eql;exact rfl;exact rfl;all_goals (intro _; try (exfalso;omega)))|(apply OKx_seql;exact rfl;exact rfl; all_goals intro _)|(apply OKx_pickT;exact rfl;(conv=>lhs;whnf)<;>exact rfl)|(apply OKx_pickF;exact rfl;(conv=>lhs;whnf)<;>exact rfl)|(apply OKx_guardT;exact rfl;exact rfl)|(apply OKx_guardF;exact rfl;exact rfl)|(apply OKx_guardU;exact rfl;exact rfl)|(apply OKx_extract;exact rfl;(conv=>lhs;whnf)<;>exact rfl))
    all_goals
      refine bodyQ_r1 (by ((conv=>lhs;whnf)<;>exact rfl)) ?_
      exact ⟨_, Ent.nil, rfl, rfl⟩
end Go.Proofs.YtkimmlhcaanfjaaDoor
namespace Go.Proofs.YtkimmlhcaanfjaaDoor
open Go.RowKit
theorem tbl_of {l : List (String × DataW Unit)} {W : World} (h : laidMetH Tryd.prog l W) (hf : l.filter (fun x => x.1 == "internal/strconv.uint64pow10") = [("internal/strconv.uint64pow10", Lib.tabData .u64 Lib.pow10Tab)]) : TbL W := by
  have h1 := h.filter (fun x => x.1 == "internal/strconv.uint64pow10")
  rw [hf, MakeChecks.laidMetH_plain _ _ _ (by rfl)] at h1
  exact Lib.tabIs_of_head (g := 1) (t := 95) (e := 61) (n := 20) (by kernel_rfl) (by kernel_rfl) Tryd.underlying95 Tryd.underlying61 (by kernel_rfl) (by kernel_rfl) h1
end Go.Proofs.YtkimmlhcaanfjaaDoor
