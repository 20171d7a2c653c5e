/-
  Part 23 of the proof: Cl27. No statement of the seat is proved here.
-/
import Derived.Test.YthnlnffmmioapaaGreatDoorMHHo2722
namespace Go.Proofs.YthnlnffmmioapaaGreatDoor
open Go.RowKit
set_option maxRecDepth 100000 in
set_option maxHeartbeats 4000000 in
theorem class_sat (lv cv : Value) (rs : List Rul) (b : List ByteArray) (r : Rdn) (w : World) (hR : Ruls w lv rs) (hQ : QueV w b r cv) (hkf : KfL w) (hb : wdsB b = true) (hr : rdgB r = true) (ho : ∀ x ∈ rs, x.cnd.own = true) :
    SatV Tryz.prog 48 [lv, cv] w (.string (clsN rs b r)) := by
  obtain ⟨g, hS, hE, hcp⟩ := hR
  obtain ⟨hbd, la, lc, rfl, _⟩ := id hS
  have hQ0 := hQ
  obtain ⟨bv, wv, sv, rfl, hB, hW, hSr⟩ := hQ
  refine SatL.of 20 [4] Tryz.func48 (by kernel_rfl) (by kernel_rfl) rfl rfl rfl rfl ?_
  repeat' (first|(apply OK_seq)|(apply thenQ_n)|(apply OK_region)|(apply OKx_nilK)|(apply OK_block)|(apply blockQ_n)|(apply blockQ_s)|(apply thenQ_e)|(apply blockQ_e;exact rfl)|(apply thenQ_r)|(apply blockQ_r)|(apply OK_condT;exact rfl)|(apply OK_condF;exact rfl)|(apply OK_skip)|(apply OK_exit)|(apply OK_ret)|(apply OKx_move;(conv=>lhs;whnf)<;>exact rfl)|(apply OKx_assign;(conv=>lhs;whnf)<;>exact rfl)|(apply OKx_ldB;exact rfl; (apply atP;constructor);exact rfl)|(apply OKx_ldR;(conv=>lhs;whnf)<;>exact rfl;(with_reducible assumption))|(apply OKx_len;exact rfl)|(apply OKx_lenR;(conv=>lhs;whnf)<;>exact rfl;(with_reducible assumption))|(apply OKx_lenR2;(conv=>lhs;whnf)<;>exact rfl;(with_reducible assumption))|(apply OKx_lenO;(conv=>lhs;whnf)<;>exact rfl; (apply atP;constructor))|(apply OKx_lss;exact rfl;exact rfl;all_goals (intro _; try (exfalso;omega)))|(apply OKx_idxR2;(conv=>lhs;whnf)<;>exact rfl;(with_reducible assumption);exact rfl;omega;intro _ _)|(apply OKx_fldO;exact rfl;exact rfl)|(apply OKx_fldR;(conv=>lhs;whnf)<;>exact rfl;(with_reducible assumption); decide;intro _ _)|(apply OKx_inc;exact rfl;exact rfl;omega)|(apply OKx_addN;exact rfl;exact rfl;omega)|(apply OKx_add;exact rfl;exact rfl;omega;omega)|(apply OKx_boxA;exact rfl;intro _)|(apply OKx_allocA;intro _)|(apply OKx_ldBA;exact rfl; (apply atP;constructor);exact rfl)|(apply OKx_ldRA;(conv=>lhs;whnf)<;>exact rfl;(with_reducible assumption))|(apply OKx_stBA; kernel_rfl;exact rfl;exact rfl;exact rfl; (apply atP;constructor);exact rfl;exact rfl;exact rfl))
  rename_i gc
  refine OK_loop1 9 [4, 6, 9, 10, 11, 12, 13, 14, 15, 16, 17, 18, 19] (fun m v L => ∃ j : Nat, j + m = rs.length ∧ v = .int .i64 (j : Int) ∧ (∀ x ∈ rs.take j, x.cnd.hd b r.words r.src.length = false) ∧ L = [.box 63 gc [bv, wv, sv]]) rs.length _ (Ent.refl _ _) ⟨0, by omega, rfl, by simp, rfl⟩ ?_
  rintro m vj L G ⟨j, hm, rfl, H, rfl⟩
  by_cases hj : j < rs.length
  · obtain ⟨aj, cj, hag, hX, hnz⟩ := (hE j hj).lit
    have heq : ((List.range 5).map (g j)).toArray = #[.string rs[j].name, .int .i64 rs[j].cnd.kind, .int .i64 rs[j].cnd.num, .string rs[j].cnd.text, .slice aj rs[j].cnd.parts.length cj] := Value.agg.inj hag
    have hH := fun w1 (h : Below w.heap.size w w1) => holds_sat _ rs[j].cnd (Nat.le_refl _) (ho _ (List.getElem_mem hj)) _ _ b r w1 (hX.below h) (hQ0.below h) (hkf.below h) hb hr
    repeat' (first|(apply OK_seq)|(apply thenQ_n)|(apply OK_region)|(apply OKx_gi; refine OKx_idxR2 (i := j) rfl hS rfl hj ?_; intro pp hpp)|(apply OKx_gl; refine OKx_ldRA rfl hpp ?_; rw [heq])|(apply OKx_gl; refine OKx_ldB1 0 rfl rfl rfl ?_)|(apply OKx_gc 31;exact rfl; refine OKx_callB (f := 31) rfl rfl rfl (fun w1 hp => hH w1 hp.below) ?_ ?_ <;> intro hq)|(apply OKx_nilK)|(apply OK_block)|(apply blockQ_n)|(apply blockQ_s)|(apply thenQ_e)|(apply blockQ_e;exact rfl)|(apply thenQ_r)|(apply blockQ_r)|(apply OK_condT;exact rfl)|(apply OK_condF;exact rfl)|(apply OK_skip)|(apply OK_exit)|(apply OK_ret)|(apply OKx_move;(conv=>lhs;whnf)<;>exact rfl)|(apply OKx_assign;(conv=>lhs;whnf)<;>exact rfl)|(apply OKx_ldB;exact rfl; (apply atP;constructor);exact rfl)|(apply OKx_ldR;(conv=>lhs;whnf)<;>exact rfl;(with_reducible assumption))|(apply OKx_len;exact rfl)|(apply OKx_lenR;(conv=>lhs;whnf)<;>exact rfl;(with_reducible assumption))|(apply OKx_lenR2;(conv=>lhs;whnf)<;>exact rfl;(with_reducible assumption))|(apply OKx_lenO;(conv=>lhs;whnf)<;>exact rfl; (apply atP;constructor))|(apply OKx_lss;exact rfl;exact rfl;all_goals (intro _; try (exfalso;omega)))|(apply OKx_idxR2;(conv=>lhs;whnf)<;>exact rfl;(with_reducible assumption);exact rfl;omega;intro _ _)|(apply OKx_fldO;exact rfl;exact rfl)|(apply OKx_fldR;(conv=>lhs;whnf)<;>exact rfl;(with_reducible assumption); decide;intro _ _)|(apply OKx_inc;exact rfl;exact rfl;omega)|(apply OKx_addN;exact rfl;exact rfl;omega)|(apply OKx_add;exact rfl;exact rfl;omega;omega)|(apply OKx_boxA;exact rfl;intro _)|(apply OKx_allocA;intro _)|(apply OKx_ldBA;exact rfl; (apply atP;constructor);exact rfl)|(apply OKx_ldRA;(conv=>lhs;whnf)<;>exact rfl;(with_reducible assumption))|(apply OKx_stBA; kernel_rfl;exact rfl;exact rfl;exact rfl; (apply atP;constructor);exact rfl;exact rfl;exact rfl))
    · refine bodyQ_r1 (by ((conv=>lhs;whnf)<;>exact rfl)) ?_
      exact ⟨_, Ent.nil, by rw [clsN_skip j hj H hq], rfl⟩
    · refine ⟨by (repeat' (first | refine agree_upd rfl ?_ | exact agree_over | exact agree_refl _ _ | refine agree_over2 rfl ?_)), m - 1, _, by omega, Ent.pick [1] rfl, ?_⟩
      refine ⟨j + 1, by omega, rfl, fun x hx => ?_, rfl⟩
      rw [List.take_succ_eq_append_getElem hj] at hx
      rcases List.mem_append.1 hx with hx | hx
      · exact H x hx
      · rw [List.mem_singleton.1 hx]; exact hq
  · obtain rfl : j = rs.length := by omega
    rw [List.take_length] at H
    repeat' (first|(apply OK_seq)|(apply thenQ_n)|(apply OK_region)|(apply OKx_nilK)|(apply OK_block)|(apply blockQ_n)|(apply blockQ_s)|(apply thenQ_e)|(apply blockQ_e;exact rfl)|(apply thenQ_r)|(apply blockQ_r)|(apply OK_condT;exact rfl)|(apply OK_condF;exact rfl)|(apply OK_skip)|(apply OK_exit)|(apply OK_ret)|(apply OKx_move;(conv=>lhs;whnf)<;>exact rfl)|(apply OKx_assign;(conv=>lhs;whnf)<;>exact rfl)|(apply OKx_ldB;exact rfl; (apply atP;constructor);exact rfl)|(apply OKx_ldR;(conv=>lhs;whnf)<;>exact rfl;(with_reducible assumption))|(apply OKx_len;exact rfl)|(apply OKx_lenR;(conv=>lhs;whnf)<;>exact rfl;(with_reducible assumption))|(apply OKx_lenR2;(conv=>lhs;whnf)<;>exact rfl;(with_reducible assumption))|(apply OKx_lenO;(conv=>lhs;whnf)<;>exact rfl; (apply atP;constructor))|(apply OKx_lss;exact rfl;exact rfl;all_goals (intro _; try (exfalso;omega)))|(apply OKx_idxR2;(conv=>lhs;whnf)<;>exact rfl;(with_reducible assumption);exact rfl;omega;intro _ _)|(apply OKx_fldO;exact rfl;exact rfl)|(apply OKx_fldR;(conv=>lhs;whnf)<;>exact rfl;(with_reducible assumption); decide;intro _ _)|(apply OKx_inc;exact rfl;exact rfl;omega)|(apply OKx_addN;exact rfl;exact rfl;omega)|(apply OKx_add;exact rfl;exact rfl;omega;omega)|(apply OKx_boxA;exact rfl;intro _)|(apply OKx_allocA;intro _)|(apply OKx_ldBA;exact rfl; (apply atP;constructor);exact rfl)|(apply OKx_ldRA;(conv=>lhs;whnf)<;>exact rfl;(with_reducible assumption))|(apply OKx_stBA; kernel_rfl;exact rfl;exact rfl;exact rfl; (apply atP;constructor);exact rfl;exact rfl;exact rfl))
    refine bodyQ_r1 (by ((conv=>lhs;whnf)<;>exact rfl)) ?_
    exact ⟨_, Ent.nil, by rw [clsN_none H], rfl⟩
theorem rul_own {rs : List Rul} (h : rulE rs = 0) : ∀ x ∈ rs, x.cnd.own = true := fun x hx => (rgtE_zero (rulE_ok h x hx).2.2.2).2
set_option maxRecDepth 100000 in
set_option maxHeartbeats 4000000 in
theorem Class_sat (lv bv rv : Value) (rs : List Rul) (b : List ByteArray) (r : Rdn) (w : World) (hR : Ruls w lv rs) (hB : Strs w bv b) (hRd : RdnV w r rv) (hkd : KdL w) (hkf : KfL w) (ht : TbL w) :
    SatV Tryz.prog 19 [lv, bv, rv] w (.tuple #[.string (claN rs b r), .int .i64 (claE rs b r)]) := by
  have hC := fun w1 (h : Below w.heap.size w w1) => Check_sat lv rs w1 (hR.below h) (hkd.below h) (ht.below h)
  have hW := fun w1 (h : Below w.heap.size w w1) => words_sat bv b w1 (hB.below h)
  have hG := fun w1 (h : Below w.heap.size w w1) => reading_sat rv r w1 (hRd.below h)
  have hR0 := hR
  obtain ⟨g, hS, _⟩ := hR
  obtain ⟨_, la, lc, rfl, _⟩ := id hS
  obtain ⟨ba, bc, rfl, hbl, _⟩ := hB.at
  obtain ⟨wv, sv, rfl, hWv, hSv⟩ := hRd
  obtain ⟨wa, wc, rfl, hwl, _⟩ := hWv.at
  obtain ⟨sa, sc, rfl, hsl, _⟩ := hSv.at
  by_cases h0 : rulE rs = 0 ∧ wdsB b = true ∧ rdgB r = true
  · have e0 : claE rs b r = 0 := claE_zero.2 h0
    have hH := fun w1 (h : Below w.heap.size w w1) => class_sat _ (.agg #[.slice ba b.length bc, .slice wa r.words.length wc, .slice sa r.src.length sc]) rs b r w1 (hR0.below h) ⟨_, _, _, rfl, hB.below h, hWv.below h, hSv.below h⟩ (hkf.below h) h0.2.1 h0.2.2 (rul_own h0.1)
    rw [h0.1] at hC
    rw [h0.2.1] at hW
    rw [h0.2.2] at hG
    rw [show claN rs b r = clsN rs b r from if_pos e0, e0]
    refine SatL.of 26 [6, 7] Tryz.func19 (by kernel_rfl) (by kernel_rfl) rfl rfl rfl rfl ?_
    repeat' (first|(apply OK_seq)|(apply thenQ_n)|(apply OK_region)|(apply OKx_gc 42;exact rfl; refine OKx_callV (f := 42) rfl rfl rfl (fun w1 hp => hC w1 hp.below) ?_)|(apply OKx_gc 29;exact rfl; refine OKx_callV (f := 29) rfl rfl rfl (fun w1 hp => hW w1 hp.below) ?_)|(apply OKx_gc 30;exact rfl; refine OKx_callV (f := 30) rfl rfl rfl (fun w1 hp => hG w1 hp.below) ?_)|(apply OKx_gc 48;exact rfl; refine OKx_callV (f := 48) rfl rfl rfl (fun w1 hp => hH w1 hp.below) ?_)|(refine OKx_buildG [(0, .slice ba b.length bc), (1, .agg #[.slice wa r.words.length wc, .slice sa r.src.length sc])] #[.slice ba b.length bc, .slice wa r.words.length wc, .slice sa r.src.length sc] rfl (que_build _ _ _ _ _ _ _ _ _) ?_)|(apply OKx_nilK)|(apply OK_block)|(apply blockQ_n)|(apply blockQ_s)|(apply thenQ_e)|(apply blockQ_e;exact rfl)|(apply thenQ_r)|(apply blockQ_r)|(apply OK_condT;exact rfl)|(apply OK_condF;exact rfl)|(apply OK_skip)|(apply OK_exit)|(apply OK_ret)|(apply OKx_move;(conv=>lhs;whnf)<;>exact rfl)|(apply OKx_assign;(conv=>lhs;whnf)<;>exact rfl)|(apply OKx_neq;exact rfl;exact rfl;all_goals (intro _; try (exfalso;omega)))|(apply OKx_pickT;exact rfl;(conv=>lhs;whnf)<;>exact rfl)|(apply OKx_pickF;exact rfl;(conv=>lhs;whnf)<;>exact rfl)|(apply OKx_guardT;exact rfl;exact rfl)|(apply OKx_guardF;exact rfl;exact rfl)|(apply OKx_guardU;exact rfl;exact rfl)|(apply OKx_notT;exact rfl)|(apply OKx_notF;exact rfl)|(apply OKx_boxA;exact rfl;intro _)|(apply OKx_ldBA;exact rfl; (apply atP;constructor);exact rfl)|(apply OKx_ldRA;(conv=>lhs;whnf)<;>exact rfl;(with_reducible assumption))|(apply OKx_build2;(conv=>lhs;whnf)<;>exact rfl;(conv=>lhs;whnf)<;>exact rfl;exact rfl;exact rfl))
    refine bodyQ_r2 (by ((conv=>lhs;whnf)<;>exact rfl)) (by ((conv=>lhs;whnf)<;>exact rfl)) ?_
    exact ⟨_, Ent.nil, rfl, rfl⟩
  · have e0 : claE rs b r = 1 := if_neg h0
    rw [show claN rs b r = ⟨#[]⟩ from if_neg (by rw [e0]; decide), e0]
    refine SatL.of 26 [6, 7] Tryz.func19 (by kernel_rfl) (by kernel_rfl) rfl rfl rfl rfl ?_
    repeat' (first|(apply OK_seq)|(apply thenQ_n)|(apply OK_region)|(apply OKx_gc 42;exact rfl; refine OKx_callV (f := 42) rfl rfl rfl (fun w1 hp => hC w1 hp.below) ?_)|(apply OKx_gc 29;exact rfl; refine OKx_callB (f := 29) rfl rfl rfl (fun w1 hp => hW w1 hp.below) ?_ ?_ <;> intro q2)|(apply OKx_gc 30;exact rfl; refine OKx_callB (f := 30) rfl rfl rfl (fun w1 hp => hG w1 hp.below) ?_ ?_ <;> intro q3; (try exact absurd ⟨by assumption, q2, q3⟩ h0))|(apply OKx_nilK)|(apply OK_block)|(apply blockQ_n)|(apply blockQ_s)|(apply thenQ_e)|(apply blockQ_e;exact rfl)|(apply thenQ_r)|(apply blockQ_r)|(apply OK_condT;exact rfl)|(apply OK_condF;exact rfl)|(apply OK_skip)|(apply OK_exit)|(apply OK_ret)|(apply OKx_move;(conv=>lhs;whnf)<;>exact rfl)|(apply OKx_assign;(conv=>lhs;whnf)<;>exact rfl)|(apply OKx_neq;exact rfl;exact rfl;all_goals (intro _; try (exfalso;omega)))|(apply OKx_pickT;exact rfl;(conv=>lhs;whnf)<;>exact rfl)|(apply OKx_pickF;exact rfl;(conv=>lhs;whnf)<;>exact rfl)|(apply OKx_guardT;exact rfl;exact rfl)|(apply OKx_guardF;exact rfl;exact rfl)|(apply OKx_guardU;exact rfl;exact rfl)|(apply OKx_notT;exact rfl)|(apply OKx_notF;exact rfl)|(apply OKx_boxA;exact rfl;intro _)|(apply OKx_ldBA;exact rfl; (apply atP;constructor);exact rfl)|(apply OKx_ldRA;(conv=>lhs;whnf)<;>exact rfl;(with_reducible assumption))|(apply OKx_build2;(conv=>lhs;whnf)<;>exact rfl;(conv=>lhs;whnf)<;>exact rfl;exact rfl;exact rfl))
    all_goals
      refine bodyQ_r2 (by ((conv=>lhs;whnf)<;>exact rfl)) (by ((conv=>lhs;whnf)<;>exact rfl)) ?_
      exact ⟨_, Ent.nil, rfl, rfl⟩
end Go.Proofs.YthnlnffmmioapaaGreatDoor
