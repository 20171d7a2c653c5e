/-
  Part 28 of the proof: Qf27. No statement of the seat is proved here.
-/
import Derived.Test.YthnlnffmmioapaaGreatDoorMHCl2727
namespace Go.Proofs.YthnlnffmmioapaaGreatDoor
open Go.RowKit
theorem bOf_inj27 {a b : List UInt8} (h : bOf a = bOf b) : a = b := by
  have := congrArg (fun s => s.data.toList) h
  simpa [bOf] using this
set_option maxRecDepth 100000 in
set_option maxHeartbeats 4000000 in
theorem rk1_sat (x : Cnd) (hk : x.kind = 1) (xv bv rv : Value) (b : List ByteArray) (r : Rdn) (w : World) (hE : Exp w x xv) (hB : Strs w bv b) (hR : RdnV w r rv) (hb : wdsB b = true) (hr : rdgB r = true) : SatV Tryz.prog 35 [xv, bv, rv] w (.bool (leafH 1 x.num x.text b r.words r.src.length)) := by
  obtain ⟨pv, g, rfl, hs, hP, _⟩ := hE.shape
  obtain ⟨_, pa, pc, rfl, _⟩ := id hP
  obtain ⟨ba, bc, rfl, hbl, _⟩ := hB.at
  obtain ⟨wv, sv, rfl, hWv, hSv⟩ := hR
  obtain ⟨wa, wc, rfl, hwl, _⟩ := hWv.at
  obtain ⟨sa, sc, rfl, hsl, _⟩ := hSv.at
  have hrw : wdsB r.words = true := by
    unfold rdgB at hr
    rw [Bool.and_eq_true] at hr
    exact hr.2
  have hBs := hB.sl
  have hWs := hWv.sl
  rw [hk]
  refine SatL.of 203 [6] Tryz.func35 (by kernel_rfl) (by kernel_rfl) rfl rfl rfl rfl ?_
  repeat' (first|(apply OK_seq)|(apply thenQ_n)|(apply OK_region)|(apply OKx_nilK)|(apply OK_block)|(apply thenQ_r)|(apply blockQ_r)|(apply OK_condT;exact rfl)|(apply OK_ret)|(apply OKx_move;(conv=>lhs;whnf)<;>exact rfl)|(apply OKx_assign;(conv=>lhs;whnf)<;>exact rfl)|(apply OKx_ldB;exact rfl; (apply atP;constructor);exact rfl)|(apply OKx_len;exact rfl)|(apply OKx_gtr;exact rfl;exact rfl;all_goals (intro _; try (exfalso;omega)))|(apply OKx_eql;exact rfl;exact rfl;all_goals (intro _; try (exfalso;omega)))|(apply OKx_fldO;exact rfl;exact rfl)|(apply OKx_pickT;exact rfl;(conv=>lhs;whnf)<;>exact rfl)|(apply OKx_pickF;exact rfl;(conv=>lhs;whnf)<;>exact rfl)|(apply OKx_guardT;exact rfl;exact rfl)|(apply OKx_guardF;exact rfl;exact rfl)|(apply OKx_boxA;exact rfl;intro _))
  all_goals (try (exfalso;omega))
  all_goals
    refine bodyQ_r1 (by ((conv=>lhs;whnf)<;>exact rfl)) ?_
    refine ⟨_, Ent.nil, bool_eq ?_, rfl⟩
    show _ = (decide (0 < b.length) && decide (r.words.length = 0))
  all_goals first
    | (rw [decide_eq_true (show 0 < b.length by omega), decide_eq_true (show r.words.length = 0 by omega)]; rfl)
    | (rw [decide_eq_false (show ¬ 0 < b.length by omega)]; rfl)
    | (rw [decide_eq_false (show ¬ r.words.length = 0 by omega), Bool.and_false])
set_option maxRecDepth 100000 in
set_option maxHeartbeats 4000000 in
theorem rk2_sat (x : Cnd) (hk : x.kind = 2) (xv bv rv : Value) (b : List ByteArray) (r : Rdn) (w : World) (hE : Exp w x xv) (hB : Strs w bv b) (hR : RdnV w r rv) (hb : wdsB b = true) (hr : rdgB r = true) : SatV Tryz.prog 35 [xv, bv, rv] w (.bool (leafH 2 x.num x.text b r.words r.src.length)) := by
  obtain ⟨pv, g, rfl, hs, hP, _⟩ := hE.shape
  obtain ⟨_, pa, pc, rfl, _⟩ := id hP
  obtain ⟨ba, bc, rfl, hbl, _⟩ := hB.at
  obtain ⟨wv, sv, rfl, hWv, hSv⟩ := hR
  obtain ⟨wa, wc, rfl, hwl, _⟩ := hWv.at
  obtain ⟨sa, sc, rfl, hsl, _⟩ := hSv.at
  have hrw : wdsB r.words = true := by
    unfold rdgB at hr
    rw [Bool.and_eq_true] at hr
    exact hr.2
  have hBs := hB.sl
  have hWs := hWv.sl
  rw [hk]
  refine SatL.of 203 [6] Tryz.func35 (by kernel_rfl) (by kernel_rfl) rfl rfl rfl rfl ?_
  repeat' (first|(apply OK_seq)|(apply thenQ_n)|(apply OK_region)|(apply OKx_nilK)|(apply OK_block)|(apply thenQ_r)|(apply blockQ_r)|(apply OK_condT;exact rfl)|(apply OK_condF;exact rfl)|(apply OK_ret)|(apply OKx_move;(conv=>lhs;whnf)<;>exact rfl)|(apply OKx_assign;(conv=>lhs;whnf)<;>exact rfl)|(apply OKx_ldB;exact rfl; (apply atP;constructor);exact rfl)|(apply OKx_len;exact rfl)|(apply OKx_gtr;exact rfl;exact rfl;all_goals (intro _; try (exfalso;omega)))|(apply OKx_eql;exact rfl;exact rfl;all_goals (intro _; try (exfalso;omega)))|(apply OKx_fldO;exact rfl;exact rfl)|(apply OKx_pickT;exact rfl;(conv=>lhs;whnf)<;>exact rfl)|(apply OKx_pickF;exact rfl;(conv=>lhs;whnf)<;>exact rfl)|(apply OKx_guardT;exact rfl;exact rfl)|(apply OKx_guardF;exact rfl;exact rfl)|(apply OKx_boxA;exact rfl;intro _))
  all_goals (try (exfalso;omega))
  all_goals
    refine bodyQ_r1 (by ((conv=>lhs;whnf)<;>exact rfl)) ?_
    refine ⟨_, Ent.nil, bool_eq ?_, rfl⟩
    show _ = (decide (b.length = 0) && decide (0 < r.words.length))
  all_goals first
    | (rw [decide_eq_true (show b.length = 0 by omega), decide_eq_true (show 0 < r.words.length by omega)]; rfl)
    | (rw [decide_eq_false (show ¬ b.length = 0 by omega)]; rfl)
    | (rw [decide_eq_false (show ¬ 0 < r.words.length by omega), Bool.and_false])
set_option maxRecDepth 100000 in
set_option maxHeartbeats 4000000 in
theorem rk3_sat (x : Cnd) (hk : x.kind = 3) (xv bv rv : Value) (b : List ByteArray) (r : Rdn) (w : World) (hE : Exp w x xv) (hB : Strs w bv b) (hR : RdnV w r rv) (hb : wdsB b = true) (hr : rdgB r = true) : SatV Tryz.prog 35 [xv, bv, rv] w (.bool (leafH 3 x.num x.text b r.words r.src.length)) := by
  obtain ⟨pv, g, rfl, hs, hP, _⟩ := hE.shape
  obtain ⟨_, pa, pc, rfl, _⟩ := id hP
  obtain ⟨ba, bc, rfl, hbl, _⟩ := hB.at
  obtain ⟨wv, sv, rfl, hWv, hSv⟩ := hR
  obtain ⟨wa, wc, rfl, hwl, _⟩ := hWv.at
  obtain ⟨sa, sc, rfl, hsl, _⟩ := hSv.at
  have hrw : wdsB r.words = true := by
    unfold rdgB at hr
    rw [Bool.and_eq_true] at hr
    exact hr.2
  have hBs := hB.sl
  have hWs := hWv.sl
  rw [hk]
  refine SatL.of 203 [6] Tryz.func35 (by kernel_rfl) (by kernel_rfl) rfl rfl rfl rfl ?_
  repeat' (first|(apply OK_seq)|(apply thenQ_n)|(apply OK_region)|(apply OKx_gc 46;exact rfl; refine OKx_callB (f := 46) (b := decide (b = r.words)) rfl rfl rfl (fun w1 hp => same27_sat _ _ b r.words w1 (hB.below hp.below) (hWv.below hp.below)) ?_ ?_ <;> intro q1)|(apply OKx_nilK)|(apply OK_block)|(apply thenQ_r)|(apply blockQ_r)|(apply OK_condT;exact rfl)|(apply OK_condF;exact rfl)|(apply OK_ret)|(apply OKx_move;(conv=>lhs;whnf)<;>exact rfl)|(apply OKx_assign;(conv=>lhs;whnf)<;>exact rfl)|(apply OKx_ldB;exact rfl; (apply atP;constructor);exact rfl)|(apply OKx_len;exact rfl)|(apply OKx_gtr;exact rfl;exact rfl;all_goals (intro _; try (exfalso;omega)))|(apply OKx_eql;exact rfl;exact rfl;all_goals (intro _; try (exfalso;omega)))|(apply OKx_fldO;exact rfl;exact rfl)|(apply OKx_pickT;exact rfl;(conv=>lhs;whnf)<;>exact rfl)|(apply OKx_pickF;exact rfl;(conv=>lhs;whnf)<;>exact rfl)|(apply OKx_guardT;exact rfl;exact rfl)|(apply OKx_guardF;exact rfl;exact rfl)|(apply OKx_notT;exact rfl)|(apply OKx_notF;exact rfl)|(apply OKx_boxA;exact rfl;intro _))
  all_goals (try (exfalso;omega))
  all_goals
    refine bodyQ_r1 (by ((conv=>lhs;whnf)<;>exact rfl)) ?_
    refine ⟨_, Ent.nil, bool_eq ?_, rfl⟩
    show _ = (decide (0 < b.length) && (decide (0 < r.words.length) && !decide (b = r.words)))
  all_goals first
    | (rw [decide_eq_true (show 0 < b.length by omega), decide_eq_true (show 0 < r.words.length by omega), q1]; rfl)
    | (rw [decide_eq_false (show ¬ 0 < b.length by omega)]; rfl)
    | (rw [decide_eq_false (show ¬ 0 < r.words.length by omega), Bool.false_and, Bool.and_false])
set_option maxRecDepth 100000 in
set_option maxHeartbeats 4000000 in
theorem rk6_sat (x : Cnd) (hk : x.kind = 6) (xv bv rv : Value) (b : List ByteArray) (r : Rdn) (w : World) (hE : Exp w x xv) (hB : Strs w bv b) (hR : RdnV w r rv) (hb : wdsB b = true) (hr : rdgB r = true) : SatV Tryz.prog 35 [xv, bv, rv] w (.bool (leafH 6 x.num x.text b r.words r.src.length)) := by
  obtain ⟨pv, g, rfl, hs, hP, _⟩ := hE.shape
  obtain ⟨_, pa, pc, rfl, _⟩ := id hP
  obtain ⟨ba, bc, rfl, hbl, _⟩ := hB.at
  obtain ⟨wv, sv, rfl, hWv, hSv⟩ := hR
  obtain ⟨wa, wc, rfl, hwl, _⟩ := hWv.at
  obtain ⟨sa, sc, rfl, hsl, _⟩ := hSv.at
  have hrw : wdsB r.words = true := by
    unfold rdgB at hr
    rw [Bool.and_eq_true] at hr
    exact hr.2
  have hBs := hB.sl
  have hWs := hWv.sl
  rw [hk]
  refine SatL.of 203 [6] Tryz.func35 (by kernel_rfl) (by kernel_rfl) rfl rfl rfl rfl ?_
  repeat' (first|(apply OK_seq)|(apply thenQ_n)|(apply OK_region)|(apply OKx_nilK)|(apply OK_block)|(apply thenQ_r)|(apply blockQ_r)|(apply OK_condT;exact rfl)|(apply OK_condF;exact rfl)|(apply OK_ret)|(apply OKx_assign;(conv=>lhs;whnf)<;>exact rfl)|(apply OKx_ldB;exact rfl; (apply atP;constructor);exact rfl)|(apply OKx_len;exact rfl)|(apply OKx_leq;exact rfl;exact rfl;all_goals (intro _; try (exfalso;omega)))|(apply OKx_eql;exact rfl;exact rfl;all_goals (intro _; try (exfalso;omega)))|(apply OKx_fldO;exact rfl;exact rfl)|(apply OKx_boxA;exact rfl;intro _))
  all_goals (try (exfalso;omega))
  all_goals
    refine bodyQ_r1 (by ((conv=>lhs;whnf)<;>exact rfl)) ?_
    refine ⟨_, Ent.nil, bool_eq ?_, rfl⟩
    show _ = decide ((r.words.length : Int) ≤ x.num)
  all_goals first
    | rw [decide_eq_true (by assumption)]
    | rw [decide_eq_false (by omega)]
set_option maxRecDepth 100000 in
set_option maxHeartbeats 4000000 in
theorem rk7_sat (x : Cnd) (hk : x.kind = 7) (xv bv rv : Value) (b : List ByteArray) (r : Rdn) (w : World) (hE : Exp w x xv) (hB : Strs w bv b) (hR : RdnV w r rv) (hb : wdsB b = true) (hr : rdgB r = true) : SatV Tryz.prog 35 [xv, bv, rv] w (.bool (leafH 7 x.num x.text b r.words r.src.length)) := by
  obtain ⟨pv, g, rfl, hs, hP, _⟩ := hE.shape
  obtain ⟨_, pa, pc, rfl, _⟩ := id hP
  obtain ⟨ba, bc, rfl, hbl, _⟩ := hB.at
  obtain ⟨wv, sv, rfl, hWv, hSv⟩ := hR
  obtain ⟨wa, wc, rfl, hwl, _⟩ := hWv.at
  obtain ⟨sa, sc, rfl, hsl, _⟩ := hSv.at
  have hrw : wdsB r.words = true := by
    unfold rdgB at hr
    rw [Bool.and_eq_true] at hr
    exact hr.2
  have hBs := hB.sl
  have hWs := hWv.sl
  rw [hk]
  refine SatL.of 203 [6] Tryz.func35 (by kernel_rfl) (by kernel_rfl) rfl rfl rfl rfl ?_
  repeat' (first|(apply OK_seq)|(apply thenQ_n)|(apply OK_region)|(apply OKx_nilK)|(apply OK_block)|(apply thenQ_r)|(apply blockQ_r)|(apply OK_condT;exact rfl)|(apply OK_condF;exact rfl)|(apply OK_ret)|(apply OKx_assign;(conv=>lhs;whnf)<;>exact rfl)|(apply OKx_ldB;exact rfl; (apply atP;constructor);exact rfl)|(apply OKx_len;exact rfl)|(apply OKx_geq;exact rfl;exact rfl;all_goals (intro _; try (exfalso;omega)))|(apply OKx_eql;exact rfl;exact rfl;all_goals (intro _; try (exfalso;omega)))|(apply OKx_fldO;exact rfl;exact rfl)|(apply OKx_boxA;exact rfl;intro _))
  all_goals (try (exfalso;omega))
  all_goals
    refine bodyQ_r1 (by ((conv=>lhs;whnf)<;>exact rfl)) ?_
    refine ⟨_, Ent.nil, bool_eq ?_, rfl⟩
    show _ = decide (x.num ≤ (r.src.length : Int))
  all_goals first
    | rw [decide_eq_true (by omega)]
    | rw [decide_eq_false (by omega)]
set_option maxRecDepth 100000 in
set_option maxHeartbeats 4000000 in
theorem rk8_sat (x : Cnd) (hk : x.kind = 8) (xv bv rv : Value) (b : List ByteArray) (r : Rdn) (w : World) (hE : Exp w x xv) (hB : Strs w bv b) (hR : RdnV w r rv) (hb : wdsB b = true) (hr : rdgB r = true) : SatV Tryz.prog 35 [xv, bv, rv] w (.bool (leafH 8 x.num x.text b r.words r.src.length)) := by
  obtain ⟨pv, g, rfl, hs, hP, _⟩ := hE.shape
  obtain ⟨_, pa, pc, rfl, _⟩ := id hP
  obtain ⟨ba, bc, rfl, hbl, _⟩ := hB.at
  obtain ⟨wv, sv, rfl, hWv, hSv⟩ := hR
  obtain ⟨wa, wc, rfl, hwl, _⟩ := hWv.at
  obtain ⟨sa, sc, rfl, hsl, _⟩ := hSv.at
  have hrw : wdsB r.words = true := by
    unfold rdgB at hr
    rw [Bool.and_eq_true] at hr
    exact hr.2
  have hBs := hB.sl
  have hWs := hWv.sl
  rw [hk]
  have hM := fun w1 (h : Below w.heap.size w w1) => some27_sat x.text _ b w1 hs (hB.below h)
  refine SatL.of 203 [6] Tryz.func35 (by kernel_rfl) (by kernel_rfl) rfl rfl rfl rfl ?_
  repeat' (first|(apply OK_seq)|(apply thenQ_n)|(apply OK_region)|(apply OKx_gc 62;exact rfl; refine OKx_callV (f := 62) rfl rfl rfl (fun w1 hp => hM w1 hp.below) ?_)|(apply OKx_nilK)|(apply OK_block)|(apply thenQ_r)|(apply blockQ_r)|(apply OK_condT;exact rfl)|(apply OK_condF;exact rfl)|(apply OK_ret)|(apply OKx_move;(conv=>lhs;whnf)<;>exact rfl)|(apply OKx_assign;(conv=>lhs;whnf)<;>exact rfl)|(apply OKx_ldB;exact rfl; (apply atP;constructor);exact rfl)|(apply OKx_eql;exact rfl;exact rfl;all_goals (intro _; try (exfalso;omega)))|(apply OKx_fldO;exact rfl;exact rfl)|(apply OKx_boxA;exact rfl;intro _))
  all_goals (try (exfalso;omega))
  all_goals
    refine bodyQ_r1 (by ((conv=>lhs;whnf)<;>exact rfl)) ?_
    refine ⟨_, Ent.nil, bool_eq ?_, rfl⟩
    rfl
set_option maxRecDepth 100000 in
set_option maxHeartbeats 4000000 in
theorem rk9_sat (x : Cnd) (hk : x.kind = 9) (xv bv rv : Value) (b : List ByteArray) (r : Rdn) (w : World) (hE : Exp w x xv) (hB : Strs w bv b) (hR : RdnV w r rv) (hb : wdsB b = true) (hr : rdgB r = true) : SatV Tryz.prog 35 [xv, bv, rv] w (.bool (leafH 9 x.num x.text b r.words r.src.length)) := by
  obtain ⟨pv, g, rfl, hs, hP, _⟩ := hE.shape
  obtain ⟨_, pa, pc, rfl, _⟩ := id hP
  obtain ⟨ba, bc, rfl, hbl, _⟩ := hB.at
  obtain ⟨wv, sv, rfl, hWv, hSv⟩ := hR
  obtain ⟨wa, wc, rfl, hwl, _⟩ := hWv.at
  obtain ⟨sa, sc, rfl, hsl, _⟩ := hSv.at
  have hrw : wdsB r.words = true := by
    unfold rdgB at hr
    rw [Bool.and_eq_true] at hr
    exact hr.2
  have hBs := hB.sl
  have hWs := hWv.sl
  rw [hk]
  have hM := fun w1 (h : Below w.heap.size w w1) => some27_sat x.text _ r.words w1 hs (hWv.below h)
  refine SatL.of 203 [6] Tryz.func35 (by kernel_rfl) (by kernel_rfl) rfl rfl rfl rfl ?_
  repeat' (first|(apply OK_seq)|(apply thenQ_n)|(apply OK_region)|(apply OKx_gc 62;exact rfl; refine OKx_callV (f := 62) rfl rfl rfl (fun w1 hp => hM w1 hp.below) ?_)|(apply OKx_nilK)|(apply OK_block)|(apply thenQ_r)|(apply blockQ_r)|(apply OK_condT;exact rfl)|(apply OK_condF;exact rfl)|(apply OK_ret)|(apply OKx_assign;(conv=>lhs;whnf)<;>exact rfl)|(apply OKx_ldB;exact rfl; (apply atP;constructor);exact rfl)|(apply OKx_eql;exact rfl;exact rfl;all_goals (intro _; try (exfalso;omega)))|(apply OKx_fldO;exact rfl;exact rfl)|(apply OKx_boxA;exact rfl;intro _))
  all_goals (try (exfalso;omega))
  all_goals
    refine bodyQ_r1 (by ((conv=>lhs;whnf)<;>exact rfl)) ?_
    refine ⟨_, Ent.nil, bool_eq ?_, rfl⟩
    rfl
set_option maxRecDepth 100000 in
set_option maxHeartbeats 4000000 in
theorem rk5_sat (x : Cnd) (hk : x.kind = 5) (xv bv rv : Value) (b : List ByteArray) (r : Rdn) (w : World) (hE : Exp w x xv) (hB : Strs w bv b) (hR : RdnV w r rv) (hb : wdsB b = true) (hr : rdgB r = true) : SatV Tryz.prog 35 [xv, bv, rv] w (.bool (leafH 5 x.num x.text b r.words r.src.length)) := by
  obtain ⟨pv, g, rfl, hs, hP, _⟩ := hE.shape
  obtain ⟨_, pa, pc, rfl, _⟩ := id hP
  obtain ⟨ba, bc, rfl, hbl, _⟩ := hB.at
  obtain ⟨wv, sv, rfl, hWv, hSv⟩ := hR
  obtain ⟨wa, wc, rfl, hwl, _⟩ := hWv.at
  obtain ⟨sa, sc, rfl, hsl, _⟩ := hSv.at
  have hrw : wdsB r.words = true := by
    unfold rdgB at hr
    rw [Bool.and_eq_true] at hr
    exact hr.2
  have hBs := hB.sl
  have hWs := hWv.sl
  rw [hk]
  have hsb := ((wdsB_iff b).1 hb)
  have hsw := ((wdsB_iff r.words).1 hrw)
  have hJ1 := fun w1 (h : Below w.heap.size w w1) => join27_sat _ b w1 (hB.below h) hsb.1 (fun y hy => (hsb.2 y hy).2.1)
  have hJ2 := fun w1 (h : Below w.heap.size w w1) => join27_sat _ r.words w1 (hWv.below h) hsw.1 (fun y hy => (hsw.2 y hy).2.1)
  have l1 := jnS_len 64 b (fun y hy => (hsb.2 y hy).2.1)
  have l2 := jnS_len 64 r.words (fun y hy => (hsw.2 y hy).2.1)
  have hD := fun w1 => rDistance_sat (jnS b) (jnS r.words) w1 (by omega) (by omega)
  have hlf : leafH 5 x.num x.text b r.words r.src.length = nearB b r.words x.num := rfl
  rw [hlf]
  unfold nearB
  unfold dstE at hD
  by_cases h : 256 < max (jnS b).length (jnS r.words).length
  · rw [if_pos h, if_pos h] at hD
    rw [decide_eq_false (by omega), Bool.false_and]
    refine SatL.of 203 [6] Tryz.func35 (by kernel_rfl) (by kernel_rfl) rfl rfl rfl rfl ?_
    repeat' (first|(apply OK_seq)|(apply thenQ_n)|(apply OK_region)|(apply OKx_gc 61;exact rfl; refine OKx_callV (f := 61) rfl rfl rfl (fun w1 hp => hJ1 w1 hp.below) ?_)|(apply OKx_gc 61;exact rfl; refine OKx_callV (f := 61) rfl rfl rfl (fun w1 hp => hJ2 w1 hp.below) ?_)|(apply OKx_gc 60;exact rfl; refine OKx_callV (f := 60) rfl rfl rfl (fun w1 hp => hD w1) ?_)|(refine OK_rid 16 ?_; refine OK_quiet (id := 16) (by kernel_rfl) (by kernel_rfl) ?_)|(apply OKx_nilK)|(apply OK_block)|(apply thenQ_r)|(apply blockQ_r)|(apply OK_condT;exact rfl)|(apply OK_condF;exact rfl)|(apply OK_ret)|(apply OKx_move;(conv=>lhs;whnf)<;>exact rfl)|(apply OKx_assign;(conv=>lhs;whnf)<;>exact rfl)|(apply OKx_ldB;exact rfl; (apply atP;constructor);exact rfl)|(apply OKx_eql;exact rfl;exact rfl;all_goals (intro _; try (exfalso;omega)))|(apply OKx_fldO;exact rfl;exact rfl)|(apply OKx_pickF;exact rfl;(conv=>lhs;whnf)<;>exact rfl)|(apply OKx_guardF;exact rfl;exact rfl)|(apply OKx_extract;exact rfl;(conv=>lhs;whnf)<;>exact rfl)|(apply OKx_boxA;exact rfl;intro _))
    all_goals (try (exfalso;omega))
    all_goals
      refine bodyQ_r1 (by ((conv=>lhs;whnf)<;>exact rfl)) ?_
      exact ⟨_, Ent.nil, rfl, rfl⟩
  · rw [if_neg h, if_neg h] at hD
    rw [decide_eq_true (by omega), Bool.true_and]
    generalize lev (jnS b) (jnS r.words) = dd at hD
    refine SatL.of 203 [6] Tryz.func35 (by kernel_rfl) (by kernel_rfl) rfl rfl rfl rfl ?_
    repeat' (first|(apply OK_seq)|(apply thenQ_n)|(apply OK_region)|(apply OKx_gc 61;exact rfl; refine OKx_callV (f := 61) rfl rfl rfl (fun w1 hp => hJ1 w1 hp.below) ?_)|(apply OKx_gc 61;exact rfl; refine OKx_callV (f := 61) rfl rfl rfl (fun w1 hp => hJ2 w1 hp.below) ?_)|(apply OKx_gc 60;exact rfl; refine OKx_callV (f := 60) rfl rfl rfl (fun w1 hp => hD w1) ?_)|(refine OK_rid 16 ?_; refine OK_quiet (id := 16) (by kernel_rfl) (by kernel_rfl) ?_)|(apply OKx_nilK)|(apply OK_block)|(apply thenQ_r)|(apply blockQ_r)|(apply OK_condT;exact rfl)|(apply OK_condF;exact rfl)|(apply OK_ret)|(apply OKx_move;(conv=>lhs;whnf)<;>exact rfl)|(apply OKx_assign;(conv=>lhs;whnf)<;>exact rfl)|(apply OKx_ldB;exact rfl; (apply atP;constructor);exact rfl)|(apply OKx_leq;exact rfl;exact rfl;all_goals (intro _; try (exfalso;omega)))|(apply OKx_eql;exact rfl;exact rfl;all_goals (intro _; try (exfalso;omega)))|(apply OKx_fldO;exact rfl;exact rfl)|(apply OKx_pickT;exact rfl;(conv=>lhs;whnf)<;>exact rfl)|(apply OKx_guardT;exact rfl;exact rfl)|(apply OKx_extract;exact rfl;(conv=>lhs;whnf)<;>exact rfl)|(apply OKx_boxA;exact rfl;intro _))
    all_goals (try (exfalso;omega))
    all_goals
      refine bodyQ_r1 (by ((conv=>lhs;whnf)<;>exact rfl)) ?_
      refine ⟨_, Ent.nil, bool_eq ?_, rfl⟩
    all_goals first
      | rw [decide_eq_true (by omega)]
      | rw [decide_eq_false (by omega)]
set_option maxRecDepth 100000 in
set_option maxHeartbeats 4000000 in
theorem rk4_sat (x : Cnd) (hk : x.kind = 4) (xv bv rv : Value) (b : List ByteArray) (r : Rdn) (w : World) (hE : Exp w x xv) (hB : Strs w bv b) (hR : RdnV w r rv) (hb : wdsB b = true) (hr : rdgB r = true) : SatV Tryz.prog 35 [xv, bv, rv] w (.bool (leafH 4 x.num x.text b r.words r.src.length)) := by
  obtain ⟨pv, g, rfl, hs, hP, _⟩ := hE.shape
  obtain ⟨_, pa, pc, rfl, _⟩ := id hP
  obtain ⟨ba, bc, rfl, hbl, _⟩ := hB.at
  obtain ⟨wv, sv, rfl, hWv, hSv⟩ := hR
  obtain ⟨wa, wc, rfl, hwl, _⟩ := hWv.at
  obtain ⟨sa, sc, rfl, hsl, _⟩ := hSv.at
  have hrw : wdsB r.words = true := by
    unfold rdgB at hr
    rw [Bool.and_eq_true] at hr
    exact hr.2
  have hBs := hB.sl
  have hWs := hWv.sl
  rw [hk]
  have hlf : leafH 4 x.num x.text b r.words r.src.length = (!decide (b = r.words) && decide (b.Perm r.words)) := rfl
  rw [hlf]
  have hpc := perm_counts b r.words
  refine SatL.of 203 [6] Tryz.func35 (by kernel_rfl) (by kernel_rfl) rfl rfl rfl rfl ?_
  repeat' (first|(apply OK_seq)|(apply thenQ_n)|(apply OK_region)|(refine OKx_boxA (e := 24) rfl ?_; intro gx)|(refine OKx_boxA (e := 33) rfl ?_; intro gr)|(apply OKx_nilK)|(apply OK_block)|(apply OK_condT;exact rfl)|(apply OK_condF;exact rfl)|(apply OKx_assign;(conv=>lhs;whnf)<;>exact rfl)|(apply OKx_ldB;exact rfl; (apply atP;constructor);exact rfl)|(apply OKx_eql;exact rfl;exact rfl;all_goals (intro _; try (exfalso;omega)))|(apply OKx_fldO;exact rfl;exact rfl))
  all_goals (try (exfalso;omega))
  refine OK_loop1 7 [6, 7, 57, 58, 59, 60, 61, 62, 63, 64, 65, 66, 67, 68, 69, 70, 71, 72, 73, 74, 75, 76] (fun m v L => ∃ j : Nat, j + m = b.length ∧ v = .int .i64 (j : Int) ∧ (∀ i, i < j → cntB b (b.getD i ByteArray.empty) = cntB r.words (b.getD i ByteArray.empty)) ∧ L = [.box 33 gr [.slice wa r.words.length wc, .slice sa r.src.length sc]]) b.length _ (Ent.pick [0] rfl) ⟨0, by omega, rfl, fun i hi => absurd hi (by omega), rfl⟩ ?_
  rintro m v' L G ⟨j, hm, rfl, H, rfl⟩
  by_cases hj : j < b.length
  · have hd : b.getD j ByteArray.empty = b[j] := getD_lt _ _ _ hj
    have hc1 := fun w1 (h : Below w.heap.size w w1) => count_sat _ b (b.getD j ByteArray.empty) w1 (hB.below h)
    have hc2 := fun w1 (h : Below w.heap.size w w1) => count_sat _ r.words (b.getD j ByteArray.empty) w1 (hWv.below h)
    repeat' (first|(apply OK_seq)|(apply thenQ_n)|(apply OK_region)|(apply OKx_gc 51;exact rfl; refine OKx_callV (f := 51) rfl rfl rfl (fun w1 hp => hc1 w1 hp.below) ?_)|(apply OKx_gc 51;exact rfl; refine OKx_callV (f := 51) rfl rfl rfl (fun w1 hp => hc2 w1 hp.below) ?_)|(refine OK_rid 12 ?_; refine OK_quiet (id := 12) (by kernel_rfl) (by kernel_rfl) ?_)|(apply OKx_nilK)|(apply OK_block)|(apply blockQ_n)|(apply thenQ_r)|(apply blockQ_r)|(apply OK_condT;exact rfl)|(apply OK_condF;exact rfl)|(apply OK_skip)|(apply OK_ret)|(apply OKx_move;(conv=>lhs;whnf)<;>exact rfl)|(apply OKx_assign;(conv=>lhs;whnf)<;>exact rfl)|(apply OKx_ldB;exact rfl; (apply atP;constructor);exact rfl)|(apply OKx_ldR;(conv=>lhs;whnf)<;>exact rfl;(with_reducible assumption))|(apply OKx_len;exact rfl)|(apply OKx_lss;exact rfl;exact rfl;all_goals (intro _; try (exfalso;omega)))|(apply OKx_neq;exact rfl;exact rfl;all_goals (intro _; try (exfalso;omega)))|(apply OKx_idxR;(conv=>lhs;whnf)<;>exact rfl;(with_reducible assumption);exact rfl;omega;intro _ _)|(apply OKx_fldO;exact rfl;exact rfl)|(apply OKx_inc;exact rfl;exact rfl;omega))
    all_goals (try (exfalso;omega))
    all_goals first
      | (refine ⟨by (repeat' (first | refine agree_upd rfl ?_ | exact agree_over | exact agree_refl _ _ | refine agree_over2 rfl ?_)), m - 1, _, by omega, Ent.refl _ _, ?_⟩
         refine ⟨j + 1, by omega, rfl, fun i hi => ?_, rfl⟩
         by_cases e : i = j
         · subst e;omega
         · exact H i (by omega))
      | ((refine bodyQ_r1 (by ((conv=>lhs;whnf)<;>exact rfl)) ?_)
         refine ⟨_, Ent.nil, bool_eq ?_, rfl⟩
         rw [decide_eq_false (show ¬ b.Perm r.words from fun hp => by
           have := (hpc.1 hp).2 _ (show b.getD j ByteArray.empty ∈ b by rw [hd]; exact List.getElem_mem hj)
           omega), Bool.and_false])
  · obtain rfl : j = b.length := by omega
    have hall : ∀ y ∈ b, cntB b y = cntB r.words y := fun y hy => by
      obtain ⟨i, hi, rfl⟩ := List.getElem_of_mem hy
      have := H i hi
      rwa [getD_lt _ _ _ hi] at this
    repeat' (first|(apply OK_seq)|(apply thenQ_n)|(apply OK_region)|(apply OKx_gc 46;exact rfl; refine OKx_callB (f := 46) (b := decide (b = r.words)) rfl rfl rfl (fun w1 hp => same27_sat _ _ b r.words w1 (hB.below hp.below) (hWv.below hp.below)) ?_ ?_ <;> intro q1)|(apply OKx_nilK)|(apply blockQ_s)|(apply thenQ_e)|(apply thenQ_r)|(apply blockQ_r)|(apply OK_condF;exact rfl)|(apply OK_exit)|(apply OK_ret)|(apply OKx_move;(conv=>lhs;whnf)<;>exact rfl)|(apply OKx_assign;(conv=>lhs;whnf)<;>exact rfl)|(apply OKx_ldB;exact rfl; (apply atP;constructor);exact rfl)|(apply OKx_len;exact rfl)|(apply OKx_lss;exact rfl;exact rfl;all_goals (intro _; try (exfalso;omega)))|(apply OKx_eql;exact rfl;exact rfl;all_goals (intro _; try (exfalso;omega)))|(apply OKx_fldO;exact rfl;exact rfl)|(apply OKx_pickT;exact rfl;(conv=>lhs;whnf)<;>exact rfl)|(apply OKx_pickF;exact rfl;(conv=>lhs;whnf)<;>exact rfl)|(apply OKx_guardT;exact rfl;exact rfl)|(apply OKx_guardF;exact rfl;exact rfl)|(apply OKx_notT;exact rfl)|(apply OKx_notF;exact rfl))
    all_goals (try (exfalso;omega))
    all_goals
      refine bodyQ_r1 (by ((conv=>lhs;whnf)<;>exact rfl)) ?_
      refine ⟨_, Ent.nil, bool_eq ?_, rfl⟩
    all_goals first
      | (rw [q1, decide_eq_true (hpc.2 ⟨by omega, hall⟩)]; rfl)
      | (rw [q1]; rfl)
      | (rw [decide_eq_false (show ¬ b.Perm r.words from fun hp => by have := (hpc.1 hp).1;omega), Bool.and_false])
set_option maxRecDepth 100000 in
set_option maxHeartbeats 4000000 in
theorem rk10_sat (x : Cnd) (hk : x.kind = 10) (xv bv rv : Value) (b : List ByteArray) (r : Rdn) (w : World) (hE : Exp w x xv) (hB : Strs w bv b) (hR : RdnV w r rv) (hb : wdsB b = true) (hr : rdgB r = true) : SatV Tryz.prog 35 [xv, bv, rv] w (.bool (leafH 10 x.num x.text b r.words r.src.length)) := by
  obtain ⟨pv, g, rfl, hs, hP, _⟩ := hE.shape
  obtain ⟨_, pa, pc, rfl, _⟩ := id hP
  obtain ⟨ba, bc, rfl, hbl, _⟩ := hB.at
  obtain ⟨wv, sv, rfl, hWv, hSv⟩ := hR
  obtain ⟨wa, wc, rfl, hwl, _⟩ := hWv.at
  obtain ⟨sa, sc, rfl, hsl, _⟩ := hSv.at
  have hrw : wdsB r.words = true := by
    unfold rdgB at hr
    rw [Bool.and_eq_true] at hr
    exact hr.2
  have hBs := hB.sl
  have hWs := hWv.sl
  rw [hk]
  have hlf : leafH 10 x.num x.text b r.words r.src.length = decide (b.map (fun w => simL (byts w)) = r.words.map fun w => simL (byts w)) := rfl
  rw [hlf, ← map_sim]
  have hsb := ((wdsB_iff b).1 hb)
  have hsw := ((wdsB_iff r.words).1 hrw)
  have hPl := fun (s : ByteArray) w1 (h : s.size ≤ 64) => rPlain_sat (byts s) w1 (by rw [byts_len];omega)
  have hFo := fun (s : ByteArray) w1 (h : s.size ≤ 64) => rFold_sat ((byts s).filter fun c => !mkC c) w1 (Nat.le_trans (List.length_filter_le _ _) (by rw [byts_len];omega))
  have hPb : ∀ (s : ByteArray) w1, s.size ≤ 64 → SatV Tryz.prog 64 [.string s] w1 (.string (bOf ((byts s).filter fun c => !mkC c))) := fun s w1 h => by
    have := hPl s w1 h
    rwa [show bOf (byts s) = s from bOf_data s] at this
  have hFb : ∀ (s : ByteArray) w1, s.size ≤ 64 → SatV Tryz.prog 63 [.string (bOf ((byts s).filter fun c => !mkC c))] w1 (.string (bOf (simL (byts s)))) := fun s w1 h => hFo s w1 h
  by_cases hlen : b.length = r.words.length
  rotate_left
  · rw [decide_eq_false hlen, Bool.false_and]
    refine SatL.of 203 [6] Tryz.func35 (by kernel_rfl) (by kernel_rfl) rfl rfl rfl rfl ?_
    repeat' (first|(apply OK_seq)|(apply thenQ_n)|(apply OK_region)|(apply OKx_nilK)|(apply OK_block)|(apply thenQ_r)|(apply blockQ_r)|(apply OK_condT;exact rfl)|(apply OK_condF;exact rfl)|(apply OK_ret)|(apply OKx_move;(conv=>lhs;whnf)<;>exact rfl)|(apply OKx_assign;(conv=>lhs;whnf)<;>exact rfl)|(apply OKx_ldB;exact rfl; (apply atP;constructor);exact rfl)|(apply OKx_len;exact rfl)|(apply OKx_eql;exact rfl;exact rfl;all_goals (intro _; try (exfalso;omega)))|(apply OKx_neq;exact rfl;exact rfl;all_goals (intro _; try (exfalso;omega)))|(apply OKx_fldO;exact rfl;exact rfl)|(apply OKx_boxA;exact rfl;intro _))
    all_goals (try (exfalso;omega))
    all_goals
      refine bodyQ_r1 (by ((conv=>lhs;whnf)<;>exact rfl)) ?_
      exact ⟨_, Ent.nil, rfl, rfl⟩
  rw [decide_eq_true hlen, Bool.true_and]
  refine SatL.of 203 [6] Tryz.func35 (by kernel_rfl) (by kernel_rfl) rfl rfl rfl rfl ?_
  repeat' (first|(apply OK_seq)|(apply thenQ_n)|(apply OK_region)|(refine OKx_boxA (e := 24) rfl ?_; intro gx)|(refine OKx_boxA (e := 33) rfl ?_; intro gr)|(apply OKx_nilK)|(apply OK_block)|(apply OK_condT;exact rfl)|(apply OK_condF;exact rfl)|(apply OK_skip)|(apply OKx_move;(conv=>lhs;whnf)<;>exact rfl)|(apply OKx_assign;(conv=>lhs;whnf)<;>exact rfl)|(apply OKx_ldB;exact rfl; (apply atP;constructor);exact rfl)|(apply OKx_len;exact rfl)|(apply OKx_eql;exact rfl;exact rfl;all_goals (intro _; try (exfalso;omega)))|(apply OKx_neq;exact rfl;exact rfl;all_goals (intro _; try (exfalso;omega)))|(apply OKx_fldO;exact rfl;exact rfl))
  all_goals (try (exfalso;omega))
  refine OK_loop1 10 [6, 10, 146, 147, 148, 149, 150, 151, 152, 153, 154, 155, 156, 157, 158, 159, 160, 161, 162, 163, 164, 165] (fun m v L => ∃ j : Nat, j + m = b.length ∧ v = .int .i64 (j : Int) ∧ (∀ i, i < j → simL (byts (b.getD i ByteArray.empty)) = simL (byts (r.words.getD i ByteArray.empty))) ∧ L = [.box 33 gr [.slice wa r.words.length wc, .slice sa r.src.length sc]]) b.length _ (Ent.pick [0] rfl) ⟨0, by omega, rfl, fun i hi => absurd hi (by omega), rfl⟩ ?_
  rintro m v' L G ⟨j, hm, rfl, H, rfl⟩
  by_cases hj : j < b.length
  · have z1 : (b.getD j ByteArray.empty).size ≤ 64 := by
      rw [getD_lt _ _ _ hj]
      exact (hsb.2 _ (List.getElem_mem hj)).2.1
    have z2 : (r.words.getD j ByteArray.empty).size ≤ 64 := by
      rw [getD_lt _ _ _ (by omega)]
      exact (hsw.2 _ (List.getElem_mem (by omega))).2.1
    have p1 := fun w1 => hPb (b.getD j ByteArray.empty) w1 z1
    have f1 := fun w1 => hFb (b.getD j ByteArray.empty) w1 z1
    have p2 := fun w1 => hPb (r.words.getD j ByteArray.empty) w1 z2
    have f2 := fun w1 => hFb (r.words.getD j ByteArray.empty) w1 z2
    repeat' (first|(apply OK_seq)|(apply thenQ_n)|(apply OK_region)|(apply OKx_gc 64;exact rfl; refine OKx_callV (f := 64) rfl rfl rfl (fun w1 hp => p1 w1) ?_)|(apply OKx_gc 63;exact rfl; refine OKx_callV (f := 63) rfl rfl rfl (fun w1 hp => f1 w1) ?_)|(apply OKx_gc 64;exact rfl; refine OKx_callV (f := 64) rfl rfl rfl (fun w1 hp => p2 w1) ?_)|(apply OKx_gc 63;exact rfl; refine OKx_callV (f := 63) rfl rfl rfl (fun w1 hp => f2 w1) ?_)|(refine OK_rid 32 ?_; refine OK_quiet (id := 32) (by kernel_rfl) (by kernel_rfl) ?_)|(apply OKx_nilK)|(apply OK_block)|(apply blockQ_n)|(apply thenQ_r)|(apply blockQ_r)|(apply OK_condT;exact rfl)|(apply OK_condF;exact rfl)|(apply OK_skip)|(apply OK_ret)|(apply OKx_move;(conv=>lhs;whnf)<;>exact rfl)|(apply OKx_assign;(conv=>lhs;whnf)<;>exact rfl)|(apply OKx_ldB;exact rfl; (apply atP;constructor);exact rfl)|(apply OKx_ldR;(conv=>lhs;whnf)<;>exact rfl;(with_reducible assumption))|(apply OKx_len;exact rfl)|(apply OKx_lss;exact rfl;exact rfl;all_goals (intro _; try (exfalso;omega)))|(apply OKx_sneq;exact rfl;exact rfl; all_goals intro _)|(apply OKx_idxR;(conv=>lhs;whnf)<;>exact rfl;(with_reducible assumption);exact rfl;omega;intro _ _)|(apply OKx_fldO;exact rfl;exact rfl)|(apply OKx_inc;exact rfl;exact rfl;omega))
    all_goals (try (exfalso;omega))
    all_goals first
      | (refine ⟨by (repeat' (first | refine agree_upd rfl ?_ | exact agree_over | exact agree_refl _ _ | refine agree_over2 rfl ?_)), m - 1, _, by omega, Ent.refl _ _, ?_⟩
         refine ⟨j + 1, by omega, rfl, fun i hi => ?_, rfl⟩
         by_cases e : i = j
         · subst e
           exact bOf_inj27 (by assumption)
         · exact H i (by omega))
      | ((refine bodyQ_r1 (by ((conv=>lhs;whnf)<;>exact rfl)) ?_)
         refine ⟨_, Ent.nil, bool_eq ?_, rfl⟩
         rw [eq_comm, List.all_eq_false]
         refine ⟨j, List.mem_range.2 hj, ?_⟩
         rw [decide_eq_true_eq]
         intro e
         exact absurd (congrArg bOf e) (by assumption))
  · obtain rfl : j = b.length := by omega
    repeat' (first|(apply OK_seq)|(apply thenQ_n)|(apply OK_region)|(apply OKx_nilK)|(apply blockQ_s)|(apply thenQ_e)|(apply thenQ_r)|(apply blockQ_r)|(apply OK_condF;exact rfl)|(apply OK_exit)|(apply OK_ret)|(apply OKx_move;(conv=>lhs;whnf)<;>exact rfl)|(apply OKx_assign;(conv=>lhs;whnf)<;>exact rfl)|(apply OKx_len;exact rfl)|(apply OKx_lss;exact rfl;exact rfl;all_goals (intro _; try (exfalso;omega))))
    all_goals (try (exfalso;omega))
    refine bodyQ_r1 (by ((conv=>lhs;whnf)<;>exact rfl)) ?_
    refine ⟨_, Ent.nil, bool_eq ?_, rfl⟩
    rw [eq_comm, List.all_eq_true]
    intro i hi
    rw [decide_eq_true_eq]
    exact H i (List.mem_range.1 hi)
end Go.Proofs.YthnlnffmmioapaaGreatDoor
