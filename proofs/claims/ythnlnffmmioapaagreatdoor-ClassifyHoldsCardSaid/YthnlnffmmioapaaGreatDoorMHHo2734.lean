/-
  Part 34 of the proof: Qe27, Qg27. No statement of the seat is proved here.
-/
import Derived.Test.YthnlnffmmioapaaGreatDoorMHHo2733
namespace Go.Proofs.YthnlnffmmioapaaGreatDoor
open Go.RowKit
set_option maxRecDepth 100000 in
set_option maxHeartbeats 4000000 in
theorem rexpr_sat (v : Value) (x : Cnd) (w : World) (h : Exp w x v) : SatV Tryz.prog 74 [v] w (.int .i64 (rgtE x)) := by
  have hS := fun w1 (hb1 : Below w.heap.size w w1) => size_sat 16 (by omega) x 65536 v w1 (h.below hb1) (by omega)
  have hO := fun w1 (hb1 : Below w.heap.size w w1) => rright_sat _ x (Nat.le_refl _) v w1 (h.below hb1)
  obtain ⟨pv, g, rfl, hs, hP, hE⟩ := h.shape
  have hm : sizB x 16 65536 = mesB x := rfl
  unfold rgtE
  cases hb : mesB x <;> rw [hm, hb] at hS
  · rw [if_pos rfl]
    refine SatL.of 15 [2] Tryz.func74 (by kernel_rfl) (by kernel_rfl) rfl rfl rfl rfl ?_
    repeat' (first|(apply OK_seq)|(apply thenQ_n)|(apply OK_region)|(apply OKx_gc 25;exact rfl; refine OKx_callV (f := 25) rfl rfl rfl (fun w1 hp => hS w1 hp.below) ?_)|(apply OKx_nilK)|(apply OK_block)|(apply blockQ_n)|(apply blockQ_s)|(apply thenQ_e)|(apply blockQ_e;exact rfl)|(apply thenQ_r)|(apply blockQ_r)|(apply OK_condT;exact rfl)|(apply OK_condF;exact rfl)|(apply OK_skip)|(apply OK_exit)|(apply OK_ret)|(apply OKx_move;(conv=>lhs;whnf)<;>exact rfl)|(apply OKx_assign;(conv=>lhs;whnf)<;>exact rfl)|(apply OKx_notT;exact rfl)|(apply OKx_notF;exact rfl)|(apply OKx_extract;exact rfl;(conv=>lhs;whnf)<;>exact rfl)|(apply OKx_boxA;exact rfl;intro _)|(apply OKx_ldBA;exact rfl; (apply atP;constructor);exact rfl)|(apply OKx_ldRA;(conv=>lhs;whnf)<;>exact rfl;(with_reducible assumption)))
    refine bodyQ_r1 (by ((conv=>lhs;whnf)<;>exact rfl)) ?_
    exact ⟨_, Ent.nil, rfl, rfl⟩
  · rw [if_neg (by decide)]
    refine SatL.of 15 [2] Tryz.func74 (by kernel_rfl) (by kernel_rfl) rfl rfl rfl rfl ?_
    repeat' (first|(apply OK_seq)|(apply thenQ_n)|(apply OK_region)|(apply OKx_gc 25;exact rfl; refine OKx_callV (f := 25) rfl rfl rfl (fun w1 hp => hS w1 hp.below) ?_)|(apply OKx_gc 94;exact rfl; refine OKx_callB (f := 94) rfl rfl rfl (fun w1 hp => hO w1 hp.below) ?_ ?_ <;> intro hq)|(apply OKx_nilK)|(apply OK_block)|(apply blockQ_n)|(apply blockQ_s)|(apply thenQ_e)|(apply blockQ_e;exact rfl)|(apply thenQ_r)|(apply blockQ_r)|(apply OK_condT;exact rfl)|(apply OK_condF;exact rfl)|(apply OK_skip)|(apply OK_exit)|(apply OK_ret)|(apply OKx_move;(conv=>lhs;whnf)<;>exact rfl)|(apply OKx_assign;(conv=>lhs;whnf)<;>exact rfl)|(apply OKx_notT;exact rfl)|(apply OKx_notF;exact rfl)|(apply OKx_extract;exact rfl;(conv=>lhs;whnf)<;>exact rfl)|(apply OKx_boxA;exact rfl;intro _)|(apply OKx_ldBA;exact rfl; (apply atP;constructor);exact rfl)|(apply OKx_ldRA;(conv=>lhs;whnf)<;>exact rfl;(with_reducible assumption)))
    all_goals
      refine bodyQ_r1 (by ((conv=>lhs;whnf)<;>exact rfl)) ?_
      exact ⟨_, Ent.nil, by rw [hq]; rfl, rfl⟩
set_option maxRecDepth 100000 in
set_option maxHeartbeats 4000000 in
theorem rSize_sat (v : Value) (x : Cnd) (w : World) (h : Exp w x v) : Sat Tryz.prog 59 [v] w (fun u L => ∃ k : Int, u = .tuple #[.int .i64 k, .int .i64 (rgtE x)] ∧ L = []) := by
  have hS := fun w1 (hb1 : Below w.heap.size w w1) => size_sat 16 (by omega) x 65536 v w1 (h.below hb1) (by omega)
  have hO := fun w1 (hb1 : Below w.heap.size w w1) => rexpr_sat v x w1 (h.below hb1)
  obtain ⟨pv, g, rfl, hs, hP, hE⟩ := h.shape
  by_cases h0 : rgtE x = 0
  · rw [h0] at hO
    rw [h0]
    refine SatL.of 18 [2, 3] Tryz.func59 (by kernel_rfl) (by kernel_rfl) rfl rfl rfl rfl ?_
    repeat' (first|(apply OK_seq)|(apply thenQ_n)|(apply OK_region)|(apply OKx_gc 25;exact rfl; refine OKx_callV (f := 25) rfl rfl rfl (fun w1 hp => hS w1 hp.below) ?_)|(apply OKx_gc 74;exact rfl; refine OKx_callV (f := 74) rfl rfl rfl (fun w1 hp => hO w1 hp.below) ?_)|(apply OKx_nilK)|(apply OK_block)|(apply blockQ_n)|(apply blockQ_s)|(apply thenQ_e)|(apply blockQ_e;exact rfl)|(apply thenQ_r)|(apply blockQ_r)|(apply OK_condT;exact rfl)|(apply OK_condF;exact rfl)|(apply OK_skip)|(apply OK_exit)|(apply OK_ret)|(apply OKx_move;(conv=>lhs;whnf)<;>exact rfl)|(apply OKx_assign;(conv=>lhs;whnf)<;>exact rfl)|(apply OKx_neq;exact rfl;exact rfl;all_goals (intro _; try (exfalso;omega)))|(apply OKx_extract;exact rfl;(conv=>lhs;whnf)<;>exact rfl)|(apply OKx_boxA;exact rfl;intro _)|(apply OKx_ldBA;exact rfl; (apply atP;constructor);exact rfl)|(apply OKx_ldRA;(conv=>lhs;whnf)<;>exact rfl;(with_reducible assumption)))
    all_goals (try (exfalso;omega))
    refine bodyQ_r2 (by ((conv=>lhs;whnf)<;>exact rfl)) (by ((conv=>lhs;whnf)<;>exact rfl)) ?_
    exact ⟨_, Ent.nil, _, rfl, rfl⟩
  · generalize rgtE x = e at hO h0
    refine SatL.of 18 [2, 3] Tryz.func59 (by kernel_rfl) (by kernel_rfl) rfl rfl rfl rfl ?_
    repeat' (first|(apply OK_seq)|(apply thenQ_n)|(apply OK_region)|(apply OKx_gc 74;exact rfl; refine OKx_callV (f := 74) rfl rfl rfl (fun w1 hp => hO w1 hp.below) ?_)|(apply OKx_nilK)|(apply OK_block)|(apply blockQ_n)|(apply blockQ_s)|(apply thenQ_e)|(apply blockQ_e;exact rfl)|(apply thenQ_r)|(apply blockQ_r)|(apply OK_condT;exact rfl)|(apply OK_condF;exact rfl)|(apply OK_skip)|(apply OK_exit)|(apply OK_ret)|(apply OKx_move;(conv=>lhs;whnf)<;>exact rfl)|(apply OKx_assign;(conv=>lhs;whnf)<;>exact rfl)|(apply OKx_neq;exact rfl;exact rfl;all_goals (intro _; try (exfalso;omega)))|(apply OKx_extract;exact rfl;(conv=>lhs;whnf)<;>exact rfl)|(apply OKx_boxA;exact rfl;intro _)|(apply OKx_ldBA;exact rfl; (apply atP;constructor);exact rfl)|(apply OKx_ldRA;(conv=>lhs;whnf)<;>exact rfl;(with_reducible assumption)))
    all_goals (try (exfalso;omega))
    refine bodyQ_r2 (by ((conv=>lhs;whnf)<;>exact rfl)) (by ((conv=>lhs;whnf)<;>exact rfl)) ?_
    exact ⟨_, Ent.nil, _, rfl, rfl⟩
set_option maxRecDepth 100000 in
set_option maxHeartbeats 4000000 in
theorem valid_sat (v : Value) (x : Cnd) (w : World) (h : Exp w x v) : SatV Tryz.prog 32 [v] w (.bool (decide (rgtE x = 0))) := by
  have hS := fun w1 (hb : Below w.heap.size w w1) => rSize_sat v x w1 (h.below hb)
  obtain ⟨pv, g, rfl, _⟩ := h.shape
  refine SatL.of 12 [2] Tryz.func32 (by kernel_rfl) (by kernel_rfl) rfl rfl rfl rfl ?_
  repeat' (first|(apply OK_seq)|(apply thenQ_n)|(apply OK_region)|(apply OKx_gc 59;exact rfl; refine OKx_call (f := 59) rfl rfl (fun w1 hp => hS w1 hp.below) ?_; rintro _ _ ⟨k, rfl, rfl⟩; rw [List.nil_append])|(apply OKx_nilK)|(apply OK_block)|(apply blockQ_n)|(apply blockQ_s)|(apply thenQ_e)|(apply blockQ_e;exact rfl)|(apply thenQ_r)|(apply blockQ_r)|(apply OK_condT;exact rfl)|(apply OK_condF;exact rfl)|(apply OK_skip)|(apply OK_exit)|(apply OK_ret)|(apply OKx_move;(conv=>lhs;whnf)<;>exact rfl)|(apply OKx_assign;(conv=>lhs;whnf)<;>exact rfl)|(apply OKx_eql;exact rfl;exact rfl;all_goals (intro _; try (exfalso;omega)))|(apply OKx_extract;exact rfl;(conv=>lhs;whnf)<;>exact rfl)|(apply OKx_boxA;exact rfl;intro _)|(apply OKx_ldBA;exact rfl; (apply atP;constructor);exact rfl)|(apply OKx_ldRA;(conv=>lhs;whnf)<;>exact rfl;(with_reducible assumption)))
  all_goals
    refine bodyQ_r1 (by ((conv=>lhs;whnf)<;>exact rfl)) ?_
    refine ⟨_, Ent.nil, bool_eq ?_, rfl⟩
  all_goals first
    | rw [decide_eq_true (by assumption)]
    | rw [decide_eq_false (by assumption)]
end Go.Proofs.YthnlnffmmioapaaGreatDoor
namespace Go.Proofs.YthnlnffmmioapaaGreatDoor
open Go.RowKit
def rHld1 (x : Cnd) : Prop := ∀ (xv bv rv : Value) (b : List ByteArray) (r : Rdn) (w : World), Exp w x xv → Strs w bv b → RdnV w r rv → wdsB b = true → rdgB r = true → SatV Tryz.prog 35 [xv, bv, rv] w (.bool (x.hd b r.words r.src.length))
theorem cnt_step27 (l : List Cnd) (f : Cnd → Bool) (j : Nat) (h : j < l.length) : (l.take (j + 1)).countP f = (l.take j).countP f + if f l[j] = true then 1 else 0 := by
  rw [List.take_succ_eq_append_getElem h, List.countP_append]
  cases e : f l[j] <;> simp [e]
set_option maxRecDepth 100000 in
set_option maxHeartbeats 4000000 in
theorem rholds_sat : ∀ (k : Nat) (x : Cnd), x.depth ≤ k → x.own = true → rHld1 x
  | 0, x, hk, _ => by have := depth_pos x;omega
  | k + 1, x, hk, ho => by
    intro xv bv rv b r w hE hB hR hb hr
    have hE0 := hE
    have hR0 := hR
    obtain ⟨pv, g, rfl, hs, hP, hEs⟩ := hE.shape
    obtain ⟨hpb, pa, pc, rfl, _⟩ := id hP
    have hon := ho
    rw [own_eq, Bool.and_eq_true, List.all_eq_true] at hon
    obtain ⟨hnd, hon⟩ := hon
    obtain ⟨nd1, nd2, _, _, _, _, _, nd7, nd8⟩ := node_iff.1 hnd
    have ih : ∀ j, (hj : j < x.parts.length) → rHld1 x.parts[j] := fun j hj => rholds_sat k _ (by have := depth_in (List.getElem_mem hj);omega) (hon _ (List.getElem_mem hj))
    rw [hd_eq]
    by_cases hlow : x.kind < 11
    · rw [if_neg (by omega), if_neg (by omega), if_neg (by omega)]
      have hcase : x.kind = 1 ∨ x.kind = 2 ∨ x.kind = 3 ∨ x.kind = 4 ∨ x.kind = 5 ∨ x.kind = 6 ∨ x.kind = 7 ∨ x.kind = 8 ∨ x.kind = 9 ∨ x.kind = 10 := by omega
      rcases hcase with h | h | h | h | h | h | h | h | h | h
      · have := rk1_sat x h _ bv rv b r w hE0 hB hR0 hb hr
        rwa [show leafH 1 = leafH x.kind by rw [h]] at this
      · have := rk2_sat x h _ bv rv b r w hE0 hB hR0 hb hr
        rwa [show leafH 2 = leafH x.kind by rw [h]] at this
      · have := rk3_sat x h _ bv rv b r w hE0 hB hR0 hb hr
        rwa [show leafH 3 = leafH x.kind by rw [h]] at this
      · have := rk4_sat x h _ bv rv b r w hE0 hB hR0 hb hr
        rwa [show leafH 4 = leafH x.kind by rw [h]] at this
      · have := rk5_sat x h _ bv rv b r w hE0 hB hR0 hb hr
        rwa [show leafH 5 = leafH x.kind by rw [h]] at this
      · have := rk6_sat x h _ bv rv b r w hE0 hB hR0 hb hr
        rwa [show leafH 6 = leafH x.kind by rw [h]] at this
      · have := rk7_sat x h _ bv rv b r w hE0 hB hR0 hb hr
        rwa [show leafH 7 = leafH x.kind by rw [h]] at this
      · have := rk8_sat x h _ bv rv b r w hE0 hB hR0 hb hr
        rwa [show leafH 8 = leafH x.kind by rw [h]] at this
      · have := rk9_sat x h _ bv rv b r w hE0 hB hR0 hb hr
        rwa [show leafH 9 = leafH x.kind by rw [h]] at this
      · have := rk10_sat x h _ bv rv b r w hE0 hB hR0 hb hr
        rwa [show leafH 10 = leafH x.kind by rw [h]] at this
    obtain ⟨ba, bc, rfl, hbl, _⟩ := hB.at
    obtain ⟨wv, sv, rfl, hWv, hSv⟩ := hR
    obtain ⟨wa, wc, rfl, hwl, _⟩ := hWv.at
    obtain ⟨sa, sc, rfl, hsl, _⟩ := hSv.at
    have hcall := fun j (hj : j < x.parts.length) w1 (h : Below w.heap.size w w1) => ih j hj _ _ _ b r w1 ((hEs j hj).below h) (hB.below h) (hR0.below h) hb hr
    by_cases h13 : x.kind = 13
    · rw [if_neg (by omega), if_neg (by omega), if_pos h13]
      have hpl : x.parts.length = 1 := by
        rw [h13] at nd7 nd8
        have e1 : lstK 13 = 1 := rfl
        have e2 : mstK 13 = 1 := rfl
        have := nd8 (by omega)
        omega
      have hhd : (x.parts.map (Cnd.hd b r.words r.src.length)).headD false = (x.parts[0]'(by omega)).hd b r.words r.src.length := by
        obtain ⟨y, hy⟩ := List.length_eq_one_iff.1 hpl
        simp [hy]
      rw [hhd, h13]
      have hc0 := hcall 0 (by omega)
      refine SatL.of 203 [6] Tryz.func35 (by kernel_rfl) (by kernel_rfl) rfl rfl rfl rfl ?_
      repeat' (first|(apply OK_seq)|(apply thenQ_n)|(apply OK_region)|(apply OKx_gi; refine OKx_idxR2 (i := 0) rfl hP rfl (by omega) ?_; intro pp hpp)|(apply OKx_gl; refine OKx_ldRA rfl hpp ?_)|(apply OKx_gc 35;exact rfl; refine OKx_callB (f := 35) rfl rfl rfl (fun w1 hp => hc0 w1 hp.below) ?_ ?_ <;> intro hqq)|(refine OK_rid 12 ?_; refine OK_quiet (id := 12) (by kernel_rfl) (by kernel_rfl) ?_)|(refine OK_rid 16 ?_; refine OK_quiet (id := 16) (by kernel_rfl) (by kernel_rfl) ?_)|(refine OK_rid 32 ?_; refine OK_quiet (id := 32) (by kernel_rfl) (by kernel_rfl) ?_)|(refine OK_rid 36 ?_; refine OK_quiet (id := 36) (by kernel_rfl) (by kernel_rfl) ?_)|(refine OK_rid 41 ?_; refine OK_quiet (id := 41) (by kernel_rfl) (by kernel_rfl) ?_)|(apply OKx_nilK)|(apply OK_block)|(apply blockQ_n)|(apply blockQ_s)|(apply thenQ_e)|(apply blockQ_e;exact rfl)|(apply thenQ_r)|(apply blockQ_r)|(apply OK_condT;exact rfl)|(apply OK_condF;exact rfl)|(apply OK_skip)|(apply OK_exit)|(apply OK_ret)|(apply OKx_move;(conv=>lhs;whnf)<;>exact rfl)|(apply OKx_assign;(conv=>lhs;whnf)<;>exact rfl)|(apply OKx_ldB;exact rfl; (apply atP;constructor);exact rfl)|(apply OKx_ldR;(conv=>lhs;whnf)<;>exact rfl;(with_reducible assumption))|(apply OKx_ldI;exact rfl; (apply atP;constructor);omega)|(apply OKx_len;exact rfl)|(apply OKx_lenR;(conv=>lhs;whnf)<;>exact rfl;(with_reducible assumption))|(apply OKx_lenR2;(conv=>lhs;whnf)<;>exact rfl;(with_reducible assumption))|(apply OKx_lenO;(conv=>lhs;whnf)<;>exact rfl; (apply atP;constructor))|(apply OKx_lss;exact rfl;exact rfl;all_goals (intro _; try (exfalso;omega)))|(apply OKx_leq;exact rfl;exact rfl;all_goals (intro _; try (exfalso;omega)))|(apply OKx_gtr;exact rfl;exact rfl;all_goals (intro _; try (exfalso;omega)))|(apply OKx_geq;exact rfl;exact rfl;all_goals (intro _; try (exfalso;omega)))|(apply OKx_eql;exact rfl;exact rfl;all_goals (intro _; try (exfalso;omega)))|(apply OKx_neq;exact rfl;exact rfl;all_goals (intro _; try (exfalso;omega)))|(apply OKx_sneq;exact rfl;exact rfl; all_goals intro _)|(apply OKx_idxO;exact rfl;exact rfl;omega)|(apply OKx_idxR;(conv=>lhs;whnf)<;>exact rfl;(with_reducible assumption);exact rfl;omega;intro _ _)|(apply OKx_idxR2;(conv=>lhs;whnf)<;>exact rfl;(with_reducible assumption);exact rfl;omega;intro _ _)|(apply OKx_idxOz;exact rfl;exact rfl;omega;omega)|(apply OKx_idxRz;(conv=>lhs;whnf)<;>exact rfl;(with_reducible assumption);exact rfl;omega;omega;intro _ _)|(apply OKx_fldO;exact rfl;exact rfl)|(apply OKx_fldR;(conv=>lhs;whnf)<;>exact rfl;(with_reducible assumption); decide;intro _ _)|(apply OKx_inc;exact rfl;exact rfl;omega)|(apply OKx_addN;exact rfl;exact rfl;omega)|(apply OKx_add;exact rfl;exact rfl;omega;omega)|(apply OKx_pickT;exact rfl;(conv=>lhs;whnf)<;>exact rfl)|(apply OKx_pickF;exact rfl;(conv=>lhs;whnf)<;>exact rfl)|(apply OKx_guardT;exact rfl;exact rfl)|(apply OKx_guardF;exact rfl;exact rfl)|(apply OKx_guardU;exact rfl;exact rfl)|(apply OKx_notT;exact rfl)|(apply OKx_notF;exact rfl)|(apply OKx_extract;exact rfl;(conv=>lhs;whnf)<;>exact rfl)|(apply OKx_boxA;exact rfl;intro _)|(apply OKx_ldBA;exact rfl; (apply atP;constructor);exact rfl)|(apply OKx_ldRA;(conv=>lhs;whnf)<;>exact rfl;(with_reducible assumption)))
      all_goals (try (exfalso;omega))
      all_goals
        refine bodyQ_r1 (by ((conv=>lhs;whnf)<;>exact rfl)) ?_
        exact ⟨_, Ent.nil, by rw [hqq]; rfl, rfl⟩
    have hk12 : x.kind = 11 ∨ x.kind = 12 := by omega
    have hfin : (if x.kind = 11 then x.parts.all (Cnd.hd b r.words r.src.length) else if x.kind = 12 then x.parts.any (Cnd.hd b r.words r.src.length) else if x.kind = 13 then !(x.parts.map (Cnd.hd b r.words r.src.length)).headD false else leafH x.kind x.num x.text b r.words r.src.length) = if x.kind = 11 then decide (x.parts.countP (Cnd.hd b r.words r.src.length) = x.parts.length) else decide (0 < x.parts.countP (Cnd.hd b r.words r.src.length)) := by
      rcases hk12 with h | h
      · rw [if_pos h, if_pos h, Bool.eq_iff_iff, List.all_eq_true, decide_eq_true_eq, List.countP_eq_length]
      · rw [if_neg (by omega), if_pos h, if_neg (by omega), Bool.eq_iff_iff, List.any_eq_true, decide_eq_true_eq, List.countP_pos_iff]
    rw [hfin]
    have hcl := List.countP_le_length (p := Cnd.hd b r.words r.src.length) (l := x.parts)
    rcases hk12 with h | h
    all_goals
      rw [h]
      refine SatL.of 203 [6] Tryz.func35 (by kernel_rfl) (by kernel_rfl) rfl rfl rfl rfl ?_
      repeat' (first|(apply OK_seq)|(apply thenQ_n)|(apply OK_region)|(refine OKx_boxA (e := 24) rfl ?_; intro gx)|(refine OKx_boxA (e := 33) rfl ?_; intro gr)|(refine OK_rid 12 ?_; refine OK_quiet (id := 12) (by kernel_rfl) (by kernel_rfl) ?_)|(refine OK_rid 16 ?_; refine OK_quiet (id := 16) (by kernel_rfl) (by kernel_rfl) ?_)|(refine OK_rid 32 ?_; refine OK_quiet (id := 32) (by kernel_rfl) (by kernel_rfl) ?_)|(refine OK_rid 36 ?_; refine OK_quiet (id := 36) (by kernel_rfl) (by kernel_rfl) ?_)|(refine OK_rid 41 ?_; refine OK_quiet (id := 41) (by kernel_rfl) (by kernel_rfl) ?_)|(apply OKx_nilK)|(apply OK_block)|(apply blockQ_n)|(apply blockQ_s)|(apply thenQ_e)|(apply blockQ_e;exact rfl)|(apply thenQ_r)|(apply blockQ_r)|(apply OK_condT;exact rfl)|(apply OK_condF;exact rfl)|(apply OK_skip)|(apply OK_exit)|(apply OK_ret)|(apply OKx_move;(conv=>lhs;whnf)<;>exact rfl)|(apply OKx_assign;(conv=>lhs;whnf)<;>exact rfl)|(apply OKx_ldB;exact rfl; (apply atP;constructor);exact rfl)|(apply OKx_ldR;(conv=>lhs;whnf)<;>exact rfl;(with_reducible assumption))|(apply OKx_ldI;exact rfl; (apply atP;constructor);omega)|(apply OKx_len;exact rfl)|(apply OKx_lenR;(conv=>lhs;whnf)<;>exact rfl;(with_reducible assumption))|(apply OKx_lenR2;(conv=>lhs;whnf)<;>exact rfl;(with_reducible assumption))|(apply OKx_lenO;(conv=>lhs;whnf)<;>exact rfl; (apply atP;constructor))|(apply OKx_lss;exact rfl;exact rfl;all_goals (intro _; try (exfalso;omega)))|(apply OKx_leq;exact rfl;exact rfl;all_goals (intro _; try (exfalso;omega)))|(apply OKx_gtr;exact rfl;exact rfl;all_goals (intro _; try (exfalso;omega)))|(apply OKx_geq;exact rfl;exact rfl;all_goals (intro _; try (exfalso;omega)))|(apply OKx_eql;exact rfl;exact rfl;all_goals (intro _; try (exfalso;omega)))|(apply OKx_neq;exact rfl;exact rfl;all_goals (intro _; try (exfalso;omega)))|(apply OKx_sneq;exact rfl;exact rfl; all_goals intro _)|(apply OKx_idxO;exact rfl;exact rfl;omega)|(apply OKx_idxR;(conv=>lhs;whnf)<;>exact rfl;(with_reducible assumption);exact rfl;omega;intro _ _)|(apply OKx_idxR2;(conv=>lhs;whnf)<;>exact rfl;(with_reducible assumption);exact rfl;omega;intro _ _)|(apply OKx_idxOz;exact rfl;exact rfl;omega;omega)|(apply OKx_idxRz;(conv=>lhs;whnf)<;>exact rfl;(with_reducible assumption);exact rfl;omega;omega;intro _ _)|(apply OKx_fldO;exact rfl;exact rfl)|(apply OKx_fldR;(conv=>lhs;whnf)<;>exact rfl;(with_reducible assumption); decide;intro _ _)|(apply OKx_inc;exact rfl;exact rfl;omega)|(apply OKx_addN;exact rfl;exact rfl;omega)|(apply OKx_add;exact rfl;exact rfl;omega;omega)|(apply OKx_pickT;exact rfl;(conv=>lhs;whnf)<;>exact rfl)|(apply OKx_pickF;exact rfl;(conv=>lhs;whnf)<;>exact rfl)|(apply OKx_guardT;exact rfl;exact rfl)|(apply OKx_guardF;exact rfl;exact rfl)|(apply OKx_guardU;exact rfl;exact rfl)|(apply OKx_notT;exact rfl)|(apply OKx_notF;exact rfl)|(apply OKx_extract;exact rfl;(conv=>lhs;whnf)<;>exact rfl)|(apply OKx_boxA;exact rfl;intro _)|(apply OKx_ldBA;exact rfl; (apply atP;constructor);exact rfl)|(apply OKx_ldRA;(conv=>lhs;whnf)<;>exact rfl;(with_reducible assumption)))
      all_goals (try (exfalso;omega))
      refine OK_loop2 11 12 [11, 12, 176, 177, 178, 179, 180, 181, 182, 183, 184, 185, 186, 187, 188, 189, 190, 191, 192] (fun m u v L => ∃ j : Nat, j + m = x.parts.length ∧ u = .int .i64 (((x.parts.take j).countP (Cnd.hd b r.words r.src.length) : Nat) : Int) ∧ v = .int .i64 (j : Int) ∧ L = [.box 33 gr [.slice wa r.words.length wc, .slice sa r.src.length sc], .box 24 gx [.int .i64 _, .int .i64 x.num, .string x.text, .slice pa x.parts.length pc]]) x.parts.length _ (Ent.refl _ _) ⟨0, by omega, rfl, rfl, rfl⟩ ?_
      rintro m u v' L G ⟨j, hm, rfl, rfl, rfl⟩
      by_cases hj : j < x.parts.length
      · have hst := cnt_step27 x.parts (Cnd.hd b r.words r.src.length) j hj
        have hcj := List.countP_le_length (p := Cnd.hd b r.words r.src.length) (l := x.parts.take j)
        rw [List.length_take] at hcj
        have hcc := hcall j hj
        cases hq : (x.parts[j]).hd b r.words r.src.length <;> rw [hq] at hcc hst
        · rw [if_neg (by decide)] at hst
          repeat' (first|(apply OK_seq)|(apply thenQ_n)|(apply OK_region)|(apply OKx_gi; refine OKx_idxR2 (i := j) rfl hP rfl hj ?_; intro pp hpp)|(apply OKx_gl; refine OKx_ldRA rfl hpp ?_)|(apply OKx_gc 35;exact rfl; refine OKx_callV (f := 35) rfl rfl rfl (fun w1 hp => hcc w1 hp.below) ?_)|(refine OK_rid 12 ?_; refine OK_quiet (id := 12) (by kernel_rfl) (by kernel_rfl) ?_)|(refine OK_rid 16 ?_; refine OK_quiet (id := 16) (by kernel_rfl) (by kernel_rfl) ?_)|(refine OK_rid 32 ?_; refine OK_quiet (id := 32) (by kernel_rfl) (by kernel_rfl) ?_)|(refine OK_rid 36 ?_; refine OK_quiet (id := 36) (by kernel_rfl) (by kernel_rfl) ?_)|(refine OK_rid 41 ?_; refine OK_quiet (id := 41) (by kernel_rfl) (by kernel_rfl) ?_)|(apply OKx_nilK)|(apply OK_block)|(apply blockQ_n)|(apply blockQ_s)|(apply thenQ_e)|(apply blockQ_e;exact rfl)|(apply thenQ_r)|(apply blockQ_r)|(apply OK_condT;exact rfl)|(apply OK_condF;exact rfl)|(apply OK_skip)|(apply OK_exit)|(apply OK_ret)|(apply OKx_move;(conv=>lhs;whnf)<;>exact rfl)|(apply OKx_assign;(conv=>lhs;whnf)<;>exact rfl)|(apply OKx_ldB;exact rfl; (apply atP;constructor);exact rfl)|(apply OKx_ldR;(conv=>lhs;whnf)<;>exact rfl;(with_reducible assumption))|(apply OKx_ldI;exact rfl; (apply atP;constructor);omega)|(apply OKx_len;exact rfl)|(apply OKx_lenR;(conv=>lhs;whnf)<;>exact rfl;(with_reducible assumption))|(apply OKx_lenR2;(conv=>lhs;whnf)<;>exact rfl;(with_reducible assumption))|(apply OKx_lenO;(conv=>lhs;whnf)<;>exact rfl; (apply atP;constructor))|(apply OKx_lss;exact rfl;exact rfl;all_goals (intro _; try (exfalso;omega)))|(apply OKx_leq;exact rfl;exact rfl;all_goals (intro _; try (exfalso;omega)))|(apply OKx_gtr;exact rfl;exact rfl;all_goals (intro _; try (exfalso;omega)))|(apply OKx_geq;exact rfl;exact rfl;all_goals (intro _; try (exfalso;omega)))|(apply OKx_eql;exact rfl;exact rfl;all_goals (intro _; try (exfalso;omega)))|(apply OKx_neq;exact rfl;exact rfl;all_goals (intro _; try (exfalso;omega)))|(apply OKx_sneq;exact rfl;exact rfl; all_goals intro _)|(apply OKx_idxO;exact rfl;exact rfl;omega)|(apply OKx_idxR;(conv=>lhs;whnf)<;>exact rfl;(with_reducible assumption);exact rfl;omega;intro _ _)|(apply OKx_idxR2;(conv=>lhs;whnf)<;>exact rfl;(with_reducible assumption);exact rfl;omega;intro _ _)|(apply OKx_idxOz;exact rfl;exact rfl;omega;omega)|(apply OKx_idxRz;(conv=>lhs;whnf)<;>exact rfl;(with_reducible assumption);exact rfl;omega;omega;intro _ _)|(apply OKx_fldO;exact rfl;exact rfl)|(apply OKx_fldR;(conv=>lhs;whnf)<;>exact rfl;(with_reducible assumption); decide;intro _ _)|(apply OKx_inc;exact rfl;exact rfl;omega)|(apply OKx_addN;exact rfl;exact rfl;omega)|(apply OKx_add;exact rfl;exact rfl;omega;omega)|(apply OKx_pickT;exact rfl;(conv=>lhs;whnf)<;>exact rfl)|(apply OKx_pickF;exact rfl;(conv=>lhs;whnf)<;>exact rfl)|(apply OKx_guardT;exact rfl;exact rfl)|(apply OKx_guardF;exact rfl;exact rfl)|(apply OKx_guardU;exact rfl;exact rfl)|(apply OKx_notT;exact rfl)|(apply OKx_notF;exact rfl)|(apply OKx_extract;exact rfl;(conv=>lhs;whnf)<;>exact rfl)|(apply OKx_boxA;exact rfl;intro _)|(apply OKx_ldBA;exact rfl; (apply atP;constructor);exact rfl)|(apply OKx_ldRA;(conv=>lhs;whnf)<;>exact rfl;(with_reducible assumption)))
          all_goals (try (exfalso;omega))
          refine ⟨by (repeat' (first | refine agree_upd rfl ?_ | exact agree_over | exact agree_refl _ _ | refine agree_over2 rfl ?_)), m - 1, _, by omega, Ent.refl _ _, ?_⟩
          exact ⟨j + 1, by omega, int_eq (by omega), rfl, rfl⟩
        · rw [if_pos rfl] at hst
          repeat' (first|(apply OK_seq)|(apply thenQ_n)|(apply OK_region)|(apply OKx_gi; refine OKx_idxR2 (i := j) rfl hP rfl hj ?_; intro pp hpp)|(apply OKx_gl; refine OKx_ldRA rfl hpp ?_)|(apply OKx_gc 35;exact rfl; refine OKx_callV (f := 35) rfl rfl rfl (fun w1 hp => hcc w1 hp.below) ?_)|(refine OK_rid 12 ?_; refine OK_quiet (id := 12) (by kernel_rfl) (by kernel_rfl) ?_)|(refine OK_rid 16 ?_; refine OK_quiet (id := 16) (by kernel_rfl) (by kernel_rfl) ?_)|(refine OK_rid 32 ?_; refine OK_quiet (id := 32) (by kernel_rfl) (by kernel_rfl) ?_)|(refine OK_rid 36 ?_; refine OK_quiet (id := 36) (by kernel_rfl) (by kernel_rfl) ?_)|(refine OK_rid 41 ?_; refine OK_quiet (id := 41) (by kernel_rfl) (by kernel_rfl) ?_)|(apply OKx_nilK)|(apply OK_block)|(apply blockQ_n)|(apply blockQ_s)|(apply thenQ_e)|(apply blockQ_e;exact rfl)|(apply thenQ_r)|(apply blockQ_r)|(apply OK_condT;exact rfl)|(apply OK_condF;exact rfl)|(apply OK_skip)|(apply OK_exit)|(apply OK_ret)|(apply OKx_move;(conv=>lhs;whnf)<;>exact rfl)|(apply OKx_assign;(conv=>lhs;whnf)<;>exact rfl)|(apply OKx_ldB;exact rfl; (apply atP;constructor);exact rfl)|(apply OKx_ldR;(conv=>lhs;whnf)<;>exact rfl;(with_reducible assumption))|(apply OKx_ldI;exact rfl; (apply atP;constructor);omega)|(apply OKx_len;exact rfl)|(apply OKx_lenR;(conv=>lhs;whnf)<;>exact rfl;(with_reducible assumption))|(apply OKx_lenR2;(conv=>lhs;whnf)<;>exact rfl;(with_reducible assumption))|(apply OKx_lenO;(conv=>lhs;whnf)<;>exact rfl; (apply atP;constructor))|(apply OKx_lss;exact rfl;exact rfl;all_goals (intro _; try (exfalso;omega)))|(apply OKx_leq;exact rfl;exact rfl;all_goals (intro _; try (exfalso;omega)))|(apply OKx_gtr;exact rfl;exact rfl;all_goals (intro _; try (exfalso;omega)))|(apply OKx_geq;exact rfl;exact rfl;all_goals (intro _; try (exfalso;omega)))|(apply OKx_eql;exact rfl;exact rfl;all_goals (intro _; try (exfalso;omega)))|(apply OKx_neq;exact rfl;exact rfl;all_goals (intro _; try (exfalso;omega)))|(apply OKx_sneq;exact rfl;exact rfl; all_goals intro _)|(apply OKx_idxO;exact rfl;exact rfl;omega)|(apply OKx_idxR;(conv=>lhs;whnf)<;>exact rfl;(with_reducible assumption);exact rfl;omega;intro _ _)|(apply OKx_idxR2;(conv=>lhs;whnf)<;>exact rfl;(with_reducible assumption);exact rfl;omega;intro _ _)|(apply OKx_idxOz;exact rfl;exact rfl;omega;omega)|(apply OKx_idxRz;(conv=>lhs;whnf)<;>exact rfl;(with_reducible assumption);exact rfl;omega;omega;intro _ _)|(apply OKx_fldO;exact rfl;exact rfl)|(apply OKx_fldR;(conv=>lhs;whnf)<;>exact rfl;(with_reducible assumption); decide;intro _ _)|(apply OKx_inc;exact rfl;exact rfl;omega)|(apply OKx_addN;exact rfl;exact rfl;omega)|(apply OKx_add;exact rfl;exact rfl;omega;omega)|(apply OKx_pickT;exact rfl;(conv=>lhs;whnf)<;>exact rfl)|(apply OKx_pickF;exact rfl;(conv=>lhs;whnf)<;>exact rfl)|(apply OKx_guardT;exact rfl;exact rfl)|(apply OKx_guardF;exact rfl;exact rfl)|(apply OKx_guardU;exact rfl;exact rfl)|(apply OKx_notT;exact rfl)|(apply OKx_notF;exact rfl)|(apply OKx_extract;exact rfl;(conv=>lhs;whnf)<;>exact rfl)|(apply OKx_boxA;exact rfl;intro _)|(apply OKx_ldBA;exact rfl; (apply atP;constructor);exact rfl)|(apply OKx_ldRA;(conv=>lhs;whnf)<;>exact rfl;(with_reducible assumption)))
          all_goals (try (exfalso;omega))
          refine ⟨by (repeat' (first | refine agree_upd rfl ?_ | exact agree_over | exact agree_refl _ _ | refine agree_over2 rfl ?_)), m - 1, _, by omega, Ent.refl _ _, ?_⟩
          exact ⟨j + 1, by omega, int_eq (by omega), rfl, rfl⟩
      · obtain rfl : j = x.parts.length := by omega
        rw [List.take_length]
        repeat' (first|(apply OK_seq)|(apply thenQ_n)|(apply OK_region)|(refine OK_rid 12 ?_; refine OK_quiet (id := 12) (by kernel_rfl) (by kernel_rfl) ?_)|(refine OK_rid 16 ?_; refine OK_quiet (id := 16) (by kernel_rfl) (by kernel_rfl) ?_)|(refine OK_rid 32 ?_; refine OK_quiet (id := 32) (by kernel_rfl) (by kernel_rfl) ?_)|(refine OK_rid 36 ?_; refine OK_quiet (id := 36) (by kernel_rfl) (by kernel_rfl) ?_)|(refine OK_rid 41 ?_; refine OK_quiet (id := 41) (by kernel_rfl) (by kernel_rfl) ?_)|(apply OKx_nilK)|(apply OK_block)|(apply blockQ_n)|(apply blockQ_s)|(apply thenQ_e)|(apply blockQ_e;exact rfl)|(apply thenQ_r)|(apply blockQ_r)|(apply OK_condT;exact rfl)|(apply OK_condF;exact rfl)|(apply OK_skip)|(apply OK_exit)|(apply OK_ret)|(apply OKx_move;(conv=>lhs;whnf)<;>exact rfl)|(apply OKx_assign;(conv=>lhs;whnf)<;>exact rfl)|(apply OKx_ldB;exact rfl; (apply atP;constructor);exact rfl)|(apply OKx_ldR;(conv=>lhs;whnf)<;>exact rfl;(with_reducible assumption))|(apply OKx_ldI;exact rfl; (apply atP;constructor);omega)|(apply OKx_len;exact rfl)|(apply OKx_lenR;(conv=>lhs;whnf)<;>exact rfl;(with_reducible assumption))|(apply OKx_lenR2;(conv=>lhs;whnf)<;>exact rfl;(with_reducible assumption))|(apply OKx_lenO;(conv=>lhs;whnf)<;>exact rfl; (apply atP;constructor))|(apply OKx_lss;exact rfl;exact rfl;all_goals (intro _; try (exfalso;omega)))|(apply OKx_leq;exact rfl;exact rfl;all_goals (intro _; try (exfalso;omega)))|(apply OKx_gtr;exact rfl;exact rfl;all_goals (intro _; try (exfalso;omega)))|(apply OKx_geq;exact rfl;exact rfl;all_goals (intro _; try (exfalso;omega)))|(apply OKx_eql;exact rfl;exact rfl;all_goals (intro _; try (exfalso;omega)))|(apply OKx_neq;exact rfl;exact rfl;all_goals (intro _; try (exfalso;omega)))|(apply OKx_sneq;exact rfl;exact rfl; all_goals intro _)|(apply OKx_idxO;exact rfl;exact rfl;omega)|(apply OKx_idxR;(conv=>lhs;whnf)<;>exact rfl;(with_reducible assumption);exact rfl;omega;intro _ _)|(apply OKx_idxR2;(conv=>lhs;whnf)<;>exact rfl;(with_reducible assumption);exact rfl;omega;intro _ _)|(apply OKx_idxOz;exact rfl;exact rfl;omega;omega)|(apply OKx_idxRz;(conv=>lhs;whnf)<;>exact rfl;(with_reducible assumption);exact rfl;omega;omega;intro _ _)|(apply OKx_fldO;exact rfl;exact rfl)|(apply OKx_fldR;(conv=>lhs;whnf)<;>exact rfl;(with_reducible assumption); decide;intro _ _)|(apply OKx_inc;exact rfl;exact rfl;omega)|(apply OKx_addN;exact rfl;exact rfl;omega)|(apply OKx_add;exact rfl;exact rfl;omega;omega)|(apply OKx_pickT;exact rfl;(conv=>lhs;whnf)<;>exact rfl)|(apply OKx_pickF;exact rfl;(conv=>lhs;whnf)<;>exact rfl)|(apply OKx_guardT;exact rfl;exact rfl)|(apply OKx_guardF;exact rfl;exact rfl)|(apply OKx_guardU;exact rfl;exact rfl)|(apply OKx_notT;exact rfl)|(apply OKx_notF;exact rfl)|(apply OKx_extract;exact rfl;(conv=>lhs;whnf)<;>exact rfl)|(apply OKx_boxA;exact rfl;intro _)|(apply OKx_ldBA;exact rfl; (apply atP;constructor);exact rfl)|(apply OKx_ldRA;(conv=>lhs;whnf)<;>exact rfl;(with_reducible assumption)))
        all_goals (try (exfalso;omega))
        all_goals
          refine bodyQ_r1 (by ((conv=>lhs;whnf)<;>exact rfl)) ?_
          refine ⟨_, Ent.nil, bool_eq ?_, rfl⟩
          first
            | (rw [if_pos rfl]
               first
                 | rw [decide_eq_true (by omega)]
                 | rw [decide_eq_false (by omega)])
            | (rw [if_neg (by decide)]
               first
                 | rw [decide_eq_true (by omega)]
                 | rw [decide_eq_false (by omega)])
end Go.Proofs.YthnlnffmmioapaaGreatDoor
