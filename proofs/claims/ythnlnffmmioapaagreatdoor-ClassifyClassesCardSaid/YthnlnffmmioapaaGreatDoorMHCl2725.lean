/-
  Part 25 of the proof: Qb27. No statement of the seat is proved here.
-/
import Derived.Test.YthnlnffmmioapaaGreatDoorMHCl2724
namespace Go.Proofs.YthnlnffmmioapaaGreatDoor
open Go.RowKit
set_option maxRecDepth 100000 in
set_option maxHeartbeats 4000000 in
theorem sameW_sat (v u : Value) (xs ys : List ByteArray) (w : World) (h : Strs w v xs) (k : Strs w u ys) : SatV Tryz.prog 76 [v, u] w (.bool (decide (xs = ys))) := by
  have hsl := h.sl
  have ksl := k.sl
  have hb := hsl.bound
  have kb := ksl.bound
  refine SatL.of 26 [4] Tryz.func76 (by kernel_rfl) (by kernel_rfl) rfl rfl rfl rfl ?_
  repeat' (first|(apply OK_seq)|(apply thenQ_n)|(apply OK_region)|(apply OKx_nilK)|(apply OK_block)|(apply thenQ_r)|(apply OK_condT;exact rfl)|(apply OK_condF;exact rfl)|(apply OK_skip)|(apply OK_ret)|(apply OKx_move;(conv=>lhs;whnf)<;>exact rfl)|(apply OKx_assign;(conv=>lhs;whnf)<;>exact rfl)|(apply OKx_lenR;(conv=>lhs;whnf)<;>exact rfl;(with_reducible assumption))|(apply OKx_neq;exact rfl;exact rfl;all_goals (intro _; try (exfalso;omega))))
  · refine bodyQ_r1 (by ((conv=>lhs;whnf)<;>exact rfl)) ?_
    exact ⟨_, Ent.nil, bool_eq (decide_eq_false fun e => by subst e;omega).symm, rfl⟩
  refine OK_loop1 5 [4, 5, 11, 12, 13, 14, 15, 16, 17, 18, 19, 20, 21, 22, 23, 24, 25] (fun m v L => ∃ j : Nat, j + m = xs.length ∧ v = .int .i64 (j : Int) ∧ (∀ i, i < j → xs.getD i ByteArray.empty = ys.getD i ByteArray.empty) ∧ L = []) xs.length _ (Ent.refl _ _) ⟨0, by omega, rfl, fun i hi => absurd hi (by omega), rfl⟩ ?_
  rintro m v' L G ⟨j, hm, rfl, H, rfl⟩
  by_cases hj : j < xs.length
  · repeat' (first|(apply OK_seq)|(apply thenQ_n)|(apply OK_region)|(refine OK_rid 6 ?_; refine OK_quiet (id := 6) (by kernel_rfl) (by kernel_rfl) ?_)|(apply OKx_nilK)|(apply OK_block)|(apply blockQ_n)|(apply thenQ_r)|(apply blockQ_r)|(apply OK_condT;exact rfl)|(apply OK_condF;exact rfl)|(apply OK_skip)|(apply OK_ret)|(apply OKx_move;(conv=>lhs;whnf)<;>exact rfl)|(apply OKx_assign;(conv=>lhs;whnf)<;>exact rfl)|(apply OKx_ldR;(conv=>lhs;whnf)<;>exact rfl;(with_reducible assumption))|(apply OKx_lenR;(conv=>lhs;whnf)<;>exact rfl;(with_reducible assumption))|(apply OKx_lss;exact rfl;exact rfl;all_goals (intro _; try (exfalso;omega)))|(apply OKx_sneq;exact rfl;exact rfl; all_goals intro _)|(apply OKx_idxR;(conv=>lhs;whnf)<;>exact rfl;(with_reducible assumption);exact rfl;omega;intro _ _)|(apply OKx_inc;exact rfl;exact rfl;omega))
    all_goals (try (exfalso;omega))
    all_goals first
      | (refine ⟨by (repeat' (first | refine agree_upd rfl ?_ | exact agree_over | exact agree_refl _ _ | refine agree_over2 rfl ?_)), m - 1, _, by omega, Ent.refl _ _, ?_⟩
         refine ⟨j + 1, by omega, rfl, fun i hi => ?_, rfl⟩
         by_cases e : i = j
         · subst e; assumption
         · exact H i (by omega))
      | ((refine bodyQ_r1 (by ((conv=>lhs;whnf)<;>exact rfl)) ?_)
         exact ⟨_, Ent.nil, bool_eq (decide_eq_false fun e => by subst e; exact absurd rfl (by assumption)).symm, rfl⟩)
  · obtain rfl : j = xs.length := by omega
    repeat' (first|(apply OK_seq)|(apply thenQ_n)|(apply OK_region)|(apply OKx_nilK)|(apply blockQ_s)|(apply thenQ_e)|(apply OK_condF;exact rfl)|(apply OK_exit)|(apply OK_ret)|(apply OKx_move;(conv=>lhs;whnf)<;>exact rfl)|(apply OKx_assign;(conv=>lhs;whnf)<;>exact rfl)|(apply OKx_lenR;(conv=>lhs;whnf)<;>exact rfl;(with_reducible assumption))|(apply OKx_lss;exact rfl;exact rfl;all_goals (intro _; try (exfalso;omega))))
    all_goals (try (exfalso;omega))
    refine bodyQ_r1 (by ((conv=>lhs;whnf)<;>exact rfl)) ?_
    exact ⟨_, Ent.nil, bool_eq (decide_eq_true (List.ext_getElem (by omega) fun i h1 h2 => by
      have := H i h1
      rwa [getD_lt _ _ _ h1, getD_lt _ _ _ h2] at this)).symm, rfl⟩
set_option maxRecDepth 100000 in
set_option maxHeartbeats 4000000 in
theorem same27_sat (v u : Value) (xs ys : List ByteArray) (w : World) (h : Strs w v xs) (k : Strs w u ys) : SatV Tryz.prog 46 [v, u] w (.bool (decide (xs = ys))) := by
  have hs := fun w1 (hb : Below w.heap.size w w1) => sameW_sat v u xs ys w1 (h.below hb) (k.below hb)
  refine SatL.of 8 [4] Tryz.func46 (by kernel_rfl) (by kernel_rfl) rfl rfl rfl rfl ?_
  repeat' (first|(apply OK_seq)|(apply thenQ_n)|(apply OK_region)|(apply OKx_gc 76;exact rfl; refine OKx_callV (f := 76) rfl rfl rfl (fun w1 hp => hs w1 hp.below) ?_)|(apply OKx_nilK)|(apply OK_ret)|(apply OKx_move;(conv=>lhs;whnf)<;>exact rfl)|(apply OKx_assign;(conv=>lhs;whnf)<;>exact rfl))
  refine bodyQ_r1 (by ((conv=>lhs;whnf)<;>exact rfl)) ?_
  exact ⟨_, Ent.nil, rfl, rfl⟩
theorem cntB_step (l : List ByteArray) (x : ByteArray) (j : Nat) (h : j < l.length) : cntB (l.take (j + 1)) x = cntB (l.take j) x + if l[j] = x then 1 else 0 := by
  unfold cntB
  rw [List.take_succ_eq_append_getElem h, List.countP_append]
  by_cases e : l[j] = x <;> simp [e]
theorem cntB_len (l : List ByteArray) (x : ByteArray) : cntB l x ≤ l.length := List.countP_le_length
set_option maxRecDepth 100000 in
set_option maxHeartbeats 4000000 in
theorem count_sat (v : Value) (l : List ByteArray) (x : ByteArray) (w : World) (h : Strs w v l) : SatV Tryz.prog 51 [v, .string x] w (.int .i64 ((cntB l x : Nat) : Int)) := by
  have hsl := h.sl
  have hb := hsl.bound
  refine SatL.of 22 [4] Tryz.func51 (by kernel_rfl) (by kernel_rfl) rfl rfl rfl rfl ?_
  repeat' (first|(apply OK_seq)|(apply thenQ_n)|(apply OK_region)|(apply OKx_nilK)|(apply OK_block)|(apply OKx_assign;(conv=>lhs;whnf)<;>exact rfl))
  refine OK_loop2 5 6 [5, 6, 7, 8, 9, 10, 11, 12, 13, 14, 15, 16, 17, 18, 19, 20] (fun m u v L => ∃ j : Nat, j + m = l.length ∧ u = .int .i64 ((cntB (l.take j) x : Nat) : Int) ∧ v = .int .i64 (j : Int) ∧ L = []) l.length _ (Ent.refl _ _) ⟨0, by omega, rfl, rfl, rfl⟩ ?_
  rintro m u v' L G ⟨j, hm, rfl, rfl, rfl⟩
  by_cases hj : j < l.length
  · have hst := cntB_step l x j hj
    have hcl := cntB_len (l.take j) x
    rw [List.length_take] at hcl
    have hd : l.getD j ByteArray.empty = l[j] := getD_lt _ _ _ hj
    repeat' (first|(apply OK_seq)|(apply thenQ_n)|(apply OK_region)|(apply OKx_nilK)|(apply OK_block)|(apply blockQ_n)|(apply OK_condT;exact rfl)|(apply OK_condF;exact rfl)|(apply OK_skip)|(apply OKx_move;(conv=>lhs;whnf)<;>exact rfl)|(apply OKx_assign;(conv=>lhs;whnf)<;>exact rfl)|(apply OKx_ldR;(conv=>lhs;whnf)<;>exact rfl;(with_reducible assumption))|(apply OKx_lenR;(conv=>lhs;whnf)<;>exact rfl;(with_reducible assumption))|(apply OKx_lss;exact rfl;exact rfl;all_goals (intro _; try (exfalso;omega)))|(apply OKx_seql;exact rfl;exact rfl; all_goals intro _)|(apply OKx_idxR;(conv=>lhs;whnf)<;>exact rfl;(with_reducible assumption);exact rfl;omega;intro _ _)|(apply OKx_inc;exact rfl;exact rfl;omega))
    all_goals (try (exfalso;omega))
    all_goals first
      | (rw [if_pos (by rw [← hd]; assumption)] at hst
         refine ⟨by (repeat' (first | refine agree_upd rfl ?_ | exact agree_over | exact agree_refl _ _ | refine agree_over2 rfl ?_)), m - 1, _, by omega, Ent.refl _ _, ?_⟩
         exact ⟨j + 1, by omega, int_eq (by omega), rfl, rfl⟩)
      | (rw [if_neg (by rw [← hd]; assumption)] at hst
         refine ⟨by (repeat' (first | refine agree_upd rfl ?_ | exact agree_over | exact agree_refl _ _ | refine agree_over2 rfl ?_)), m - 1, _, by omega, Ent.refl _ _, ?_⟩
         exact ⟨j + 1, by omega, int_eq (by omega), rfl, rfl⟩)
  · obtain rfl : j = l.length := by omega
    rw [List.take_length]
    repeat' (first|(apply OK_seq)|(apply thenQ_n)|(apply OK_region)|(apply OKx_nilK)|(apply blockQ_s)|(apply thenQ_e)|(apply OK_condF;exact rfl)|(apply OK_exit)|(apply OK_ret)|(apply OKx_move;(conv=>lhs;whnf)<;>exact rfl)|(apply OKx_assign;(conv=>lhs;whnf)<;>exact rfl)|(apply OKx_lenR;(conv=>lhs;whnf)<;>exact rfl;(with_reducible assumption))|(apply OKx_lss;exact rfl;exact rfl;all_goals (intro _; try (exfalso;omega))))
    all_goals (try (exfalso;omega))
    refine bodyQ_r1 (by ((conv=>lhs;whnf)<;>exact rfl)) ?_
    exact ⟨_, Ent.nil, rfl, rfl⟩
theorem jnS_snoc : ∀ (xs : List ByteArray) (y : ByteArray), jnS (xs ++ [y]) = (if xs = [] then [] else jnS xs ++ [32]) ++ y.data.toList
  | [], y => by
    rw [if_pos rfl]
    exact Lib.join_one _ _
  | [x], y => by
    rw [if_neg (by simp)]
    show jnS [x, y] = _
    rw [jnS_cons, show jnS [x] = x.data.toList from Lib.join_one _ _, show jnS [y] = y.data.toList from Lib.join_one _ _]
    simp
  | x :: z :: r, y => by
    have ih := jnS_snoc (z :: r) y
    rw [if_neg (by simp)] at ih ⊢
    rw [List.cons_append, List.cons_append, jnS_cons, ← List.cons_append, ih, jnS_cons]
    simp
theorem jnS_step (l : List ByteArray) (j : Nat) (h : j < l.length) : jnS (l.take (j + 1)) = (if j = 0 then [] else jnS (l.take j) ++ [32]) ++ byts l[j] := by
  rw [List.take_succ_eq_append_getElem h, jnS_snoc]
  congr 1
  by_cases e : j = 0
  · subst e
    rfl
  · rw [if_neg e, if_neg]
    intro e2
    have := congrArg List.length e2
    rw [List.length_take, List.length_nil] at this
    omega
set_option maxRecDepth 100000 in
set_option maxHeartbeats 4000000 in
theorem join27_sat (v : Value) (l : List ByteArray) (w : World) (h : Strs w v l) (hl : l.length ≤ 1024) (hs : ∀ x ∈ l, x.size ≤ 64) : SatV Tryz.prog 61 [v] w (.string (bOf (jnS l))) := by
  have hsl := h.sl
  have hb := hsl.bound
  refine SatL.of 22 [2] Tryz.func61 (by kernel_rfl) (by kernel_rfl) rfl rfl rfl rfl ?_
  repeat' (first|(apply OK_seq)|(apply thenQ_n)|(apply OK_region)|(apply OKx_nilK)|(apply OK_block)|(apply OKx_assign;(conv=>lhs;whnf)<;>exact rfl))
  refine OK_loop2 3 4 [3, 4, 5, 6, 7, 8, 9, 10, 11, 12, 13, 14, 15, 16, 17, 18, 19, 20] (fun m u v L => ∃ j : Nat, j + m = l.length ∧ u = .string (bOf (jnS (l.take j))) ∧ v = .int .i64 (j : Int) ∧ L = []) l.length _ (Ent.refl _ _) ⟨0, by omega, rfl, rfl, rfl⟩ ?_
  rintro m u v' L G ⟨j, hm, rfl, rfl, rfl⟩
  by_cases hj : j < l.length
  · have hst := jnS_step l j hj
    have hd : l.getD j ByteArray.empty = l[j] := getD_lt _ _ _ hj
    have hsz := hs _ (List.getElem_mem hj)
    have hbl := byts_len l[j]
    have hjl := jnS_len 64 (l.take j) (fun x hx => hs x (List.mem_of_mem_take hx))
    rw [List.length_take, Nat.min_eq_left (Nat.le_of_lt hj)] at hjl
    have hnm : Value.string (l.getD j ByteArray.empty) = .string (bOf (byts l[j])) := by rw [hd, show bOf (byts l[j]) = l[j] from bOf_data _]
    by_cases h0 : j = 0
    · subst h0
      rw [if_pos rfl, List.nil_append] at hst
      repeat' (first|(apply OK_seq)|(apply thenQ_n)|(apply OK_region)|(refine OKx_sadd7 (a := []) (b := byts l[0]) (c := byts l[0]) rfl hnm (by simp;omega) rfl ?_)|(apply OKx_nilK)|(apply OK_block)|(apply blockQ_n)|(apply OK_condT;exact rfl)|(apply OK_condF;exact rfl)|(apply OK_skip)|(apply OKx_move;(conv=>lhs;whnf)<;>exact rfl)|(apply OKx_assign;(conv=>lhs;whnf)<;>exact rfl)|(apply OKx_ldR;(conv=>lhs;whnf)<;>exact rfl;(with_reducible assumption))|(apply OKx_lenR;(conv=>lhs;whnf)<;>exact rfl;(with_reducible assumption))|(apply OKx_lss;exact rfl;exact rfl;all_goals (intro _; try (exfalso;omega)))|(apply OKx_gtr;exact rfl;exact rfl;all_goals (intro _; try (exfalso;omega)))|(apply OKx_idxR;(conv=>lhs;whnf)<;>exact rfl;(with_reducible assumption);exact rfl;omega;intro _ _)|(apply OKx_inc;exact rfl;exact rfl;omega))
      all_goals (try (exfalso;omega))
      refine ⟨by (repeat' (first | refine agree_upd rfl ?_ | exact agree_over | exact agree_refl _ _ | refine agree_over2 rfl ?_)), m - 1, _, by omega, Ent.refl _ _, ?_⟩
      exact ⟨1, by omega, by rw [show jnS (List.take 1 l) = _ from hst] <;> rfl, rfl, rfl⟩
    · rw [if_neg h0] at hst
      repeat' (first|(apply OK_seq)|(apply thenQ_n)|(apply OK_region)|(refine OKx_sadd7 (a := jnS (l.take j)) (b := [32]) (c := jnS (l.take j) ++ [32]) rfl rfl (by simp;omega) rfl ?_)|(refine OKx_sadd7 (a := jnS (l.take j) ++ [32]) (b := byts l[j]) (c := jnS (l.take j) ++ [32] ++ byts l[j]) rfl hnm (by simp;omega) rfl ?_)|(apply OKx_nilK)|(apply OK_block)|(apply blockQ_n)|(apply OK_condT;exact rfl)|(apply OK_skip)|(apply OKx_move;(conv=>lhs;whnf)<;>exact rfl)|(apply OKx_assign;(conv=>lhs;whnf)<;>exact rfl)|(apply OKx_ldR;(conv=>lhs;whnf)<;>exact rfl;(with_reducible assumption))|(apply OKx_lenR;(conv=>lhs;whnf)<;>exact rfl;(with_reducible assumption))|(apply OKx_lss;exact rfl;exact rfl;all_goals (intro _; try (exfalso;omega)))|(apply OKx_gtr;exact rfl;exact rfl;all_goals (intro _; try (exfalso;omega)))|(apply OKx_idxR;(conv=>lhs;whnf)<;>exact rfl;(with_reducible assumption);exact rfl;omega;intro _ _)|(apply OKx_inc;exact rfl;exact rfl;omega))
      all_goals (try (exfalso;omega))
      refine ⟨by (repeat' (first | refine agree_upd rfl ?_ | exact agree_over | exact agree_refl _ _ | refine agree_over2 rfl ?_)), m - 1, _, by omega, Ent.refl _ _, ?_⟩
      exact ⟨j + 1, by omega, by rw [hst] <;> rfl, rfl, rfl⟩
  · obtain rfl : j = l.length := by omega
    rw [List.take_length]
    repeat' (first|(apply OK_seq)|(apply thenQ_n)|(apply OK_region)|(apply OKx_nilK)|(apply blockQ_s)|(apply thenQ_e)|(apply OK_condF;exact rfl)|(apply OK_exit)|(apply OK_ret)|(apply OKx_move;(conv=>lhs;whnf)<;>exact rfl)|(apply OKx_assign;(conv=>lhs;whnf)<;>exact rfl)|(apply OKx_lenR;(conv=>lhs;whnf)<;>exact rfl;(with_reducible assumption))|(apply OKx_lss;exact rfl;exact rfl;all_goals (intro _; try (exfalso;omega))))
    all_goals (try (exfalso;omega))
    refine bodyQ_r1 (by ((conv=>lhs;whnf)<;>exact rfl)) ?_
    exact ⟨_, Ent.nil, rfl, rfl⟩
set_option maxRecDepth 100000 in
set_option maxHeartbeats 4000000 in
theorem some27_sat (s : ByteArray) (v : Value) (l : List ByteArray) (w : World) (hs : s.size ≤ 140737488355328) (h : Strs w v l) : SatV Tryz.prog 62 [.string s, v] w (.bool (mtchB s l)) := by
  have hsl := h.sl
  have hb := hsl.bound
  unfold mtchB
  refine SatL.of 24 [4] Tryz.func62 (by kernel_rfl) (by kernel_rfl) rfl rfl rfl rfl ?_
  repeat' (first|(apply OK_seq)|(apply thenQ_n)|(apply OK_region)|(apply OKx_nilK)|(apply OK_block)|(apply OKx_assign;(conv=>lhs;whnf)<;>exact rfl))
  refine OK_loop1 5 [4, 5, 6, 7, 8, 9, 10, 11, 12, 13, 14, 15, 16, 17, 18, 19, 20, 21, 22, 23] (fun m v L => ∃ j : Nat, j + m = l.length ∧ v = .int .i64 (j : Int) ∧ (∀ i, i < j → mtcB (byts s) (byts (l.getD i ByteArray.empty)) = false) ∧ L = []) l.length _ (Ent.refl _ _) ⟨0, by omega, rfl, fun i hi => absurd hi (by omega), rfl⟩ ?_
  rintro m v' L G ⟨j, hm, rfl, H, rfl⟩
  by_cases hj : j < l.length
  · have hz : (l.getD j ByteArray.empty).size ≤ 140737488355328 := by
      rw [getD_lt _ _ _ hj]
      exact h.2 _ (List.getElem_mem hj)
    have hM := fun w1 => rMatch_sat (byts s) (byts (l.getD j ByteArray.empty)) w1 (by rw [byts_len]; exact hs) (by rw [byts_len]; exact hz)
    rw [show bOf (byts s) = s from bOf_data s, show bOf (byts (l.getD j ByteArray.empty)) = l.getD j ByteArray.empty from bOf_data _] at hM
    cases hq : mtcB (byts s) (byts (l.getD j ByteArray.empty))
    · rw [hq] at hM
      repeat' (first|(apply OK_seq)|(apply thenQ_n)|(apply OK_region)|(apply OKx_gc 83;exact rfl; refine OKx_callV (f := 83) rfl rfl rfl (fun w1 hp => hM w1) ?_)|(apply OKx_nilK)|(apply OK_block)|(apply blockQ_n)|(apply OK_condT;exact rfl)|(apply OK_condF;exact rfl)|(apply OK_skip)|(apply OKx_move;(conv=>lhs;whnf)<;>exact rfl)|(apply OKx_assign;(conv=>lhs;whnf)<;>exact rfl)|(apply OKx_ldR;(conv=>lhs;whnf)<;>exact rfl;(with_reducible assumption))|(apply OKx_lenR;(conv=>lhs;whnf)<;>exact rfl;(with_reducible assumption))|(apply OKx_lss;exact rfl;exact rfl;all_goals (intro _; try (exfalso;omega)))|(apply OKx_idxR;(conv=>lhs;whnf)<;>exact rfl;(with_reducible assumption);exact rfl;omega;intro _ _)|(apply OKx_inc;exact rfl;exact rfl;omega)|(apply OKx_extract;exact rfl;(conv=>lhs;whnf)<;>exact rfl))
      all_goals (try (exfalso;omega))
      refine ⟨by (repeat' (first | refine agree_upd rfl ?_ | exact agree_over | exact agree_refl _ _ | refine agree_over2 rfl ?_)), m - 1, _, by omega, Ent.refl _ _, ?_⟩
      refine ⟨j + 1, by omega, rfl, fun i hi => ?_, rfl⟩
      by_cases e : i = j
      · subst e; exact hq
      · exact H i (by omega)
    · rw [hq] at hM
      repeat' (first|(apply OK_seq)|(apply thenQ_n)|(apply OK_region)|(apply OKx_gc 83;exact rfl; refine OKx_callV (f := 83) rfl rfl rfl (fun w1 hp => hM w1) ?_)|(apply OKx_nilK)|(apply OK_block)|(apply thenQ_r)|(apply blockQ_r)|(apply OK_condT;exact rfl)|(apply OK_skip)|(apply OK_ret)|(apply OKx_move;(conv=>lhs;whnf)<;>exact rfl)|(apply OKx_assign;(conv=>lhs;whnf)<;>exact rfl)|(apply OKx_ldR;(conv=>lhs;whnf)<;>exact rfl;(with_reducible assumption))|(apply OKx_lenR;(conv=>lhs;whnf)<;>exact rfl;(with_reducible assumption))|(apply OKx_lss;exact rfl;exact rfl;all_goals (intro _; try (exfalso;omega)))|(apply OKx_idxR;(conv=>lhs;whnf)<;>exact rfl;(with_reducible assumption);exact rfl;omega;intro _ _)|(apply OKx_extract;exact rfl;(conv=>lhs;whnf)<;>exact rfl))
      all_goals (try (exfalso;omega))
      refine bodyQ_r1 (by ((conv=>lhs;whnf)<;>exact rfl)) ?_
      exact ⟨_, Ent.nil, bool_eq (any_yes (d := ByteArray.empty) (f := fun x => mtcB (byts s) (byts x)) hj hq).symm, rfl⟩
  · obtain rfl : j = l.length := by omega
    repeat' (first|(apply OK_seq)|(apply thenQ_n)|(apply OK_region)|(apply OKx_nilK)|(apply blockQ_s)|(apply thenQ_e)|(apply OK_condF;exact rfl)|(apply OK_exit)|(apply OK_ret)|(apply OKx_move;(conv=>lhs;whnf)<;>exact rfl)|(apply OKx_assign;(conv=>lhs;whnf)<;>exact rfl)|(apply OKx_lenR;(conv=>lhs;whnf)<;>exact rfl;(with_reducible assumption))|(apply OKx_lss;exact rfl;exact rfl;all_goals (intro _; try (exfalso;omega))))
    all_goals (try (exfalso;omega))
    refine bodyQ_r1 (by ((conv=>lhs;whnf)<;>exact rfl)) ?_
    exact ⟨_, Ent.nil, bool_eq (any_no (d := ByteArray.empty) (f := fun x => mtcB (byts s) (byts x)) H).symm, rfl⟩
end Go.Proofs.YthnlnffmmioapaaGreatDoor
