/-
  Part 14 of the proof: Fv07, Pc07. No statement of the seat is proved here.
-/
import Derived.Test.YtbooccpfdekaiaaMHCh0713
namespace Go.Proofs.Ytbooccpfdekaiaa
open Go.RowKit
theorem filt_one (n : Nat) : ∀ N, n < N → (List.range N).filter (fun k => decide (k = n)) = [n]
  | 0, h => absurd h (Nat.not_lt_zero _)
  | N + 1, h => by
    rw [List.range_succ, List.filter_append]
    by_cases hn : n = N
    · subst hn
      have e : (List.range n).filter (fun k => decide (k = n)) = [] := List.filter_eq_nil_iff.2 fun k hk => by
        have := List.mem_range.1 hk
        rw [decide_eq_true_eq]
        omega
      rw [e, List.nil_append, List.filter_cons, if_pos (decide_eq_true rfl)]
      rfl
    · rw [filt_one n N (by omega), List.filter_cons, if_neg (by rw [decide_eq_true_eq];omega)]
      rfl
theorem one_of {x : List UInt8} {c : UInt8} (ha : elAny x = false) (h : ∀ b, elHas x b = true ↔ b = c) : elOne x = some c := by
  have hn : elNums x = [c.toNat] := by
    unfold elNums
    rw [← filt_one c.toNat 256 c.toNat_lt]
    refine List.filter_congr fun k hk => ?_
    have hk' := List.mem_range.1 hk
    rw [Bool.eq_iff_iff, h, decide_eq_true_eq]
    constructor
    · intro e
      rw [← e, UInt8.toNat_ofNat']
      exact (Nat.mod_eq_of_lt hk').symm
    · intro e
      subst e
      exact u8_of c
  unfold elOne
  rw [ha, if_neg (by decide), hn]
  dsimp only
  rw [u8_of]
theorem none_of {x : List UInt8} {a b : UInt8} (h1 : elHas x a = true) (h2 : elHas x b = true) (hn : a ≠ b) : elOne x = none := by
  cases h : elOne x with
  | none => rfl
  | some c =>
    have h3 := (elOne_some h).2
    exact absurd (((h3 a).1 h1).trans ((h3 b).1 h2).symm) hn
theorem one_star : elOne [42] = none := by
  unfold elOne
  exact if_pos rfl
theorem one_q : elOne [63] = none := none_of (a := 0) (b := 1) rfl rfl (by decide)
theorem one_plain {b : UInt8} (h1 : b ≠ 63) (h2 : b ≠ 42) (h3 : b ≠ 91) : elOne [b] = some b :=
  one_of (decide_eq_false h2) fun c => by
    rw [has_one h3 h2, decide_eq_false h1, Bool.false_or, decide_eq_true_eq]
theorem lit_stop {p : List UInt8} {i : Nat} (hi : i < (prts p).length) (h : elOne ((prts p).getD i []) = none) : litL (prts p) = none := by
  have h1 : litL ((prts p).take (i + 1)) = none := by
    rw [List.take_add_one, List.getElem?_eq_getElem hi]
    rw [getD_lt _ _ _ hi] at h
    show litL ((prts p).take i ++ [(prts p)[i]]) = none
    rw [litL_snoc, h]
    split
    · rename_i h2
      cases h2
    · rfl
  have h2 := litL_cut _ ((prts p).drop (i + 1)) h1
  rwa [List.take_append_drop] at h2
theorem lit_go {p : List UInt8} {i : Nat} {o : List UInt8} {c : UInt8} (hi : i < (prts p).length) (ho : litL ((prts p).take i) = some o) (h : elOne ((prts p).getD i []) = some c) : litL ((prts p).take (i + 1)) = some (o ++ [c]) := by
  rw [List.take_add_one, List.getElem?_eq_getElem hi]
  rw [getD_lt _ _ _ hi] at h
  show litL ((prts p).take i ++ [(prts p)[i]]) = _
  rw [litL_snoc, h, ho]
theorem take_one {x : List UInt8} (h : 0 < x.length) : x.take 1 = [x.getD 0 0] := by
  cases x with
  | nil => exact absurd h (Nat.lt_irrefl _)
  | cons a r => rfl
theorem cut_one {x : List UInt8} {k : Nat} (h : k < x.length) : (x.take (k + 1)).drop k = [x.getD k 0] := by
  rw [List.take_add_one, List.getElem?_eq_getElem h, getD_lt _ _ _ h, List.drop_append_of_le_length (by rw [List.length_take];omega), List.drop_eq_nil_of_le (by rw [List.length_take];omega)]
  rfl
theorem bOf_ne {a b : UInt8} (h : a ≠ b) : bOf [a] ≠ bOf [b] := fun e => h (by cases bOf_inj8 e; rfl)
set_option maxRecDepth 100000 in
set_option maxHeartbeats 4000000 in
theorem rLiteral_sat (p : List UInt8) (w : World) (hp : p.length ≤ 140737488355328) : SatV Try.prog 20 [.string (bOf p)] w (.tuple #[.string (bOf (litW p)), .bool (litB p), .int .i64 (litE p)]) := by
  have c1 := fun w1 => rCheck_sat p w1 hp
  have hb := patE_bd p
  unfold litW litB litE
  by_cases h : patE p = 0
  rotate_left
  · rw [if_pos h, if_pos h, if_pos h]
    refine SatL.of 63 [2, 3, 4] Try.func20 (by kernel_rfl) (by kernel_rfl) rfl rfl rfl rfl ?_
    repeat' (first|(apply OK_seq)|(apply thenQ_n)|(apply OK_region)|(apply OKx_gc 25;exact rfl; refine OKx_callV (f := 25) rfl rfl rfl (fun w1 hp => c1 w1) ?_)|(apply OKx_nilK)|(apply OK_block)|(apply blockQ_n)|(apply blockQ_s)|(apply thenQ_e)|(apply blockQ_e;exact rfl)|(apply thenQ_r)|(apply blockQ_r)|(apply OK_condT;exact rfl)|(apply OK_condF;exact rfl)|(apply OK_skip)|(apply OK_exit)|(apply OK_ret)|(apply OKx_move;(conv=>lhs;whnf)<;>exact rfl)|(apply OKx_assign;(conv=>lhs;whnf)<;>exact rfl)|(apply OKx_ldB;exact rfl;(first | exact at0|exact at1|exact at2|exact at3|exact at4|exact at5|exact at6|exact at7);exact rfl)|(apply OKx_ldR;(conv=>lhs;whnf)<;>exact rfl;(with_reducible assumption))|(apply OKx_len;exact rfl)|(apply OKx_lenR;(conv=>lhs;whnf)<;>exact rfl;(with_reducible assumption))|(apply OKx_lenR2;(conv=>lhs;whnf)<;>exact rfl;(with_reducible assumption))|(apply OKx_lenO;(conv=>lhs;whnf)<;>exact rfl;(first | exact at0|exact at1|exact at2|exact at3|exact at4|exact at5|exact at6|exact at7))|(apply OKx_lenS;exact rfl)|(apply OKx_lss;exact rfl;exact rfl;all_goals (intro _; try (exfalso;omega)))|(apply OKx_neq;exact rfl;exact rfl;all_goals (intro _; try (exfalso;omega)))|(apply OKx_seql;exact rfl;exact rfl; all_goals intro _)|(apply OKx_sneq;exact rfl;exact rfl; all_goals intro _)|(apply OKx_idxO;exact rfl;exact rfl;omega)|(apply OKx_idxR;(conv=>lhs;whnf)<;>exact rfl;(with_reducible assumption);exact rfl;omega;intro _ _)|(apply OKx_idxOz;exact rfl;exact rfl;omega;omega)|(apply OKx_idxRz;(conv=>lhs;whnf)<;>exact rfl;(with_reducible assumption);exact rfl;omega;omega;intro _ _)|(apply OKx_inc;exact rfl;exact rfl;omega)|(apply OKx_addN;exact rfl;exact rfl;omega)|(apply OKx_add;exact rfl;exact rfl;omega;omega)|(apply OKx_pickT;exact rfl;(conv=>lhs;whnf)<;>exact rfl)|(apply OKx_pickF;exact rfl;(conv=>lhs;whnf)<;>exact rfl)|(apply OKx_guardT;exact rfl;exact rfl)|(apply OKx_guardF;exact rfl;exact rfl)|(apply OKx_guardU;exact rfl;exact rfl))
    refine bodyQ_r3 (by ((conv=>lhs;whnf)<;>exact rfl)) (by ((conv=>lhs;whnf)<;>exact rfl)) (by ((conv=>lhs;whnf)<;>exact rfl)) ?_
    exact ⟨_, Ent.nil, rfl, rfl⟩
  rw [if_neg (fun hh => hh h), if_neg (fun hh => hh h), if_neg (fun hh => hh h)]
  obtain ⟨q1, q2, q3, q4⟩ := pts h
  refine SatL.of 63 [2, 3, 4] Try.func20 (by kernel_rfl) (by kernel_rfl) rfl rfl rfl rfl ?_
  repeat' (first|(apply OK_seq)|(apply thenQ_n)|(apply OK_region)|(apply OKx_gc 25;exact rfl; refine OKx_callV (f := 25) rfl rfl rfl (fun w1 hp => c1 w1) ?_)|(apply OKx_gc 41;exact rfl; refine OKx_call (f := 41) rfl rfl (fun w1 hp => rEls_sat p w1 h) ?_; intro v L9 hL9; obtain rfl := hL9; rw [List.append_nil])|(apply OKx_nilK)|(apply OK_block)|(apply blockQ_n)|(apply blockQ_s)|(apply thenQ_e)|(apply blockQ_e;exact rfl)|(apply thenQ_r)|(apply blockQ_r)|(apply OK_condT;exact rfl)|(apply OK_condF;exact rfl)|(apply OK_skip)|(apply OK_exit)|(apply OK_ret)|(apply OKx_move;(conv=>lhs;whnf)<;>exact rfl)|(apply OKx_assign;(conv=>lhs;whnf)<;>exact rfl)|(apply OKx_ldB;exact rfl;(first | exact at0|exact at1|exact at2|exact at3|exact at4|exact at5|exact at6|exact at7);exact rfl)|(apply OKx_ldR;(conv=>lhs;whnf)<;>exact rfl;(with_reducible assumption))|(apply OKx_len;exact rfl)|(apply OKx_lenR;(conv=>lhs;whnf)<;>exact rfl;(with_reducible assumption))|(apply OKx_lenR2;(conv=>lhs;whnf)<;>exact rfl;(with_reducible assumption))|(apply OKx_lenO;(conv=>lhs;whnf)<;>exact rfl;(first | exact at0|exact at1|exact at2|exact at3|exact at4|exact at5|exact at6|exact at7))|(apply OKx_lenS;exact rfl)|(apply OKx_lss;exact rfl;exact rfl;all_goals (intro _; try (exfalso;omega)))|(apply OKx_neq;exact rfl;exact rfl;all_goals (intro _; try (exfalso;omega)))|(apply OKx_seql;exact rfl;exact rfl; all_goals intro _)|(apply OKx_sneq;exact rfl;exact rfl; all_goals intro _)|(apply OKx_idxO;exact rfl;exact rfl;omega)|(apply OKx_idxR;(conv=>lhs;whnf)<;>exact rfl;(with_reducible assumption);exact rfl;omega;intro _ _)|(apply OKx_idxOz;exact rfl;exact rfl;omega;omega)|(apply OKx_idxRz;(conv=>lhs;whnf)<;>exact rfl;(with_reducible assumption);exact rfl;omega;omega;intro _ _)|(apply OKx_inc;exact rfl;exact rfl;omega)|(apply OKx_addN;exact rfl;exact rfl;omega)|(apply OKx_add;exact rfl;exact rfl;omega;omega)|(apply OKx_pickT;exact rfl;(conv=>lhs;whnf)<;>exact rfl)|(apply OKx_pickF;exact rfl;(conv=>lhs;whnf)<;>exact rfl)|(apply OKx_guardT;exact rfl;exact rfl)|(apply OKx_guardF;exact rfl;exact rfl)|(apply OKx_guardU;exact rfl;exact rfl))
  refine OK_loop2 6 7 [2, 3, 4, 6, 7, 8, 9, 15, 16, 17, 18, 19, 20, 21, 22, 23, 24, 25, 26, 27, 28, 29, 30, 31, 32, 33, 34, 35, 36, 37, 38, 39, 40, 41, 42, 43, 44, 45, 46, 47, 48, 49, 50, 51, 52, 53, 54, 55, 56, 57, 58, 59, 60, 61] (fun mm u6 u7 L => ∃ (i : Nat) (o : List UInt8), i + mm = (prts p).length ∧ litL ((prts p).take i) = some o ∧ o.length = i ∧ u6 = .string (bOf o) ∧ u7 = .int .i64 (i : Int) ∧ L = [.row 9 1 v (prts p).length (strs ((prts p).map bOf))]) (prts p).length _ (Ent.refl _ _) ⟨0, [], by omega, rfl, rfl, rfl, rfl, rfl⟩ ?_
  rintro mm u6 u7 L G ⟨i, o, him, hlo, hol, rfl, rfl, rfl⟩
  by_cases hi : i < (prts p).length
  rotate_left
  · obtain rfl : i = (prts p).length := by omega
    rw [List.take_length] at hlo
    rw [hlo]
    repeat' (first|(apply OK_seq)|(apply thenQ_n)|(apply OK_region)|(apply OKx_nilK)|(apply OK_block)|(apply blockQ_n)|(apply blockQ_s)|(apply thenQ_e)|(apply blockQ_e;exact rfl)|(apply thenQ_r)|(apply blockQ_r)|(apply OK_condT;exact rfl)|(apply OK_condF;exact rfl)|(apply OK_skip)|(apply OK_exit)|(apply OK_ret)|(apply OKx_move;(conv=>lhs;whnf)<;>exact rfl)|(apply OKx_assign;(conv=>lhs;whnf)<;>exact rfl)|(apply OKx_ldB;exact rfl;(first | exact at0|exact at1|exact at2|exact at3|exact at4|exact at5|exact at6|exact at7);exact rfl)|(apply OKx_ldR;(conv=>lhs;whnf)<;>exact rfl;(with_reducible assumption))|(apply OKx_len;exact rfl)|(apply OKx_lenR;(conv=>lhs;whnf)<;>exact rfl;(with_reducible assumption))|(apply OKx_lenR2;(conv=>lhs;whnf)<;>exact rfl;(with_reducible assumption))|(apply OKx_lenO;(conv=>lhs;whnf)<;>exact rfl;(first | exact at0|exact at1|exact at2|exact at3|exact at4|exact at5|exact at6|exact at7))|(apply OKx_lenS;exact rfl)|(apply OKx_lss;exact rfl;exact rfl;all_goals (intro _; try (exfalso;omega)))|(apply OKx_neq;exact rfl;exact rfl;all_goals (intro _; try (exfalso;omega)))|(apply OKx_seql;exact rfl;exact rfl; all_goals intro _)|(apply OKx_sneq;exact rfl;exact rfl; all_goals intro _)|(apply OKx_idxO;exact rfl;exact rfl;omega)|(apply OKx_idxR;(conv=>lhs;whnf)<;>exact rfl;(with_reducible assumption);exact rfl;omega;intro _ _)|(apply OKx_idxOz;exact rfl;exact rfl;omega;omega)|(apply OKx_idxRz;(conv=>lhs;whnf)<;>exact rfl;(with_reducible assumption);exact rfl;omega;omega;intro _ _)|(apply OKx_inc;exact rfl;exact rfl;omega)|(apply OKx_addN;exact rfl;exact rfl;omega)|(apply OKx_add;exact rfl;exact rfl;omega;omega)|(apply OKx_pickT;exact rfl;(conv=>lhs;whnf)<;>exact rfl)|(apply OKx_pickF;exact rfl;(conv=>lhs;whnf)<;>exact rfl)|(apply OKx_guardT;exact rfl;exact rfl)|(apply OKx_guardF;exact rfl;exact rfl)|(apply OKx_guardU;exact rfl;exact rfl))
    refine bodyQ_r3 (by ((conv=>lhs;whnf)<;>exact rfl)) (by ((conv=>lhs;whnf)<;>exact rfl)) (by ((conv=>lhs;whnf)<;>exact rfl)) ?_
    exact ⟨_, Ent.nil, rfl, rfl⟩
  refine OK_world7 fun w1 hw1 => ?_
  obtain ⟨gq, cq, rfl⟩ := hw1.rowForm 0 rfl (by omega)
  have hat := els_at hi
  have hxm : (prts p).getD i [] ∈ prts p := by rw [getD_lt _ _ _ hi]; exact List.getElem_mem hi
  have hok := q1 _ hxm
  have hxl := q2 _ hxm
  have hstop := lit_stop hi
  have hgo := fun c => lit_go (c := c) hi hlo
  generalize (prts p).getD i [] = x at hat hok hxl hstop hgo
  have h0 : 0 < x.length := by
    cases x with
    | nil => exact absurd rfl hok.1
    | cons _ _ => rw [List.length_cons];omega
  have ht1 := take_one h0
  by_cases h91 : x.getD 0 0 = 91
  · obtain ⟨e1, e2, e3, e4⟩ := part_91 hok h91
    rw [h91] at ht1
    have n63 : bOf [91] ≠ bOf [63] := bOf_ne (by decide)
    have n42 : bOf [91] ≠ bOf [42] := bOf_ne (by decide)
    have ht2 := cut_one (x := x) (k := 1) (by omega)
    repeat' (first|(apply OK_seq)|(apply thenQ_n)|(apply OK_region)|(apply OKx_gl; refine OKx_ldW 0 rfl rfl hi hat ?_)|(refine OKx_sslH7 (s := x) (h := 1) rfl rfl (by omega) ht1 ?_)|(refine OKx_sslLH (s := x) (l := 1) (h := 2) rfl rfl rfl (by omega) (by omega) ht2 ?_)|(apply OKx_gn; apply OKx_seql;exact rfl;exact rfl; all_goals (intro hs9; first | (exfalso; exact hs9 rfl) | (exfalso; exact n63 hs9) | (exfalso; exact n42 hs9) | skip))|(apply OKx_nilK)|(apply OK_block)|(apply blockQ_n)|(apply blockQ_s)|(apply thenQ_e)|(apply blockQ_e;exact rfl)|(apply thenQ_r)|(apply blockQ_r)|(apply OK_condT;exact rfl)|(apply OK_condF;exact rfl)|(apply OK_skip)|(apply OK_exit)|(apply OK_ret)|(apply OKx_move;(conv=>lhs;whnf)<;>exact rfl)|(apply OKx_assign;(conv=>lhs;whnf)<;>exact rfl)|(apply OKx_ldB;exact rfl;(first | exact at0|exact at1|exact at2|exact at3|exact at4|exact at5|exact at6|exact at7);exact rfl)|(apply OKx_ldR;(conv=>lhs;whnf)<;>exact rfl;(with_reducible assumption))|(apply OKx_len;exact rfl)|(apply OKx_lenR;(conv=>lhs;whnf)<;>exact rfl;(with_reducible assumption))|(apply OKx_lenR2;(conv=>lhs;whnf)<;>exact rfl;(with_reducible assumption))|(apply OKx_lenO;(conv=>lhs;whnf)<;>exact rfl;(first | exact at0|exact at1|exact at2|exact at3|exact at4|exact at5|exact at6|exact at7))|(apply OKx_lenS;exact rfl)|(apply OKx_lss;exact rfl;exact rfl;all_goals (intro _; try (exfalso;omega)))|(apply OKx_neq;exact rfl;exact rfl;all_goals (intro _; try (exfalso;omega)))|(apply OKx_seql;exact rfl;exact rfl; all_goals intro _)|(apply OKx_sneq;exact rfl;exact rfl; all_goals intro _)|(apply OKx_idxO;exact rfl;exact rfl;omega)|(apply OKx_idxR;(conv=>lhs;whnf)<;>exact rfl;(with_reducible assumption);exact rfl;omega;intro _ _)|(apply OKx_idxOz;exact rfl;exact rfl;omega;omega)|(apply OKx_idxRz;(conv=>lhs;whnf)<;>exact rfl;(with_reducible assumption);exact rfl;omega;omega;intro _ _)|(apply OKx_inc;exact rfl;exact rfl;omega)|(apply OKx_addN;exact rfl;exact rfl;omega)|(apply OKx_add;exact rfl;exact rfl;omega;omega)|(apply OKx_pickT;exact rfl;(conv=>lhs;whnf)<;>exact rfl)|(apply OKx_pickF;exact rfl;(conv=>lhs;whnf)<;>exact rfl)|(apply OKx_guardT;exact rfl;exact rfl)|(apply OKx_guardF;exact rfl;exact rfl)|(apply OKx_guardU;exact rfl;exact rfl))
    refine OK_loop1 9 [2, 3, 4, 9, 39, 40, 41, 42, 43, 44, 45, 46, 47, 48, 49, 50, 51, 52, 53, 54, 55, 56, 57, 58] (fun mm2 u9 L => ∃ k : Nat, k + mm2 = closeI x ∧ 1 ≤ k ∧ (∀ j, 1 ≤ j → j < k → x.getD j 0 = x.getD 1 0) ∧ u9 = .int .i64 (k : Int) ∧ L = [.row 9 1 (.slice (some ⟨gq, 0, none⟩) (prts p).length cq) (prts p).length (strs ((prts p).map bOf))]) (closeI x - 1) _ (Ent.refl _ _) ⟨1, by omega, Nat.le_refl _, fun j h1 h2 => absurd h1 (by omega), rfl, rfl⟩ ?_
    rintro mm2 u9 L G2 ⟨k, hkm, hk1, hall, rfl, rfl⟩
    have hzx : (bOf x).size = x.length := bOf_size x
    by_cases hk : k < closeI x
    · have htk := cut_one (x := x) (k := k) (by omega)
      by_cases heq : x.getD k 0 = x.getD 1 0
      · repeat' (first|(apply OK_seq)|(apply thenQ_n)|(apply OK_region)|(apply OKx_gl; refine OKx_ldW 0 rfl rfl hi hat ?_)|(refine OKx_sslLH (s := x) (l := k) (h := k + 1) rfl rfl rfl (by omega) (by omega) htk ?_)|(apply OKx_gn; apply OKx_sneq;exact rfl;exact rfl; all_goals (intro hs9; first | (exfalso; exact hs9 (by rw [heq])) | skip))|(apply OKx_nilK)|(apply OK_block)|(apply blockQ_n)|(apply blockQ_s)|(apply thenQ_e)|(apply blockQ_e;exact rfl)|(apply thenQ_r)|(apply blockQ_r)|(apply OK_condT;exact rfl)|(apply OK_condF;exact rfl)|(apply OK_skip)|(apply OK_exit)|(apply OK_ret)|(apply OKx_move;(conv=>lhs;whnf)<;>exact rfl)|(apply OKx_assign;(conv=>lhs;whnf)<;>exact rfl)|(apply OKx_ldB;exact rfl;(first | exact at0|exact at1|exact at2|exact at3|exact at4|exact at5|exact at6|exact at7);exact rfl)|(apply OKx_ldR;(conv=>lhs;whnf)<;>exact rfl;(with_reducible assumption))|(apply OKx_len;exact rfl)|(apply OKx_lenR;(conv=>lhs;whnf)<;>exact rfl;(with_reducible assumption))|(apply OKx_lenR2;(conv=>lhs;whnf)<;>exact rfl;(with_reducible assumption))|(apply OKx_lenO;(conv=>lhs;whnf)<;>exact rfl;(first | exact at0|exact at1|exact at2|exact at3|exact at4|exact at5|exact at6|exact at7))|(apply OKx_lenS;exact rfl)|(apply OKx_lss;exact rfl;exact rfl;all_goals (intro _; try (exfalso;omega)))|(apply OKx_neq;exact rfl;exact rfl;all_goals (intro _; try (exfalso;omega)))|(apply OKx_seql;exact rfl;exact rfl; all_goals intro _)|(apply OKx_sneq;exact rfl;exact rfl; all_goals intro _)|(apply OKx_idxO;exact rfl;exact rfl;omega)|(apply OKx_idxR;(conv=>lhs;whnf)<;>exact rfl;(with_reducible assumption);exact rfl;omega;intro _ _)|(apply OKx_idxOz;exact rfl;exact rfl;omega;omega)|(apply OKx_idxRz;(conv=>lhs;whnf)<;>exact rfl;(with_reducible assumption);exact rfl;omega;omega;intro _ _)|(apply OKx_inc;exact rfl;exact rfl;omega)|(apply OKx_addN;exact rfl;exact rfl;omega)|(apply OKx_add;exact rfl;exact rfl;omega;omega)|(apply OKx_pickT;exact rfl;(conv=>lhs;whnf)<;>exact rfl)|(apply OKx_pickF;exact rfl;(conv=>lhs;whnf)<;>exact rfl)|(apply OKx_guardT;exact rfl;exact rfl)|(apply OKx_guardF;exact rfl;exact rfl)|(apply OKx_guardU;exact rfl;exact rfl))
        refine ⟨by (repeat' (first | refine agree_upd rfl ?_ | exact agree_over | exact agree_refl _ _ | refine agree_over2 rfl ?_)), mm2 - 1, _, by omega, Ent.refl _ _, ?_⟩
        refine ⟨k + 1, by omega, by omega, fun j g1 g2 => ?_, rfl, rfl⟩
        by_cases hjk : j < k
        · exact hall j g1 hjk
        · obtain rfl : j = k := by omega
          exact heq
      · have hno : litL (prts p) = none := hstop (none_of ((e3 _).2 ⟨k, hk1, hk, rfl⟩) ((e3 _).2 ⟨1, Nat.le_refl _, by omega, rfl⟩) heq)
        rw [hno]
        repeat' (first|(apply OK_seq)|(apply thenQ_n)|(apply OK_region)|(apply OKx_gl; refine OKx_ldW 0 rfl rfl hi hat ?_)|(refine OKx_sslLH (s := x) (l := k) (h := k + 1) rfl rfl rfl (by omega) (by omega) htk ?_)|(apply OKx_gn; apply OKx_sneq;exact rfl;exact rfl; all_goals (intro hs9; first | (exfalso; exact bOf_ne heq hs9) | skip))|(apply OKx_nilK)|(apply OK_block)|(apply blockQ_n)|(apply blockQ_s)|(apply thenQ_e)|(apply blockQ_e;exact rfl)|(apply thenQ_r)|(apply blockQ_r)|(apply OK_condT;exact rfl)|(apply OK_condF;exact rfl)|(apply OK_skip)|(apply OK_exit)|(apply OK_ret)|(apply OKx_move;(conv=>lhs;whnf)<;>exact rfl)|(apply OKx_assign;(conv=>lhs;whnf)<;>exact rfl)|(apply OKx_ldB;exact rfl;(first | exact at0|exact at1|exact at2|exact at3|exact at4|exact at5|exact at6|exact at7);exact rfl)|(apply OKx_ldR;(conv=>lhs;whnf)<;>exact rfl;(with_reducible assumption))|(apply OKx_len;exact rfl)|(apply OKx_lenR;(conv=>lhs;whnf)<;>exact rfl;(with_reducible assumption))|(apply OKx_lenR2;(conv=>lhs;whnf)<;>exact rfl;(with_reducible assumption))|(apply OKx_lenO;(conv=>lhs;whnf)<;>exact rfl;(first | exact at0|exact at1|exact at2|exact at3|exact at4|exact at5|exact at6|exact at7))|(apply OKx_lenS;exact rfl)|(apply OKx_lss;exact rfl;exact rfl;all_goals (intro _; try (exfalso;omega)))|(apply OKx_neq;exact rfl;exact rfl;all_goals (intro _; try (exfalso;omega)))|(apply OKx_seql;exact rfl;exact rfl; all_goals intro _)|(apply OKx_sneq;exact rfl;exact rfl; all_goals intro _)|(apply OKx_idxO;exact rfl;exact rfl;omega)|(apply OKx_idxR;(conv=>lhs;whnf)<;>exact rfl;(with_reducible assumption);exact rfl;omega;intro _ _)|(apply OKx_idxOz;exact rfl;exact rfl;omega;omega)|(apply OKx_idxRz;(conv=>lhs;whnf)<;>exact rfl;(with_reducible assumption);exact rfl;omega;omega;intro _ _)|(apply OKx_inc;exact rfl;exact rfl;omega)|(apply OKx_addN;exact rfl;exact rfl;omega)|(apply OKx_add;exact rfl;exact rfl;omega;omega)|(apply OKx_pickT;exact rfl;(conv=>lhs;whnf)<;>exact rfl)|(apply OKx_pickF;exact rfl;(conv=>lhs;whnf)<;>exact rfl)|(apply OKx_guardT;exact rfl;exact rfl)|(apply OKx_guardF;exact rfl;exact rfl)|(apply OKx_guardU;exact rfl;exact rfl))
        refine bodyQ_r3 (by ((conv=>lhs;whnf)<;>exact rfl)) (by ((conv=>lhs;whnf)<;>exact rfl)) (by ((conv=>lhs;whnf)<;>exact rfl)) ?_
        exact ⟨_, Ent.nil, rfl, rfl⟩
    · obtain rfl : k = closeI x := by omega
      have hone : elOne x = some (x.getD 1 0) := one_of e4 fun b => by
        rw [e3]
        constructor
        · rintro ⟨j, g1, g2, rfl⟩
          exact hall j g1 g2
        · rintro rfl
          exact ⟨1, Nat.le_refl _, by omega, rfl⟩
      have hg := hgo _ hone
      repeat' (first|(apply OK_seq)|(apply thenQ_n)|(apply OK_region)|(apply OKx_gl; refine OKx_ldW 0 rfl rfl hi hat ?_)|(refine OKx_sadd7 (a := o) (b := [x.getD 1 0]) rfl rfl (by rw [List.length_singleton];omega) rfl ?_)|(apply OKx_nilK)|(apply OK_block)|(apply blockQ_n)|(apply blockQ_s)|(apply thenQ_e)|(apply blockQ_e;exact rfl)|(apply thenQ_r)|(apply blockQ_r)|(apply OK_condT;exact rfl)|(apply OK_condF;exact rfl)|(apply OK_skip)|(apply OK_exit)|(apply OK_ret)|(apply OKx_move;(conv=>lhs;whnf)<;>exact rfl)|(apply OKx_assign;(conv=>lhs;whnf)<;>exact rfl)|(apply OKx_ldB;exact rfl;(first | exact at0|exact at1|exact at2|exact at3|exact at4|exact at5|exact at6|exact at7);exact rfl)|(apply OKx_ldR;(conv=>lhs;whnf)<;>exact rfl;(with_reducible assumption))|(apply OKx_len;exact rfl)|(apply OKx_lenR;(conv=>lhs;whnf)<;>exact rfl;(with_reducible assumption))|(apply OKx_lenR2;(conv=>lhs;whnf)<;>exact rfl;(with_reducible assumption))|(apply OKx_lenO;(conv=>lhs;whnf)<;>exact rfl;(first | exact at0|exact at1|exact at2|exact at3|exact at4|exact at5|exact at6|exact at7))|(apply OKx_lenS;exact rfl)|(apply OKx_lss;exact rfl;exact rfl;all_goals (intro _; try (exfalso;omega)))|(apply OKx_neq;exact rfl;exact rfl;all_goals (intro _; try (exfalso;omega)))|(apply OKx_seql;exact rfl;exact rfl; all_goals intro _)|(apply OKx_sneq;exact rfl;exact rfl; all_goals intro _)|(apply OKx_idxO;exact rfl;exact rfl;omega)|(apply OKx_idxR;(conv=>lhs;whnf)<;>exact rfl;(with_reducible assumption);exact rfl;omega;intro _ _)|(apply OKx_idxOz;exact rfl;exact rfl;omega;omega)|(apply OKx_idxRz;(conv=>lhs;whnf)<;>exact rfl;(with_reducible assumption);exact rfl;omega;omega;intro _ _)|(apply OKx_inc;exact rfl;exact rfl;omega)|(apply OKx_addN;exact rfl;exact rfl;omega)|(apply OKx_add;exact rfl;exact rfl;omega;omega)|(apply OKx_pickT;exact rfl;(conv=>lhs;whnf)<;>exact rfl)|(apply OKx_pickF;exact rfl;(conv=>lhs;whnf)<;>exact rfl)|(apply OKx_guardT;exact rfl;exact rfl)|(apply OKx_guardF;exact rfl;exact rfl)|(apply OKx_guardU;exact rfl;exact rfl))
      refine ⟨by (repeat' (first | refine agree_upd rfl ?_ | exact agree_over | exact agree_refl _ _ | refine agree_over2 rfl ?_)), mm - 1, _, by omega, Ent.refl _ _, ?_⟩
      exact ⟨i + 1, _, by omega, hg, by rw [List.length_append, List.length_singleton, hol], rfl, rfl, rfl⟩
  · obtain ⟨b, rfl, hb91, hb93⟩ := part_one hok h91
    have hgb : ([b] : List UInt8).getD 0 0 = b := rfl
    have n91 : bOf [b] ≠ bOf [91] := bOf_ne hb91
    by_cases h63 : b = 63
    · subst h63
      rw [hstop one_q]
      repeat' (first|(apply OK_seq)|(apply thenQ_n)|(apply OK_region)|(apply OKx_gl; refine OKx_ldW 0 rfl rfl hi hat ?_)|(refine OKx_sslH7 (s := [63]) (h := 1) rfl rfl (by decide) ht1 ?_)|(apply OKx_gn; apply OKx_seql;exact rfl;exact rfl; all_goals (intro hs9; first | (exfalso; exact hs9 rfl) | skip))|(apply OKx_nilK)|(apply OK_block)|(apply blockQ_n)|(apply blockQ_s)|(apply thenQ_e)|(apply blockQ_e;exact rfl)|(apply thenQ_r)|(apply blockQ_r)|(apply OK_condT;exact rfl)|(apply OK_condF;exact rfl)|(apply OK_skip)|(apply OK_exit)|(apply OK_ret)|(apply OKx_move;(conv=>lhs;whnf)<;>exact rfl)|(apply OKx_assign;(conv=>lhs;whnf)<;>exact rfl)|(apply OKx_ldB;exact rfl;(first | exact at0|exact at1|exact at2|exact at3|exact at4|exact at5|exact at6|exact at7);exact rfl)|(apply OKx_ldR;(conv=>lhs;whnf)<;>exact rfl;(with_reducible assumption))|(apply OKx_len;exact rfl)|(apply OKx_lenR;(conv=>lhs;whnf)<;>exact rfl;(with_reducible assumption))|(apply OKx_lenR2;(conv=>lhs;whnf)<;>exact rfl;(with_reducible assumption))|(apply OKx_lenO;(conv=>lhs;whnf)<;>exact rfl;(first | exact at0|exact at1|exact at2|exact at3|exact at4|exact at5|exact at6|exact at7))|(apply OKx_lenS;exact rfl)|(apply OKx_lss;exact rfl;exact rfl;all_goals (intro _; try (exfalso;omega)))|(apply OKx_neq;exact rfl;exact rfl;all_goals (intro _; try (exfalso;omega)))|(apply OKx_seql;exact rfl;exact rfl; all_goals intro _)|(apply OKx_sneq;exact rfl;exact rfl; all_goals intro _)|(apply OKx_idxO;exact rfl;exact rfl;omega)|(apply OKx_idxR;(conv=>lhs;whnf)<;>exact rfl;(with_reducible assumption);exact rfl;omega;intro _ _)|(apply OKx_idxOz;exact rfl;exact rfl;omega;omega)|(apply OKx_idxRz;(conv=>lhs;whnf)<;>exact rfl;(with_reducible assumption);exact rfl;omega;omega;intro _ _)|(apply OKx_inc;exact rfl;exact rfl;omega)|(apply OKx_addN;exact rfl;exact rfl;omega)|(apply OKx_add;exact rfl;exact rfl;omega;omega)|(apply OKx_pickT;exact rfl;(conv=>lhs;whnf)<;>exact rfl)|(apply OKx_pickF;exact rfl;(conv=>lhs;whnf)<;>exact rfl)|(apply OKx_guardT;exact rfl;exact rfl)|(apply OKx_guardF;exact rfl;exact rfl)|(apply OKx_guardU;exact rfl;exact rfl))
      refine bodyQ_r3 (by ((conv=>lhs;whnf)<;>exact rfl)) (by ((conv=>lhs;whnf)<;>exact rfl)) (by ((conv=>lhs;whnf)<;>exact rfl)) ?_
      exact ⟨_, Ent.nil, rfl, rfl⟩
    have n63 : bOf [b] ≠ bOf [63] := bOf_ne h63
    by_cases h42 : b = 42
    · subst h42
      rw [hstop one_star]
      repeat' (first|(apply OK_seq)|(apply thenQ_n)|(apply OK_region)|(apply OKx_gl; refine OKx_ldW 0 rfl rfl hi hat ?_)|(refine OKx_sslH7 (s := [42]) (h := 1) rfl rfl (by decide) ht1 ?_)|(apply OKx_gn; apply OKx_seql;exact rfl;exact rfl; all_goals (intro hs9; first | (exfalso; exact hs9 rfl) | (exfalso; exact n63 hs9) | skip))|(apply OKx_nilK)|(apply OK_block)|(apply blockQ_n)|(apply blockQ_s)|(apply thenQ_e)|(apply blockQ_e;exact rfl)|(apply thenQ_r)|(apply blockQ_r)|(apply OK_condT;exact rfl)|(apply OK_condF;exact rfl)|(apply OK_skip)|(apply OK_exit)|(apply OK_ret)|(apply OKx_move;(conv=>lhs;whnf)<;>exact rfl)|(apply OKx_assign;(conv=>lhs;whnf)<;>exact rfl)|(apply OKx_ldB;exact rfl;(first | exact at0|exact at1|exact at2|exact at3|exact at4|exact at5|exact at6|exact at7);exact rfl)|(apply OKx_ldR;(conv=>lhs;whnf)<;>exact rfl;(with_reducible assumption))|(apply OKx_len;exact rfl)|(apply OKx_lenR;(conv=>lhs;whnf)<;>exact rfl;(with_reducible assumption))|(apply OKx_lenR2;(conv=>lhs;whnf)<;>exact rfl;(with_reducible assumption))|(apply OKx_lenO;(conv=>lhs;whnf)<;>exact rfl;(first | exact at0|exact at1|exact at2|exact at3|exact at4|exact at5|exact at6|exact at7))|(apply OKx_lenS;exact rfl)|(apply OKx_lss;exact rfl;exact rfl;all_goals (intro _; try (exfalso;omega)))|(apply OKx_neq;exact rfl;exact rfl;all_goals (intro _; try (exfalso;omega)))|(apply OKx_seql;exact rfl;exact rfl; all_goals intro _)|(apply OKx_sneq;exact rfl;exact rfl; all_goals intro _)|(apply OKx_idxO;exact rfl;exact rfl;omega)|(apply OKx_idxR;(conv=>lhs;whnf)<;>exact rfl;(with_reducible assumption);exact rfl;omega;intro _ _)|(apply OKx_idxOz;exact rfl;exact rfl;omega;omega)|(apply OKx_idxRz;(conv=>lhs;whnf)<;>exact rfl;(with_reducible assumption);exact rfl;omega;omega;intro _ _)|(apply OKx_inc;exact rfl;exact rfl;omega)|(apply OKx_addN;exact rfl;exact rfl;omega)|(apply OKx_add;exact rfl;exact rfl;omega;omega)|(apply OKx_pickT;exact rfl;(conv=>lhs;whnf)<;>exact rfl)|(apply OKx_pickF;exact rfl;(conv=>lhs;whnf)<;>exact rfl)|(apply OKx_guardT;exact rfl;exact rfl)|(apply OKx_guardF;exact rfl;exact rfl)|(apply OKx_guardU;exact rfl;exact rfl))
      refine bodyQ_r3 (by ((conv=>lhs;whnf)<;>exact rfl)) (by ((conv=>lhs;whnf)<;>exact rfl)) (by ((conv=>lhs;whnf)<;>exact rfl)) ?_
      exact ⟨_, Ent.nil, rfl, rfl⟩
    have n42 : bOf [b] ≠ bOf [42] := bOf_ne h42
    have hg := hgo _ (one_plain h63 h42 hb91)
    repeat' (first|(apply OK_seq)|(apply thenQ_n)|(apply OK_region)|(apply OKx_gl; refine OKx_ldW 0 rfl rfl hi hat ?_)|(refine OKx_sslH7 (s := [b]) (h := 1) rfl rfl (by rw [List.length_singleton];omega) ht1 ?_)|(apply OKx_gn; apply OKx_seql;exact rfl;exact rfl; all_goals (intro hs9; first | (exfalso; exact n63 hs9) | (exfalso; exact n42 hs9) | (exfalso; exact n91 hs9) | skip))|(refine OKx_sadd7 (a := o) (b := [b]) rfl rfl (by rw [List.length_singleton];omega) rfl ?_)|(apply OKx_nilK)|(apply OK_block)|(apply blockQ_n)|(apply blockQ_s)|(apply thenQ_e)|(apply blockQ_e;exact rfl)|(apply thenQ_r)|(apply blockQ_r)|(apply OK_condT;exact rfl)|(apply OK_condF;exact rfl)|(apply OK_skip)|(apply OK_exit)|(apply OK_ret)|(apply OKx_move;(conv=>lhs;whnf)<;>exact rfl)|(apply OKx_assign;(conv=>lhs;whnf)<;>exact rfl)|(apply OKx_ldB;exact rfl;(first | exact at0|exact at1|exact at2|exact at3|exact at4|exact at5|exact at6|exact at7);exact rfl)|(apply OKx_ldR;(conv=>lhs;whnf)<;>exact rfl;(with_reducible assumption))|(apply OKx_len;exact rfl)|(apply OKx_lenR;(conv=>lhs;whnf)<;>exact rfl;(with_reducible assumption))|(apply OKx_lenR2;(conv=>lhs;whnf)<;>exact rfl;(with_reducible assumption))|(apply OKx_lenO;(conv=>lhs;whnf)<;>exact rfl;(first | exact at0|exact at1|exact at2|exact at3|exact at4|exact at5|exact at6|exact at7))|(apply OKx_lenS;exact rfl)|(apply OKx_lss;exact rfl;exact rfl;all_goals (intro _; try (exfalso;omega)))|(apply OKx_neq;exact rfl;exact rfl;all_goals (intro _; try (exfalso;omega)))|(apply OKx_seql;exact rfl;exact rfl; all_goals intro _)|(apply OKx_sneq;exact rfl;exact rfl; all_goals intro _)|(apply OKx_idxO;exact rfl;exact rfl;omega)|(apply OKx_idxR;(conv=>lhs;whnf)<;>exact rfl;(with_reducible assumption);exact rfl;omega;intro _ _)|(apply OKx_idxOz;exact rfl;exact rfl;omega;omega)|(apply OKx_idxRz;(conv=>lhs;whnf)<;>exact rfl;(with_reducible assumption);exact rfl;omega;omega;intro _ _)|(apply OKx_inc;exact rfl;exact rfl;omega)|(apply OKx_addN;exact rfl;exact rfl;omega)|(apply OKx_add;exact rfl;exact rfl;omega;omega)|(apply OKx_pickT;exact rfl;(conv=>lhs;whnf)<;>exact rfl)|(apply OKx_pickF;exact rfl;(conv=>lhs;whnf)<;>exact rfl)|(apply OKx_guardT;exact rfl;exact rfl)|(apply OKx_guardF;exact rfl;exact rfl)|(apply OKx_guardU;exact rfl;exact rfl))
    refine ⟨by (repeat' (first | refine agree_upd rfl ?_ | exact agree_over | exact agree_refl _ _ | refine agree_over2 rfl ?_)), mm - 1, _, by omega, Ent.refl _ _, ?_⟩
    exact ⟨i + 1, _, by omega, hg, by rw [List.length_append, List.length_singleton, hol], rfl, rfl, rfl⟩
end Go.Proofs.Ytbooccpfdekaiaa
namespace Go.Proofs.Ytbooccpfdekaiaa
open Go.RowKit
def lexL : List UInt8 → List UInt8 → Prop
  | [], [] => False
  | _ :: _, [] => False
  | [], _ :: _ => True
  | a :: r, b :: s => a.toNat < b.toNat ∨ (a = b ∧ lexL r s)
theorem lexL_nil : ∀ u, ¬ lexL u []
  | [] => fun h => h
  | _ :: _ => fun h => h
theorem lexL_irr : ∀ u, ¬ lexL u u
  | [] => fun h => h
  | a :: r => fun h => by
    rcases h with h | ⟨_, h⟩
    · omega
    · exact lexL_irr r h
theorem lexL_trans : ∀ {u v w : List UInt8}, lexL u v → lexL v w → lexL u w
  | _, [], _, h, _ => absurd h (lexL_nil _)
  | _, _ :: _, [], _, h => absurd h (lexL_nil _)
  | [], _ :: _, _ :: _, _, _ => trivial
  | a :: u, b :: v, c :: w, h, k => by
    rcases h with h | ⟨rfl, h⟩
    · rcases k with k | ⟨rfl, k⟩
      · exact .inl (by omega)
      · exact .inl h
    · rcases k with k | ⟨rfl, k⟩
      · exact .inl k
      · exact .inr ⟨rfl, lexL_trans h k⟩
theorem lexL_app {c d : UInt8} : ∀ {u v : List UInt8}, u.length = v.length → lexL u v → lexL (u ++ [c]) (v ++ [d])
  | _, [], _, h => absurd h (lexL_nil _)
  | [], _ :: _, h, _ => by simp at h
  | a :: u, b :: v, hl, h => by
    rcases h with h | ⟨rfl, h⟩
    · exact .inl h
    · exact .inr ⟨rfl, lexL_app (by simpa using hl) h⟩
theorem lexL_last {c d : UInt8} (h : c.toNat < d.toNat) : ∀ u : List UInt8, lexL (u ++ [c]) (u ++ [d])
  | [] => .inl h
  | _ :: u => .inr ⟨rfl, lexL_last h u⟩
def ltW (u w : List UInt8) : Prop := u.length < w.length ∨ (u.length = w.length ∧ lexL u w)
theorem ltW_irr (u : List UInt8) : ¬ ltW u u := fun h => h.elim (fun h => Nat.lt_irrefl _ h) (fun h => lexL_irr u h.2)
theorem ltW_trans {u v w : List UInt8} (h : ltW u v) (k : ltW v w) : ltW u w := by
  rcases h with h | ⟨h, h'⟩
  · rcases k with k | ⟨k, _⟩
    · exact .inl (by omega)
    · exact .inl (by omega)
  · rcases k with k | ⟨k, k'⟩
    · exact .inl (by omega)
    · exact .inr ⟨by omega, lexL_trans h' k'⟩
theorem ltW_app {u v : List UInt8} (c d : UInt8) (h : ltW u v) : ltW (u ++ [c]) (v ++ [d]) := by
  rcases h with h | ⟨h, h'⟩
  · exact .inl (by simpa using h)
  · exact .inr ⟨by simpa using h, lexL_app h h'⟩
theorem ltW_last {c d : UInt8} (h : c.toNat < d.toNat) (u : List UInt8) : ltW (u ++ [c]) (u ++ [d]) := .inr ⟨by simp, lexL_last h u⟩
theorem ltW_snoc (u : List UInt8) (c : UInt8) : ltW u (u ++ [c]) := .inl (by simp)
theorem ltW_nil (u : List UInt8) (c : UInt8) : ltW [] (u ++ [c]) := .inl (by simp)
def leW (u w : List UInt8) : Prop := u = w ∨ ltW u w
theorem leW_trans {u v w : List UInt8} (h : leW u v) (k : leW v w) : leW u w := by
  rcases h with rfl | h
  · exact k
  · rcases k with rfl | k
    · exact .inr h
    · exact .inr (ltW_trans h k)
theorem leW_lt {u v w : List UInt8} (h : leW u v) (k : ltW v w) : ltW u w := by
  rcases h with rfl | h
  · exact k
  · exact ltW_trans h k
theorem leW_app {u v : List UInt8} (c : UInt8) (h : leW u v) : leW (u ++ [c]) (v ++ [c]) := by
  rcases h with rfl | h
  · exact .inl rfl
  · exact .inr (ltW_app c c h)
theorem leW_len {u v : List UInt8} (h : leW u v) : u.length ≤ v.length := by
  rcases h with rfl | h | ⟨h, _⟩ <;> omega
theorem nxtK_zero (l : List Elc) (c : UInt8) : ∀ k, nxtK l 0 c k = 0
  | 0 => rfl
  | k + 1 => by
    rw [nxtK_succ, nxtK_zero l c k]
    unfold nxtE
    rw [Nat.zero_testBit, if_neg (by decide)]
theorem runM_ne {l : List Elc} {w : List UInt8} {c : UInt8} (h : runM l (w ++ [c]) ≠ 0) : runM l w ≠ 0 := fun e => h (by
  rw [runM_snoc, e]
  exact nxtK_zero l c _)
theorem mtB_ne {l : List Elc} {w : List UInt8} (h : mtB l w = true) : runM l w ≠ 0 := fun e => by
  unfold mtB at h
  rw [e, Nat.zero_testBit] at h
  cases h
def sameS (a b : List Elc) (u v : List UInt8) : Prop := runM a u = runM a v ∧ runM b u = runM b v
structure Bfs (a b : List Elc) (most : Nat) (Q : List (List UInt8)) (i c : Nat) : Prop where
  nil : Q[0]? = some []
  words : ∀ w ∈ Q, (∀ d ∈ w, chrB d = true) ∧ w.length ≤ most
  sorted : Q.Pairwise ltW
  diff : Q.Pairwise (fun u v => ¬ sameS a b u v)
  parent : ∀ v ∈ Q, v = [] ∨ ∃ j x d, Q[j]? = some x ∧ v = x ++ [d] ∧ (j < i ∨ (j = i ∧ d.toNat < c))
  done : ∀ j x d, Q[j]? = some x → (j < i ∨ (j = i ∧ d.toNat < c)) → x.length < most → chrB d = true → runM a (x ++ [d]) ≠ 0 → runM b (x ++ [d]) ≠ 0 → ∃ v ∈ Q, sameS a b v (x ++ [d]) ∧ leW v (x ++ [d])
  noacc : ∀ j x, Q[j]? = some x → j < i → ¬ (mtB a x = true ∧ mtB b x = true)
section
variable {a b : List Elc} {most : Nat} {Q : List (List UInt8)} {i c : Nat}
theorem bfs_0 (a b : List Elc) (most : Nat) : Bfs a b most [[]] 0 0 where
  nil := rfl
  words := fun w hw => by
    rw [List.mem_singleton] at hw
    subst hw
    exact ⟨fun d hd => absurd hd List.not_mem_nil, Nat.zero_le _⟩
  sorted := List.pairwise_singleton _ _
  diff := List.pairwise_singleton _ _
  parent := fun v hv => .inl (List.mem_singleton.1 hv)
  done := fun j x d _ h => by omega
  noacc := fun j x _ h => absurd h (Nat.not_lt_zero _)
theorem pw_at {α : Type} {R : α → α → Prop} : ∀ {l : List α}, l.Pairwise R → ∀ {j k : Nat} {x y : α}, l[j]? = some x → l[k]? = some y → j < k → R x y := by
  intro l h j k x y hj hk hjk
  obtain ⟨h1, rfl⟩ := List.getElem?_eq_some_iff.1 hj
  obtain ⟨h2, rfl⟩ := List.getElem?_eq_some_iff.1 hk
  exact List.pairwise_iff_getElem.1 h j k h1 h2 hjk
theorem Bfs.behind (h : Bfs a b most Q i c) {x : List UInt8} (hx : Q[i]? = some x) {d : UInt8} (hd : d.toNat = c) : ∀ v ∈ Q, ltW v (x ++ [d]) := by
  intro v hv
  rcases h.parent v hv with rfl | ⟨j, y, e, hy, rfl, hj | ⟨rfl, he⟩⟩
  · exact ltW_nil x d
  · exact ltW_app e d (pw_at h.sorted hy hx hj)
  · rw [hy] at hx
    cases hx
    exact ltW_last (by omega) _
theorem Bfs.step (h : Bfs a b most Q i c) {x : List UInt8} (hx : Q[i]? = some x) {d : UInt8} (hd : d.toNat = c)
    (hk : x.length < most → chrB d = true → runM a (x ++ [d]) ≠ 0 → runM b (x ++ [d]) ≠ 0 → ∃ v ∈ Q, sameS a b v (x ++ [d])) : Bfs a b most Q i (c + 1) where
  nil := h.nil
  words := h.words
  sorted := h.sorted
  diff := h.diff
  parent := fun v hv => by
    rcases h.parent v hv with e | ⟨j, y, e, hy, hv', hj⟩
    · exact .inl e
    · exact .inr ⟨j, y, e, hy, hv', by omega⟩
  done := fun j y e hy hj h1 h2 h3 h4 => by
    by_cases hc : j = i ∧ e.toNat = c
    · obtain ⟨rfl, he⟩ := hc
      rw [hx] at hy
      cases hy
      have : e = d := UInt8.toNat_inj.1 (by omega)
      subst this
      obtain ⟨v, hv, hs⟩ := hk h1 h2 h3 h4
      exact ⟨v, hv, hs, .inr (h.behind hx hd v hv)⟩
    · exact h.done j y e hy (by omega) h1 h2 h3 h4
  noacc := h.noacc
theorem Bfs.add (h : Bfs a b most Q i c) {x : List UInt8} (hx : Q[i]? = some x) {d : UInt8} (hd : d.toNat = c) (hl : x.length < most) (hc : chrB d = true)
    (hn : ∀ v ∈ Q, ¬ sameS a b v (x ++ [d])) : Bfs a b most (Q ++ [x ++ [d]]) i (c + 1) where
  nil := by
    have := (List.getElem?_eq_some_iff.1 h.nil).1
    rw [List.getElem?_append_left this]; exact h.nil
  words := fun w hw => by
    rcases List.mem_append.1 hw with hw | hw
    · exact h.words w hw
    · rw [List.mem_singleton] at hw
      subst hw
      refine ⟨fun e he => ?_, by rw [List.length_append, List.length_singleton];omega⟩
      rcases List.mem_append.1 he with he | he
      · exact (h.words x (List.mem_of_getElem? hx)).1 e he
      · rw [List.mem_singleton] at he; subst he; exact hc
  sorted := List.pairwise_append.2 ⟨h.sorted, List.pairwise_singleton _ _, fun v hv w hw => by
    rw [List.mem_singleton] at hw
    subst hw
    exact h.behind hx hd v hv⟩
  diff := List.pairwise_append.2 ⟨h.diff, List.pairwise_singleton _ _, fun v hv w hw => by
    rw [List.mem_singleton] at hw
    subst hw
    exact hn v hv⟩
  parent := fun v hv => by
    have hi := (List.getElem?_eq_some_iff.1 hx).1
    rcases List.mem_append.1 hv with hv | hv
    · rcases h.parent v hv with e | ⟨j, y, e, hy, hv', hj⟩
      · exact .inl e
      · exact .inr ⟨j, y, e, by rw [List.getElem?_append_left (List.getElem?_eq_some_iff.1 hy).1]; exact hy, hv', by omega⟩
    · rw [List.mem_singleton] at hv
      exact .inr ⟨i, x, d, by rw [List.getElem?_append_left hi]; exact hx, hv, by omega⟩
  done := fun j y e hy hj h1 h2 h3 h4 => by
    have hi := (List.getElem?_eq_some_iff.1 hx).1
    rw [List.getElem?_append_left (by omega)] at hy
    by_cases hce : j = i ∧ e.toNat = c
    · obtain ⟨rfl, he⟩ := hce
      rw [hx] at hy
      cases hy
      have : e = d := UInt8.toNat_inj.1 (by omega)
      subst this
      exact ⟨_, List.mem_append_right _ (List.mem_singleton.2 rfl), ⟨rfl, rfl⟩, .inl rfl⟩
    · obtain ⟨v, hv, hs⟩ := h.done j y e hy (by omega) h1 h2 h3 h4
      exact ⟨v, List.mem_append_left _ hv, hs⟩
  noacc := fun j y hy hj => by
    have hi := (List.getElem?_eq_some_iff.1 hx).1
    rw [List.getElem?_append_left (by omega)] at hy
    exact h.noacc j y hy hj
theorem Bfs.next (h : Bfs a b most Q i c) (hc : c = 256 ∨ ∀ x, Q[i]? = some x → ¬ x.length < most) (hn : ∀ x, Q[i]? = some x → ¬ (mtB a x = true ∧ mtB b x = true)) : Bfs a b most Q (i + 1) 0 where
  nil := h.nil
  words := h.words
  sorted := h.sorted
  diff := h.diff
  parent := fun v hv => by
    rcases h.parent v hv with e | ⟨j, y, e, hy, hv', hj⟩
    · exact .inl e
    · exact .inr ⟨j, y, e, hy, hv', by omega⟩
  done := fun j y e hy hj h1 h2 h3 h4 => by
    have he := e.toNat_lt
    by_cases hji : j = i
    · subst hji
      rcases hc with rfl | hc
      · exact h.done j y e hy (.inr ⟨rfl, he⟩) h1 h2 h3 h4
      · exact absurd h1 (hc y hy)
    · exact h.done j y e hy (by omega) h1 h2 h3 h4
  noacc := fun j y hy hj => by
    by_cases hji : j = i
    · subst hji; exact hn y hy
    · exact h.noacc j y hy (by omega)
theorem Bfs.reach (h : Bfs a b most Q i 0) : ∀ u : List UInt8, (∀ d ∈ u, chrB d = true) → u.length ≤ most → runM a u ≠ 0 → runM b u ≠ 0 → (∀ (k : Nat) (v : List UInt8), Q[k]? = some v → leW v u → k < i) → ∃ (k : Nat) (v : List UInt8), Q[k]? = some v ∧ sameS a b v u ∧ leW v u := by
  intro u
  induction u using snocInd7 with
  | h0 =>
    intro _ _ _ _ _
    exact ⟨0, [], h.nil, ⟨rfl, rfl⟩, .inl rfl⟩
  | hs u d ih =>
    intro h1 h2 h3 h4 h5
    rw [List.length_append, List.length_singleton] at h2
    have hsn := ltW_snoc u d
    obtain ⟨k, v, hv, hs, hle⟩ := ih (fun e he => h1 e (List.mem_append_left _ he)) (by omega) (runM_ne h3) (runM_ne h4) (fun k v hk hl => h5 k v hk (leW_trans hl (.inr hsn)))
    have hk := h5 k v hv (leW_trans hle (.inr hsn))
    have hlv := leW_len hle
    have e1 : runM a (v ++ [d]) = runM a (u ++ [d]) := by rw [runM_snoc, runM_snoc, hs.1]
    have e2 : runM b (v ++ [d]) = runM b (u ++ [d]) := by rw [runM_snoc, runM_snoc, hs.2]
    obtain ⟨v2, hv2, hs2, hle2⟩ := h.done k v d hv (.inl hk) (by omega) (h1 d (List.mem_append_right _ (List.mem_singleton.2 rfl))) (by rw [e1]; exact h3) (by rw [e2]; exact h4)
    obtain ⟨k2, hk2⟩ := List.getElem?_of_mem hv2
    exact ⟨k2, v2, hk2, ⟨hs2.1.trans e1, hs2.2.trans e2⟩, leW_trans hle2 (leW_app d hle)⟩
def Good (a b : List Elc) (most : Nat) (u : List UInt8) : Prop := (∀ d ∈ u, chrB d = true) ∧ u.length ≤ most ∧ mtB a u = true ∧ mtB b u = true
def First (a b : List Elc) (most : Nat) (w : List UInt8) : Prop := Good a b most w ∧ ∀ u, Good a b most u → ¬ ltW u w
theorem same_acc {u v : List UInt8} (h : sameS a b u v) : mtB a u = mtB a v ∧ mtB b u = mtB b v := by
  unfold mtB
  rw [h.1, h.2]
  exact ⟨rfl, rfl⟩
theorem Bfs.found (h : Bfs a b most Q i 0) {w : List UInt8} (hw : Q[i]? = some w) (ha : mtB a w = true) (hb : mtB b w = true) : First a b most w := by
  have hm := h.words w (List.mem_of_getElem? hw)
  refine ⟨⟨hm.1, hm.2, ha, hb⟩, fun u hu hlt => ?_⟩
  have key : ∀ (k : Nat) (v : List UInt8), Q[k]? = some v → leW v u → k < i := fun k v hk hl => by
    have hvw := leW_lt hl hlt
    refine Decidable.byContradiction fun hki => ?_
    by_cases he : k = i
    · subst he
      rw [hk] at hw
      cases hw
      exact ltW_irr _ hvw
    · exact ltW_irr _ (ltW_trans hvw (pw_at h.sorted hw hk (by omega)))
  obtain ⟨k, v, hv, hs, hle⟩ := h.reach u hu.1 hu.2.1 (mtB_ne hu.2.2.1) (mtB_ne hu.2.2.2) key
  have hk := key k v hv hle
  have := same_acc hs
  exact h.noacc k v hv hk ⟨by rw [this.1]; exact hu.2.2.1, by rw [this.2]; exact hu.2.2.2⟩
theorem Bfs.none (h : Bfs a b most Q i 0) (hi : Q.length ≤ i) : ∀ u, ¬ Good a b most u := fun u hu => by
  have key : ∀ (k : Nat) (v : List UInt8), Q[k]? = some v → leW v u → k < i := fun k v hk _ => by
    have := (List.getElem?_eq_some_iff.1 hk).1
    omega
  obtain ⟨k, v, hv, hs, hle⟩ := h.reach u hu.1 hu.2.1 (mtB_ne hu.2.2.1) (mtB_ne hu.2.2.2) key
  have hk := key k v hv hle
  have := same_acc hs
  exact h.noacc k v hv hk ⟨by rw [this.1]; exact hu.2.2.1, by rw [this.2]; exact hu.2.2.2⟩
theorem Bfs.size (h : Bfs a b most Q i c) : Q.length ≤ 2 ^ (a.length + 1) * 2 ^ (b.length + 1) := by
  have hn : (Q.map fun w => runM a w * 2 ^ (b.length + 1) + runM b w).Nodup := by
    refine List.pairwise_map.2 (h.diff.imp fun {u v} hd e => hd ?_)
    have hu := runM_lt b u
    have hv := runM_lt b v
    have hp : 0 < 2 ^ (b.length + 1) := Nat.pow_pos (by decide)
    have e1 : (runM a u * 2 ^ (b.length + 1) + runM b u) / 2 ^ (b.length + 1) = (runM a v * 2 ^ (b.length + 1) + runM b v) / 2 ^ (b.length + 1) := by rw [e]
    have e2 : (runM a u * 2 ^ (b.length + 1) + runM b u) % 2 ^ (b.length + 1) = (runM a v * 2 ^ (b.length + 1) + runM b v) % 2 ^ (b.length + 1) := by rw [e]
    rw [Nat.mul_comm, Nat.mul_add_div hp, Nat.div_eq_of_lt hu, Nat.add_zero, Nat.mul_comm, Nat.mul_add_div hp, Nat.div_eq_of_lt hv, Nat.add_zero] at e1
    rw [Nat.mul_comm, Nat.mul_add_mod, Nat.mod_eq_of_lt hu, Nat.mul_comm, Nat.mul_add_mod, Nat.mod_eq_of_lt hv] at e2
    exact ⟨e1, e2⟩
  have hsub : (Q.map fun w => runM a w * 2 ^ (b.length + 1) + runM b w) ⊆ List.range (2 ^ (a.length + 1) * 2 ^ (b.length + 1)) := fun x hx => by
    obtain ⟨w, _, rfl⟩ := List.mem_map.1 hx
    have h1 := runM_lt a w
    have h2 := runM_lt b w
    rw [List.mem_range]
    have h3 : (runM a w + 1) * 2 ^ (b.length + 1) ≤ 2 ^ (a.length + 1) * 2 ^ (b.length + 1) := Nat.mul_le_mul_right _ h1
    rw [Nat.succ_mul] at h3
    omega
  have := hn.length_le_of_subset hsub
  rwa [List.length_map, List.length_range] at this
end
end Go.Proofs.Ytbooccpfdekaiaa
