/-
  Part 13 of the proof: D38, Mx. No statement of the seat is proved here.
-/
import Derived.Test.YtmclgfipdgmomaaGreatMHPlaces12
namespace Go.Proofs.YtmclgfipdgmomaaGreat
open Go.RowKit
def sameB (all : List Int) (i : Nat) (p : Int) : Bool := all.getD p.toNat 0 == all.getD i 0
def chV (par : List (List Int)) (all : List Int) (i : Nat) : Int := ((par.getD i []).find? (sameB all i)).getD (-1)
set_option maxRecDepth 100000 in
set_option maxHeartbeats 4000000 in
theorem choice1_sat (pt pi av : Value) (all : List Int) (i : Nat) (p : Int) (w : World) (h1 : Pt1 w pt av) (h2 : Pt1 w pi (.int .i64 (i : Int))) (ha : Ints w av all) (h0 : 0 ≤ p) (hp : p.toNat < all.length) (hi : i < all.length) : SatV Tryz.prog 103 [.int .i64 p, pt, pi] w (.bool (sameB all i p)) := by
  have hav := ha.sl
  have hab := hav.bound
  refine SatL.of 14 [4] Tryz.func103 (by kernel_rfl) (by kernel_rfl) rfl rfl rfl rfl ?_
  repeat' (first|(apply OK_seq)|(apply thenQ_n)|(apply OK_region)|(refine OK_rid 1 ?_; refine OK_quiet (id := 1) (by kernel_rfl) (by kernel_rfl) ?_)|(apply OKx_nilK)|(apply OK_block)|(apply blockQ_n)|(apply blockQ_s)|(apply thenQ_e)|(apply blockQ_e;exact rfl)|(apply thenQ_r)|(apply blockQ_r)|(apply OK_condT;exact rfl)|(apply OK_condF;exact rfl)|(apply OK_skip)|(apply OK_exit)|(apply OK_ret)|(apply OKx_move;(conv=>lhs;whnf)<;>exact rfl)|(apply OKx_assign;(conv=>lhs;whnf)<;>exact rfl)|(apply OKx_ldB;exact rfl;(first | exact at0|exact at1|exact at2|exact at3|exact at4|exact at5|exact at6|exact at7);exact rfl)|(apply OKx_ldR;(conv=>lhs;whnf)<;>exact rfl;(with_reducible assumption))|(apply OKx_ldI;exact rfl;(first | exact at0|exact at1|exact at2|exact at3|exact at4|exact at5|exact at6|exact at7);omega)|(apply OKx_eql;exact rfl;exact rfl;all_goals (intro _; try (exfalso;omega)))|(apply OKx_idxO;exact rfl;exact rfl;omega)|(apply OKx_idxR;(conv=>lhs;whnf)<;>exact rfl;(with_reducible assumption);exact rfl;omega;intro _ _)|(apply OKx_idxOz;exact rfl;exact rfl;omega;omega)|(apply OKx_idxRz;(conv=>lhs;whnf)<;>exact rfl;(with_reducible assumption);exact rfl;omega;omega;intro _ _))
  · rename_i he
    refine bodyQ_r1 (by ((conv=>lhs;whnf)<;>exact rfl)) ?_
    exact ⟨_, Ent.nil, bool_eq (by unfold sameB; rw [he]; simp), rfl⟩
  · rename_i he
    refine bodyQ_r1 (by ((conv=>lhs;whnf)<;>exact rfl)) ?_
    exact ⟨_, Ent.nil, bool_eq (by unfold sameB; first | exact beq_eq_false_iff_ne.2 he | exact (beq_eq_false_iff_ne.2 he).symm), rfl⟩
set_option maxRecDepth 100000 in
set_option maxHeartbeats 4000000 in
theorem choice_sat (v av : Value) (s : Stem) (all : List Int) (i : Nat) (w : World) (h : Stm w v s) (ha : Ints w av all) (hi : i < s.par.length) (hl : all.length = s.par.length) (hok : okPar s.par) : SatV Tryz.prog 85 [v, av, .int .i64 (i : Int)] w (.int .i64 (chV s.par all i)) := by
  obtain ⟨nv, ev, pv, rfl, hS, hE, hP⟩ := h
  obtain ⟨fv, hpv, hrow⟩ := hP.rows
  have hpb := hpv.bound
  have hr : ∀ j, j < (s.par.getD i []).length → 0 ≤ (s.par.getD i []).getD j 0 ∧ (s.par.getD i []).getD j 0 < i := fun j hj => by
    have hg : s.par.getD i [] = s.par[i] := getD_lt _ _ _ hi
    exact hok i hi _ (by rw [getD_lt _ _ _ hj]; exact hg ▸ List.getElem_mem hj)
  have hxi := (hrow i).sl
  have hxb := hxi.bound
  generalize hxs : s.par.getD i [] = xs at *
  obtain ⟨aa, ac, rfl, _⟩ := ha.at
  refine SatL.of 25 [6] Tryz.func85 (by kernel_rfl) (by kernel_rfl) rfl rfl rfl rfl ?_
  repeat' (first|(apply OK_seq)|(apply thenQ_n)|(apply OK_region)|(apply OKx_gc 71;exact rfl; refine OKx_call (f := 71) rfl rfl (fun w1 hp => indexW_int_sat _ xs.length (fun j => .int .i64 (xs.getD j 0)) (fun j => sameB all i (xs.getD j 0)) _ _ w1 (hxi.below hp.below) (fun j hj w2 hb2 => choice1_sat _ _ _ all i _ w2 (Pt1.below ⟨_, _, rfl, (hp.boxAt 1 rfl).1 0⟩ hb2) (Pt1.below ⟨_, _, rfl, (hp.boxAt 0 rfl).1 0⟩ hb2) ((ha.below hp.below).below hb2) (hr j hj).1 (by have := hr j hj;omega) (by omega))) ?_; rintro _ _ ⟨rfl, (⟨k, hk, rfl, hon, hfirst⟩ | ⟨rfl, hno⟩)⟩)|(apply OKx_nilK)|(apply OK_block)|(apply blockQ_n)|(apply blockQ_s)|(apply thenQ_e)|(apply blockQ_e;exact rfl)|(apply thenQ_r)|(apply blockQ_r)|(apply OK_condT;exact rfl)|(apply OK_condF;exact rfl)|(apply OK_skip)|(apply OK_exit)|(apply OK_ret)|(apply OKx_move;(conv=>lhs;whnf)<;>exact rfl)|(apply OKx_assign;(conv=>lhs;whnf)<;>exact rfl)|(apply OKx_ldB;exact rfl;(first | exact at0|exact at1|exact at2|exact at3|exact at4|exact at5|exact at6|exact at7);exact rfl)|(apply OKx_ldR;(conv=>lhs;whnf)<;>exact rfl;(with_reducible assumption))|(apply OKx_ldI;exact rfl;(first | exact at0|exact at1|exact at2|exact at3|exact at4|exact at5|exact at6|exact at7);omega)|(apply OKx_lss;exact rfl;exact rfl;all_goals (intro _; try (exfalso;omega)))|(apply OKx_idxO;exact rfl;exact rfl;omega)|(apply OKx_idxR;(conv=>lhs;whnf)<;>exact rfl;(with_reducible assumption);exact rfl;omega;intro _ _)|(apply OKx_idxOz;exact rfl;exact rfl;omega;omega)|(apply OKx_idxRz;(conv=>lhs;whnf)<;>exact rfl;(with_reducible assumption);exact rfl;omega;omega;intro _ _)|(apply OKx_fldO;exact rfl;exact rfl)|(apply OKx_fldR;(conv=>lhs;whnf)<;>exact rfl;(with_reducible assumption); decide;intro _ _)|(apply OKx_boxA;exact rfl;intro _)|(apply OKx_box1;(conv=>lhs;whnf)<;>exact rfl;exact rfl;intro _)|(apply OKx_func;exact rfl;exact rfl))
  · refine bodyQ_r1 (by ((conv=>lhs;whnf)<;>exact rfl)) ?_
    refine ⟨_, Ent.nil, int_eq ?_, rfl⟩
    unfold chV
    rw [hxs, find_first (sameB all i) xs k hk hon hfirst]
    rfl
  · refine bodyQ_r1 (by ((conv=>lhs;whnf)<;>exact rfl)) ?_
    refine ⟨_, Ent.nil, int_eq ?_, rfl⟩
    unfold chV
    rw [hxs, List.find?_eq_none.2 (fun x hx => ?_)]
    · rfl
    · obtain ⟨j, hj, rfl⟩ := List.getElem_of_mem hx
      have this : sameB all i (xs.getD j 0) = false := hno j hj
      rw [getD_lt _ _ _ hj] at this
      simp [this]
theorem chV_neg (par : List (List Int)) (all : List Int) (i : Nat) (hok : ∀ p ∈ par.getD i [], 0 ≤ p) : (chV par all i < 0) ↔ (par.getD i []).any (sameB all i) = false := by
  unfold chV
  cases h : (par.getD i []).find? (sameB all i) with
  | none =>
    rw [List.find?_eq_none] at h
    constructor
    · intro _
      rw [List.any_eq_false]
      exact h
    · intro _; decide
  | some x =>
    have h1 := List.find?_some h
    have h2 := List.mem_of_find?_eq_some h
    have := hok x h2
    constructor
    · intro h3
      have : (some x).getD (-1) = x := rfl
      omega
    · intro h3
      rw [List.any_eq_false] at h3
      exact absurd h1 (h3 x h2)
def copN (par : List (List Int)) (k : Nat) : List Nat := (List.range k).filter (fun i => !(par.getD i []).isEmpty)
def copL (par : List (List Int)) (k : Nat) : List Int := (copN par k).map (fun i : Nat => (i : Int))
theorem copN_step (par : List (List Int)) (k : Nat) : copN par (k + 1) = copN par k ++ if (par.getD k []).length = 0 then [] else [k] := by
  unfold copN
  rw [List.range_succ, List.filter_append]
  congr 1
  simp only [List.filter_cons, List.filter_nil]
  cases h : par.getD k [] with
  | nil => rfl
  | cons a b => rfl
theorem copN_len (par : List (List Int)) (k : Nat) : (copN par k).length ≤ k := by
  unfold copN
  exact Nat.le_trans (List.length_filter_le _ _) (by simp)
theorem copN_lt (par : List (List Int)) (k : Nat) : ∀ i ∈ copN par k, i < k ∧ (par.getD i []).length ≠ 0 := by
  intro i hi
  unfold copN at hi
  rw [List.mem_filter, List.mem_range] at hi
  refine ⟨hi.1, fun h0 => ?_⟩
  have := List.eq_nil_of_length_eq_zero h0
  rw [this] at hi
  simp at hi
theorem copL_step (par : List (List Int)) (k : Nat) : copL par (k + 1) = copL par k ++ if (par.getD k []).length = 0 then [] else [(k : Int)] := by
  unfold copL
  rw [copN_step, List.map_append]
  congr 1
  split <;> rfl
theorem copL_len (par : List (List Int)) (k : Nat) : (copL par k).length = (copN par k).length := by simp [copL]
def cntN (par : List (List Int)) (all : List Int) (k : Nat) : Nat := (((copN par par.length).take k).filter (fun i => decide (chV par all i < 0))).length
theorem cntN_step (par : List (List Int)) (all : List Int) (k : Nat) (h : k < (copN par par.length).length) : cntN par all (k + 1) = cntN par all k + if chV par all ((copN par par.length).getD k 0) < 0 then 1 else 0 := by
  rw [getD_lt _ _ _ h]
  unfold cntN
  rw [List.take_succ_eq_append_getElem h, List.filter_append, List.length_append]
  congr 1
  by_cases hc : chV par all (copN par par.length)[k] < 0
  · simp [hc]
  · simp [hc]
theorem cntN_end (par : List (List Int)) (all : List Int) (k : Nat) (hk : (copN par par.length).length ≤ k) (hok : okPar par) : cntN par all k = costN par all := by
  unfold cntN costN copN
  rw [List.take_of_length_le (by exact hk), List.filter_filter]
  congr 1
  apply List.filter_congr
  intro i hi
  have hi := List.mem_range.1 hi
  unfold chgB
  rw [Bool.and_comm]
  congr 1
  have h1 := chV_neg par all i (fun p hp => by rw [getD_lt _ _ _ hi] at hp; exact (hok i hi p hp).1)
  rw [Bool.eq_iff_iff]
  simp only [decide_eq_true_eq, Bool.not_eq_true']
  exact h1
theorem cntN_le (par : List (List Int)) (all : List Int) (k : Nat) : cntN par all k ≤ k := by
  unfold cntN
  exact Nat.le_trans (List.length_filter_le _ _) (by rw [List.length_take];omega)
def CntR (s : Stem) (nv ev pv : Value) (u : Value) (L : List Res) : Prop :=
  ∃ gc gs a n c, u = .func (.func 84) #[] #[.pointer (some ⟨gc, 0, none⟩), .pointer (some ⟨gs, 0, none⟩)] ∧ n = (copL s.par s.par.length).length ∧
    L = [.row 3 1 (.slice a n c) n (ints (copL s.par s.par.length)), .box 27 gc [.slice a n c], .box 26 gs [nv, ev, pv]]
set_option maxRecDepth 100000 in
set_option maxHeartbeats 4000000 in
theorem counter_sat (nv ev pv : Value) (s : Stem) (w : World) (h : Stm w (.agg #[nv, ev, pv]) s) (hl : s.par.length ≤ 1000) : Sat Tryz.prog 69 [.agg #[nv, ev, pv]] w (CntR s nv ev pv) := by
  obtain ⟨nv', ev', pv', e, hS, hE, hP⟩ := h
  cases e
  obtain ⟨fv, hpv, hrow⟩ := hP.rows
  have hpb := hpv.bound
  refine SatL.of 23 [2] Tryz.func69 (by kernel_rfl) (by kernel_rfl) rfl rfl rfl rfl ?_
  repeat' (first|(apply OK_seq)|(apply thenQ_n)|(apply OK_region)|(apply OKx_nilK)|(apply OK_block)|(apply blockQ_n)|(apply blockQ_s)|(apply thenQ_e)|(apply blockQ_e;exact rfl)|(apply thenQ_r)|(apply blockQ_r)|(apply OK_condT;exact rfl)|(apply OK_condF;exact rfl)|(apply OK_skip)|(apply OK_exit)|(apply OK_ret)|(apply OKx_move;(conv=>lhs;whnf)<;>exact rfl)|(apply OKx_assign;(conv=>lhs;whnf)<;>exact rfl)|(apply OKx_ldB;exact rfl;(first | exact at0|exact at1|exact at2|exact at3|exact at4|exact at5|exact at6|exact at7);exact rfl)|(apply OKx_ldR;(conv=>lhs;whnf)<;>exact rfl;(with_reducible assumption))|(apply OKx_len;exact rfl)|(apply OKx_lenR;(conv=>lhs;whnf)<;>exact rfl;(with_reducible assumption))|(apply OKx_lenR2;(conv=>lhs;whnf)<;>exact rfl;(with_reducible assumption))|(apply OKx_lenO;(conv=>lhs;whnf)<;>exact rfl;(first | exact at0|exact at1|exact at2|exact at3|exact at4|exact at5|exact at6|exact at7))|(apply OKx_lss;exact rfl;exact rfl;all_goals (intro _; try (exfalso;omega)))|(apply OKx_gtr;exact rfl;exact rfl;all_goals (intro _; try (exfalso;omega)))|(apply OKx_idxO;exact rfl;exact rfl;omega)|(apply OKx_idxR;(conv=>lhs;whnf)<;>exact rfl;(with_reducible assumption);exact rfl;omega;intro _ _)|(apply OKx_idxOz;exact rfl;exact rfl;omega;omega)|(apply OKx_idxRz;(conv=>lhs;whnf)<;>exact rfl;(with_reducible assumption);exact rfl;omega;omega;intro _ _)|(apply OKx_fldO;exact rfl;exact rfl)|(apply OKx_fldR;(conv=>lhs;whnf)<;>exact rfl;(with_reducible assumption); decide;intro _ _)|(apply OKx_inc;exact rfl;exact rfl;omega)|(apply OKx_addN;exact rfl;exact rfl;omega)|(apply OKx_add;exact rfl;exact rfl;omega;omega)|(apply OKx_boxA;exact rfl;intro _)|(apply OKx_alloc1;intro _)|(apply OKx_stB;exact rfl;(conv=>lhs;whnf)<;>exact rfl;exact rfl;exact rfl;(first | exact at0|exact at1|exact at2|exact at3|exact at4|exact at5|exact at6|exact at7);exact rfl;exact rfl;exact rfl)|(apply OKx_slit1;(conv=>lhs;whnf)<;>exact rfl;exact rfl;intro _)|(apply OKx_func;exact rfl;exact rfl))
  rename_i gs gc
  refine OK_loop1 9 [4, 5, 9, 10, 11, 12, 13, 14, 15, 16, 17, 18, 19, 20, 21] (fun m v L => ∃ (k n : Nat) (a : Option Addr) (c : Nat), k + m = s.par.length ∧ n = (copL s.par k).length ∧ v = .int .i64 (k : Int) ∧ L = [.row 3 1 (.slice a n c) n (ints (copL s.par k)), .box 27 gc [.slice a n c], .box 26 gs [nv, ev, pv]]) s.par.length _ (Ent.mk fun w1 hp => hp.nil 3 1) ⟨0, 0, none, 0, by omega, rfl, rfl, rfl⟩ ?_
  rintro m v L G ⟨k, n, a, c, hm, hn, rfl, rfl⟩
  have hs := copL_step s.par k
  have hnk : n ≤ k := by have := copN_len s.par k; rw [← copL_len] at this;omega
  have hxi := (hrow k).sl
  generalize hys : copL s.par k = ys at *
  repeat' (first|(apply OK_seq)|(apply thenQ_n)|(apply OK_region)|(apply OKx_gb; refine OKx_appI 1 0 rfl rfl rfl rfl (by omega) (by omega) ?_; intro g2 c2)|(apply OKx_nilK)|(apply OK_block)|(apply blockQ_n)|(apply blockQ_s)|(apply thenQ_e)|(apply blockQ_e;exact rfl)|(apply thenQ_r)|(apply blockQ_r)|(apply OK_condT;exact rfl)|(apply OK_condF;exact rfl)|(apply OK_skip)|(apply OK_exit)|(apply OK_ret)|(apply OKx_move;(conv=>lhs;whnf)<;>exact rfl)|(apply OKx_assign;(conv=>lhs;whnf)<;>exact rfl)|(apply OKx_ldB;exact rfl;(first | exact at0|exact at1|exact at2|exact at3|exact at4|exact at5|exact at6|exact at7);exact rfl)|(apply OKx_ldR;(conv=>lhs;whnf)<;>exact rfl;(with_reducible assumption))|(apply OKx_len;exact rfl)|(apply OKx_lenR;(conv=>lhs;whnf)<;>exact rfl;(with_reducible assumption))|(apply OKx_lenR2;(conv=>lhs;whnf)<;>exact rfl;(with_reducible assumption))|(apply OKx_lenO;(conv=>lhs;whnf)<;>exact rfl;(first | exact at0|exact at1|exact at2|exact at3|exact at4|exact at5|exact at6|exact at7))|(apply OKx_lss;exact rfl;exact rfl;all_goals (intro _; try (exfalso;omega)))|(apply OKx_gtr;exact rfl;exact rfl;all_goals (intro _; try (exfalso;omega)))|(apply OKx_idxO;exact rfl;exact rfl;omega)|(apply OKx_idxR;(conv=>lhs;whnf)<;>exact rfl;(with_reducible assumption);exact rfl;omega;intro _ _)|(apply OKx_idxOz;exact rfl;exact rfl;omega;omega)|(apply OKx_idxRz;(conv=>lhs;whnf)<;>exact rfl;(with_reducible assumption);exact rfl;omega;omega;intro _ _)|(apply OKx_fldO;exact rfl;exact rfl)|(apply OKx_fldR;(conv=>lhs;whnf)<;>exact rfl;(with_reducible assumption); decide;intro _ _)|(apply OKx_inc;exact rfl;exact rfl;omega)|(apply OKx_addN;exact rfl;exact rfl;omega)|(apply OKx_add;exact rfl;exact rfl;omega;omega)|(apply OKx_boxA;exact rfl;intro _)|(apply OKx_alloc1;intro _)|(apply OKx_stB;exact rfl;(conv=>lhs;whnf)<;>exact rfl;exact rfl;exact rfl;(first | exact at0|exact at1|exact at2|exact at3|exact at4|exact at5|exact at6|exact at7);exact rfl;exact rfl;exact rfl)|(apply OKx_slit1;(conv=>lhs;whnf)<;>exact rfl;exact rfl;intro _)|(apply OKx_func;exact rfl;exact rfl))
  · rw [if_neg (by omega)] at hs
    refine ⟨by (repeat' (first | refine agree_upd rfl ?_ | exact agree_over | exact agree_refl _ _ | refine agree_over2 rfl ?_)), m - 1, _, by omega, Ent.pick [1, 2, 3] rfl, ?_⟩
    exact ⟨k + 1, n + 1, some ⟨g2, 0, none⟩, c2, by omega, by rw [hs, List.length_append, hn]; rfl, rfl, by rw [hs]; rfl⟩
  · rw [if_pos (by omega), List.append_nil] at hs
    refine ⟨by (repeat' (first | refine agree_upd rfl ?_ | exact agree_over | exact agree_refl _ _ | refine agree_over2 rfl ?_)), m - 1, _, by omega, Ent.refl _ _, ?_⟩
    exact ⟨k + 1, n, a, c, by omega, by rw [hs]; exact hn, rfl, by rw [hs]⟩
  · obtain rfl : k = s.par.length := by omega
    refine bodyQ_r1 (by ((conv=>lhs;whnf)<;>exact rfl)) ?_
    exact ⟨_, Ent.refl _ _, gc, gs, a, n, c, rfl, by rw [hys]; exact hn, by rw [hys]⟩
set_option maxRecDepth 100000 in
set_option maxHeartbeats 4000000 in
theorem counter1_sat (pc ps cv av nv ev pv : Value) (s : Stem) (all : List Int) (w : World) (h1 : Pt1 w pc cv) (hc : Ints w cv (copL s.par s.par.length)) (h2 : Pt w ps 3 (fun j => [nv, ev, pv].getD j undef)) (h : Stm w (.agg #[nv, ev, pv]) s) (ha : Ints w av all) (hl : all.length = s.par.length) (hok : okPar s.par) (hn : s.par.length ≤ 1000) :
    SatV Tryz.prog 84 [av, pc, ps] w (.int .i64 (costN s.par all : Int)) := by
  have hcv := hc.sl
  have hcl : (copL s.par s.par.length).length = (copN s.par s.par.length).length := copL_len _ _
  have hcn := copN_len s.par s.par.length
  have hcg : ∀ k, (hk : k < (copN s.par s.par.length).length) → (copL s.par s.par.length).getD k 0 = (((copN s.par s.par.length).getD k 0 : Nat) : Int) := fun k hk => by
    rw [getD_lt _ _ _ (by omega), getD_lt _ _ _ hk]
    simp [copL]
  have hclt : ∀ k, k < (copN s.par s.par.length).length → (copN s.par s.par.length).getD k 0 < s.par.length := fun k hk => by
    rw [getD_lt _ _ _ hk]
    exact (copN_lt s.par s.par.length _ (List.getElem_mem hk)).1
  have hcst := cntN_step s.par all
  have hcend := fun k hk => cntN_end s.par all k hk hok
  have hcle := cntN_le s.par all
  rw [hcl] at hcv
  generalize hM : (copN s.par s.par.length).length = M at *
  refine SatL.of 23 [4] Tryz.func84 (by kernel_rfl) (by kernel_rfl) rfl rfl rfl rfl ?_
  repeat' (first|(apply OK_seq)|(apply thenQ_n)|(apply OK_region)|(apply OKx_nilK)|(apply OK_block)|(apply blockQ_n)|(apply blockQ_s)|(apply thenQ_e)|(apply blockQ_e;exact rfl)|(apply thenQ_r)|(apply blockQ_r)|(apply OK_condT;exact rfl)|(apply OK_condF;exact rfl)|(apply OK_skip)|(apply OK_exit)|(apply OK_ret)|(apply OKx_move;(conv=>lhs;whnf)<;>exact rfl)|(apply OKx_assign;(conv=>lhs;whnf)<;>exact rfl)|(apply OKx_ldB;exact rfl;(first | exact at0|exact at1|exact at2|exact at3|exact at4|exact at5|exact at6|exact at7);exact rfl)|(apply OKx_ldR;(conv=>lhs;whnf)<;>exact rfl;(with_reducible assumption))|(apply OKx_ldI;exact rfl;(first | exact at0|exact at1|exact at2|exact at3|exact at4|exact at5|exact at6|exact at7);omega)|(apply OKx_len;exact rfl)|(apply OKx_lenR;(conv=>lhs;whnf)<;>exact rfl;(with_reducible assumption))|(apply OKx_lenR2;(conv=>lhs;whnf)<;>exact rfl;(with_reducible assumption))|(apply OKx_lenO;(conv=>lhs;whnf)<;>exact rfl;(first | exact at0|exact at1|exact at2|exact at3|exact at4|exact at5|exact at6|exact at7))|(apply OKx_lss;exact rfl;exact rfl;all_goals (intro _; try (exfalso;omega)))|(apply OKx_idxO;exact rfl;exact rfl;omega)|(apply OKx_idxR;(conv=>lhs;whnf)<;>exact rfl;(with_reducible assumption);exact rfl;omega;intro _ _)|(apply OKx_idxOz;exact rfl;exact rfl;omega;omega)|(apply OKx_idxRz;(conv=>lhs;whnf)<;>exact rfl;(with_reducible assumption);exact rfl;omega;omega;intro _ _)|(apply OKx_inc;exact rfl;exact rfl;omega)|(apply OKx_addN;exact rfl;exact rfl;omega)|(apply OKx_add;exact rfl;exact rfl;omega;omega)|(apply OKx_ldBA;exact rfl;(first | exact at0|exact at1|exact at2|exact at3|exact at4|exact at5|exact at6|exact at7);exact rfl)|(apply OKx_ldRA;(conv=>lhs;whnf)<;>exact rfl;(with_reducible assumption)))
  refine OK_loop2 5 10 [5, 7, 10, 11, 12, 13, 14, 15, 16, 17, 18, 19, 20, 21] (fun m u v L => ∃ (k q : Nat), k + m = M ∧ q = cntN s.par all k ∧ u = .int .i64 (q : Int) ∧ v = .int .i64 (k : Int) ∧ L = []) M _ (Ent.refl _ _) ⟨0, 0, by omega, rfl, rfl, rfl, rfl⟩ ?_
  rintro m u v L G ⟨k, q, hm, hq, rfl, rfl, rfl⟩
  have hqk := hcle k
  rw [← hq] at hqk
  by_cases hk : k < M
  · have e1 := hcg k (by omega)
    have e2 := hclt k (by omega)
    have e3 := hcst k (by omega)
    generalize hj : (copN s.par s.par.length).getD k 0 = j at *
    repeat' (first|(apply OK_seq)|(apply thenQ_n)|(apply OK_region)|(apply OKx_gc 85;exact rfl; refine OKx_callV (f := 85) (v := .int .i64 (chV s.par all j)) rfl rfl rfl (fun w1 hp => by rw [e1]; exact choice_sat _ _ s all j w1 (h.below hp.below) (ha.below hp.below) e2 hl hok) ?_)|(apply OKx_nilK)|(apply OK_block)|(apply blockQ_n)|(apply blockQ_s)|(apply thenQ_e)|(apply blockQ_e;exact rfl)|(apply thenQ_r)|(apply blockQ_r)|(apply OK_condT;exact rfl)|(apply OK_condF;exact rfl)|(apply OK_skip)|(apply OK_exit)|(apply OK_ret)|(apply OKx_move;(conv=>lhs;whnf)<;>exact rfl)|(apply OKx_assign;(conv=>lhs;whnf)<;>exact rfl)|(apply OKx_ldB;exact rfl;(first | exact at0|exact at1|exact at2|exact at3|exact at4|exact at5|exact at6|exact at7);exact rfl)|(apply OKx_ldR;(conv=>lhs;whnf)<;>exact rfl;(with_reducible assumption))|(apply OKx_ldI;exact rfl;(first | exact at0|exact at1|exact at2|exact at3|exact at4|exact at5|exact at6|exact at7);omega)|(apply OKx_len;exact rfl)|(apply OKx_lenR;(conv=>lhs;whnf)<;>exact rfl;(with_reducible assumption))|(apply OKx_lenR2;(conv=>lhs;whnf)<;>exact rfl;(with_reducible assumption))|(apply OKx_lenO;(conv=>lhs;whnf)<;>exact rfl;(first | exact at0|exact at1|exact at2|exact at3|exact at4|exact at5|exact at6|exact at7))|(apply OKx_lss;exact rfl;exact rfl;all_goals (intro _; try (exfalso;omega)))|(apply OKx_idxO;exact rfl;exact rfl;omega)|(apply OKx_idxR;(conv=>lhs;whnf)<;>exact rfl;(with_reducible assumption);exact rfl;omega;intro _ _)|(apply OKx_idxOz;exact rfl;exact rfl;omega;omega)|(apply OKx_idxRz;(conv=>lhs;whnf)<;>exact rfl;(with_reducible assumption);exact rfl;omega;omega;intro _ _)|(apply OKx_inc;exact rfl;exact rfl;omega)|(apply OKx_addN;exact rfl;exact rfl;omega)|(apply OKx_add;exact rfl;exact rfl;omega;omega)|(apply OKx_ldBA;exact rfl;(first | exact at0|exact at1|exact at2|exact at3|exact at4|exact at5|exact at6|exact at7);exact rfl)|(apply OKx_ldRA;(conv=>lhs;whnf)<;>exact rfl;(with_reducible assumption)))
    · rw [if_pos (by assumption)] at e3
      refine ⟨by (repeat' (first | refine agree_upd rfl ?_ | exact agree_over | exact agree_refl _ _ | refine agree_over2 rfl ?_)), m - 1, _, by omega, Ent.refl _ _, ?_⟩
      exact ⟨k + 1, q + 1, by omega, by omega, rfl, rfl, rfl⟩
    · rw [if_neg (by omega)] at e3
      refine ⟨by (repeat' (first | refine agree_upd rfl ?_ | exact agree_over | exact agree_refl _ _ | refine agree_over2 rfl ?_)), m - 1, _, by omega, Ent.refl _ _, ?_⟩
      exact ⟨k + 1, q, by omega, by omega, rfl, rfl, rfl⟩
  · repeat' (first|(apply OK_seq)|(apply thenQ_n)|(apply OK_region)|(apply OKx_nilK)|(apply OK_block)|(apply blockQ_n)|(apply blockQ_s)|(apply thenQ_e)|(apply blockQ_e;exact rfl)|(apply thenQ_r)|(apply blockQ_r)|(apply OK_condT;exact rfl)|(apply OK_condF;exact rfl)|(apply OK_skip)|(apply OK_exit)|(apply OK_ret)|(apply OKx_move;(conv=>lhs;whnf)<;>exact rfl)|(apply OKx_assign;(conv=>lhs;whnf)<;>exact rfl)|(apply OKx_ldB;exact rfl;(first | exact at0|exact at1|exact at2|exact at3|exact at4|exact at5|exact at6|exact at7);exact rfl)|(apply OKx_ldR;(conv=>lhs;whnf)<;>exact rfl;(with_reducible assumption))|(apply OKx_ldI;exact rfl;(first | exact at0|exact at1|exact at2|exact at3|exact at4|exact at5|exact at6|exact at7);omega)|(apply OKx_len;exact rfl)|(apply OKx_lenR;(conv=>lhs;whnf)<;>exact rfl;(with_reducible assumption))|(apply OKx_lenR2;(conv=>lhs;whnf)<;>exact rfl;(with_reducible assumption))|(apply OKx_lenO;(conv=>lhs;whnf)<;>exact rfl;(first | exact at0|exact at1|exact at2|exact at3|exact at4|exact at5|exact at6|exact at7))|(apply OKx_lss;exact rfl;exact rfl;all_goals (intro _; try (exfalso;omega)))|(apply OKx_idxO;exact rfl;exact rfl;omega)|(apply OKx_idxR;(conv=>lhs;whnf)<;>exact rfl;(with_reducible assumption);exact rfl;omega;intro _ _)|(apply OKx_idxOz;exact rfl;exact rfl;omega;omega)|(apply OKx_idxRz;(conv=>lhs;whnf)<;>exact rfl;(with_reducible assumption);exact rfl;omega;omega;intro _ _)|(apply OKx_inc;exact rfl;exact rfl;omega)|(apply OKx_addN;exact rfl;exact rfl;omega)|(apply OKx_add;exact rfl;exact rfl;omega;omega)|(apply OKx_ldBA;exact rfl;(first | exact at0|exact at1|exact at2|exact at3|exact at4|exact at5|exact at6|exact at7);exact rfl)|(apply OKx_ldRA;(conv=>lhs;whnf)<;>exact rfl;(with_reducible assumption)))
    refine bodyQ_r1 (by ((conv=>lhs;whnf)<;>exact rfl)) ?_
    exact ⟨_, Ent.nil, int_eq (by rw [hq, hcend k (by omega)]), rfl⟩
end Go.Proofs.YtmclgfipdgmomaaGreat
namespace Go.Proofs.YtmclgfipdgmomaaGreat
open Go.RowKit
section
variable {P : Program} {ops : Array Oper} {Q : Exit → Act → World → Prop}
def cls2 (T0 T2 : List Nat) (wf : World) (Cw : World → Prop) (listed : Array Bool) (w : World) : Prop := (started T0 listed = false → w = wf) ∧ (started T2 listed = false → Cw w)
theorem started_hit {T : List Nat} {i : Nat} {listed : Array Bool} (hi : i ∈ T) (hr : i ∈ Region.ready .any ops listed) : started T (listed.setIfInBounds i true) = true := by
  unfold started
  rw [List.any_eq_true]
  refine ⟨i, hi, ?_⟩
  have hlt : i < listed.size := by
    have h0 := (mem_ready.1 hr).1
    rcases Nat.lt_or_ge i listed.size with h' | h'
    · exact h'
    · simp [Array.getElem?_eq_none h'] at h0
  simp [hlt]
theorem anyC_seqB {wf : World} {Cw : World → Prop} (T0 T2 : List Nat) : ∀ (T : List Nat) (lo : List Oper) (listed : Array Bool) (a : Act) (w : World), T.map (fun t => ops[t]?) = lo.map some → (∀ t ∈ T, t ∈ T0 ∧ t ∈ T2) → seqLB ops T listed = true → (started T0 listed = false → w = wf) → (started T2 listed = false → Cw w) → wpListC P ops (fun _ => True) Q lo a w →
    anyC P ops (cls2 T0 T2 wf Cw) Q T.length listed a w
  | [], lo, listed, a, w, hm, _, hB, hs, hs2, h => by
    obtain rfl : lo = [] := by simpa using hm.symm
    exact ⟨⟨hs, hs2⟩, by simpa [seqLB] using hB, h.2⟩
  | t :: T, lo, listed, a, w, hm, hT, hB, hs, hs2, h => by
    cases lo with
    | nil => simp at hm
    | cons o lo =>
      simp only [List.map_cons, List.cons.injEq] at hm
      obtain ⟨h0, hm⟩ := hm
      simp only [seqLB, Bool.and_eq_true, decide_eq_true_eq] at hB
      obtain ⟨_, h⟩ := h
      refine ⟨⟨hs, hs2⟩, fun h1 => (by rw [hB.1] at h1; cases h1), fun i hi => ?_⟩
      have hir := hi
      rw [hB.1] at hi
      have hit : i = t := by simpa using hi
      subst hit
      have hstart : started T0 (listed.setIfInBounds i true) = true := started_hit (hT i (by simp)).1 hir
      have hstart2 : started T2 (listed.setIfInBounds i true) = true := started_hit (hT i (by simp)).2 hir
      unfold wpOp
      simp only [h0]
      have next : ∀ a w, wpListC P ops (fun _ => True) Q lo a w → anyC P ops (cls2 T0 T2 wf Cw) Q T.length (listed.setIfInBounds i true) a w := fun a w h =>
        anyC_seqB T0 T2 T lo _ a w hm (fun t ht => hT t (by simp [ht])) hB.2 (fun h1 => by rw [hstart] at h1; cases h1) (fun h1 => by rw [hstart2] at h1; cases h1) h
      split
      · rename_i hw
        rw [if_pos hw] at h
        exact .inl (Oper.wp_mono next h)
      · rename_i hw
        rw [if_neg hw] at h
        exact next _ _ h
theorem anyC_seqA {wf : World} {Cw : World → Prop} {Qm : Exit → Act → World → Prop} (hQm : ∀ c a w, ¬ Qm (.panic c) a w) (hQo : ¬ LetsOut Qm) (anyQ : ∀ {o : Oper} {a : Act} {w : World} {K : Act → World → Prop}, o.wp P a w K Qm → o.wp P a w K Q) (T0 T2 : List Nat) (l2 : List Oper) (hm2 : T2.map (fun t => ops[t]?) = l2.map some) (hq : ∀ a w, Qm .normal a w → wpListC P ops (fun _ => True) Q l2 a w) (h20 : ∀ t ∈ T2, t ∈ T0) :
    ∀ (T : List Nat) (lo : List Oper) (listed : Array Bool) (a : Act) (w : World), T.map (fun t => ops[t]?) = lo.map some → (∀ t ∈ T, t ∈ T0) → seqLB ops (T ++ T2) listed = true → (started T0 listed = false → w = wf) → wpListC P ops Cw Qm lo a w →
    anyC P ops (cls2 T0 T2 wf Cw) Q (T ++ T2).length listed a w
  | [], lo, listed, a, w, hm, _, hB, hs, h => by
    obtain rfl : lo = [] := by simpa using hm.symm
    exact anyC_seqB T0 T2 T2 l2 listed a w hm2 (fun t ht => ⟨h20 t ht, ht⟩) hB hs (fun _ => h.1) (hq _ _ h.2)
  | t :: T, lo, listed, a, w, hm, hT, hB, hs, h => by
    cases lo with
    | nil => simp at hm
    | cons o lo =>
      simp only [List.map_cons, List.cons.injEq] at hm
      obtain ⟨h0, hm⟩ := hm
      simp only [List.cons_append, seqLB, Bool.and_eq_true, decide_eq_true_eq] at hB
      obtain ⟨hcw, h⟩ := h
      refine ⟨⟨hs, fun _ => hcw⟩, fun h1 => (by rw [hB.1] at h1; cases h1), fun i hi => ?_⟩
      have hir := hi
      rw [hB.1] at hi
      have hit : i = t := by simpa using hi
      subst hit
      have hstart : started T0 (listed.setIfInBounds i true) = true := started_hit (hT i (by simp)) hir
      unfold wpOp
      simp only [h0]
      have next : ∀ a w, wpListC P ops Cw Qm lo a w → anyC P ops (cls2 T0 T2 wf Cw) Q (T ++ T2).length (listed.setIfInBounds i true) a w := fun a w h =>
        anyC_seqA hQm hQo anyQ T0 T2 l2 hm2 hq h20 T lo _ a w hm (fun t ht => hT t (by simp [ht])) hB.2 (fun h1 => by rw [hstart] at h1; cases h1) h
      split
      · rename_i hw
        rw [if_pos hw] at h
        exact .inl (Oper.wp_mono next (anyQ h))
      · rename_i hw
        rw [if_neg hw] at h
        exact next _ _ h
def chainLB2 (T T2 : List Nat) : List (Nat × Bool) → Array Bool → Bool
  | [], listed => seqLB ops T listed
  | (i, t1) :: E, listed => stepB ops T listed i && (cond t1 (T.all fun t => memN t (waiters ops i)) (T2.all fun t => memN t (waiters ops i))) && chainLB2 T T2 E (listed.setIfInBounds i true)
theorem started_none {T : List Nat} {i : Nat} {listed : Array Bool} (hall : T.all (fun t => memN t (waiters ops i)) = true) (hW : ∀ j ∈ waiters ops i, listed.getD j true = false) : started T listed = false := by
  unfold started
  rw [List.any_eq_false]
  intro t ht hb
  have h1 := hW t ((memN_iff _ _).1 (List.all_eq_true.1 hall t ht))
  rcases Nat.lt_or_ge t listed.size with h' | h'
  · simp [h'] at h1 hb; rw [h1] at hb; cases hb
  · simp [Array.getElem?_eq_none h'] at hb
theorem anyC_early2 {wf : World} {Cw : World → Prop} {Kf : Act → Prop} (T T2 : List Nat) (h20 : ∀ t ∈ T2, t ∈ T) (fin : ∀ listed a, seqLB ops T listed = true → Kf a → anyC P ops (cls2 T T2 wf Cw) Q T.length listed a wf) (hsel : Region.noSelect ops = true) (hQ : ∀ c a w, ¬ Q (.panic c) a w) :
    ∀ (E : List (Nat × Bool)) (listed : Array Bool) (a : Act), chainLB2 (ops := ops) T T2 E listed = true → started T listed = false → wpEarly P ops wf Cw Kf E a →
    anyC P ops (cls2 T T2 wf Cw) Q (E.length + T.length) listed a wf
  | [], listed, a, hB, hs, h => by
    rw [List.length_nil, Nat.zero_add]
    exact fin listed a hB h
  | (i, t1) :: E, listed, a, hB, hs, h => by
    simp only [chainLB2, stepB, Bool.and_eq_true, Bool.not_eq_true'] at hB
    obtain ⟨⟨⟨⟨⟨hr, hf⟩, hiT⟩, hW⟩, ht1⟩, hB'⟩ := hB
    obtain ⟨oi, hi, h⟩ := h
    have hr' : i ∈ Region.ready .any ops listed := by simpa using hr
    have hW' : ∀ j ∈ waiters ops i, listed.getD j true = false := fun j hj => by
      have := List.all_eq_true.1 hW j hj
      simpa using this
    have hiT2 : memN i T2 = false := by
      cases hm : memN i T2 with
      | false => rfl
      | true =>
        have := (memN_iff i T).2 (h20 i ((memN_iff i T2).1 hm))
        rw [this] at hiT; cases hiT
    have hs' : started T (listed.setIfInBounds i true) = false := by rw [started_set hiT]; exact hs
    have hC : ∀ listed w, listed.getD i true = false → cls2 T T2 wf Cw (listed.setIfInBounds i true) w → cls2 T T2 wf Cw listed w := fun listed w _ h =>
      ⟨fun h1 => h.1 (by rw [started_set hiT]; exact h1), fun h1 => h.2 (by rw [started_set hiT2]; exact h1)⟩
    rw [show (List.length ((i, t1) :: E)) + T.length = (E.length + T.length) + 1 by simp;omega]
    by_cases hw : Region.wanted oi (yielded ops a.tmps) = true
    · rw [if_pos hw] at h
      obtain ⟨v, hv, hk⟩ := h
      refine anyC_first hi (Region.noSelect_spec hsel) hQ hC _ listed a wf (Region.free_spec hi hf) hr' hW' (.inl ⟨hw, fun listed' w' hiu hWu hc => ?_⟩) (anyC_early2 T T2 h20 fin hsel hQ E _ _ hB' hs' hk)
      refine hv w' ?_
      cases t1 with
      | false => simpa using hc.2 (started_none ht1 hWu)
      | true => simpa using hc.1 (started_none ht1 hWu)
    · rw [if_neg hw] at h
      exact anyC_first hi (Region.noSelect_spec hsel) hQ hC _ listed a wf (Region.free_spec hi hf) hr' hW' (.inr ⟨by simpa using hw, rfl⟩) (anyC_early2 T T2 h20 fin hsel hQ E _ _ hB' hs' h)
def mixB2 (ops : Array Oper) (A B A' T1 T2 : List Nat) : Bool :=
  Region.noSelect ops && Nat.beq (A.length + B.length + A'.length + (T1 ++ T2).length) ops.size && chainLB2 (ops := ops) (T1 ++ T2) T2 ((A.map fun i => (i, false)) ++ ((B.map fun i => (i, true)) ++ (A'.map fun i => (i, false)))) (Array.replicate ops.size false)
theorem wp_region_mix2 {id : Nat} {a : Act} {w : World} {C Cw : World → Prop} {Qm : Exit → Act → World → Prop} (A B A' T1 T2 : List Nat) (la lb la' l1 l2 : List Oper) (hm : P.follows .mixedOrders = true) (hB : mixB2 ops A B A' T1 T2 = true)
    (h1 : A.map (fun t => ops[t]?) = la.map some) (h2 : B.map (fun t => ops[t]?) = lb.map some) (h3 : A'.map (fun t => ops[t]?) = la'.map some) (h4 : T1.map (fun t => ops[t]?) = l1.map some) (h5 : T2.map (fun t => ops[t]?) = l2.map some)
    (hQ : ∀ c a w, ¬ Q (.panic c) a w) (hQm : ∀ c a w, ¬ Qm (.panic c) a w) (hQo : ¬ LetsOut Qm) (anyQ : ∀ {o : Oper} {a : Act} {w : World} {K : Act → World → Prop}, o.wp P a w K Qm → o.wp P a w K Q) (hq : ∀ a w, Qm .normal a w → wpListC P ops (fun _ => True) Q l2 a w) (hc : C w.drew) (hcw : Cw w.drew)
    (h : wpPure P ops Cw (fun a1 => wpPure P ops C (fun a2 => wpPure P ops Cw (fun a3 => wpListC P ops Cw Qm l1 a3 w.drew) la' a2) lb a1) la a) : (Code.region id ops true).wp P Q a w := by
  simp only [mixB2, Bool.and_eq_true] at hB
  obtain ⟨⟨hsel, hsz⟩, hch⟩ := hB
  have hsz' := Nat.eq_of_beq_eq_true hsz
  refine wp_region_any hm ?_
  have e := anyC_early2 (P := P) (ops := ops) (Q := Q) (wf := w.drew) (Cw := Cw) (Kf := fun a3 => wpListC P ops Cw Qm l1 a3 w.drew) (T1 ++ T2) T2 (fun t ht => List.mem_append_right _ ht)
    (fun listed a hB h => anyC_seqA hQm hQo anyQ (T1 ++ T2) T2 l2 h5 hq (fun t ht => List.mem_append_right _ ht) T1 l1 listed a _ h4 (fun t ht => List.mem_append_left _ ht) hB (fun _ => rfl) h) hsel hQ _ (Array.replicate ops.size false) a hch (by
    unfold started
    rw [List.any_eq_false]
    intro t _
    simp only [Array.getD_eq_getD_getElem?, Array.getElem?_replicate]
    split <;> simp) (by
    refine wpEarly_append _ _ a (wpEarly_of_pure false (fun w hw => by simpa using hw) A la a h1 ?_)
    have mono : ∀ {C : World → Prop} {Q1 Q2 : Act → Prop} (hq : ∀ a, Q1 a → Q2 a) (l : List Oper) (a : Act), wpPure P ops C Q1 l a → wpPure P ops C Q2 l a := by
      intro C Q1 Q2 hq l
      induction l with
      | nil => intro a h; exact hq _ h
      | cons o l ih =>
        intro a h
        unfold wpPure at h ⊢
        split
        · rename_i hw
          rw [if_pos hw] at h
          obtain ⟨v, h1, h2⟩ := h
          exact ⟨v, h1, ih _ h2⟩
        · rename_i hw
          rw [if_neg hw] at h
          exact ih _ h
    refine mono (fun a1 h => wpEarly_append _ _ a1 (wpEarly_of_pure true (fun w' hw => by simp only [if_true] at hw; subst hw; exact hc) B lb a1 h2 (mono (fun a2 h => wpEarly_of_pure false (fun w hw => by simpa using hw) A' la' a2 h3 h) lb a1 h))) la a h)
  have hlen : (List.map (fun i => (i, false)) A ++ (List.map (fun i => (i, true)) B ++ List.map (fun i => (i, false)) A')).length + (T1 ++ T2).length = ops.size := by
    simp only [List.length_append, List.length_map] at hsz' ⊢;omega
  rw [hlen] at e
  exact anyC_any _ _ _ _ e
end
theorem OK.mk' {P : Program} {n : Nat} {w0 : World} {Q : Exit → Fm → List Res → Prop} {F : Fm} {L : List Res} {c : Code} (h : ∀ w a, Fr n a F → Hp w0.heap.size w0 w L → c.wp P (lift n w0 Q) a w) : OK P n w0 Q c F L := by unfold OK; exact h
theorem OKx.useP {P : Program} {n : Nat} {w0 : World} {K : Fm → List Res → Prop} {F : Fm} {L : List Res} {ops : Array Oper} {rest : List Oper} (h : OKx P n w0 .pure ops K rest F L) : ∀ a, Fr n a F → wpPure P ops (fun w => Hp w0.heap.size w0 w L) (fun a' => ∃ F', Fr n a' F' ∧ K F' L) rest a := by unfold OKx at h; exact h
section
variable {P : Program} {n : Nat} {w0 : World} {Q : Exit → Fm → List Res → Prop} {F : Fm} {L : List Res}
theorem OK_mix2 (A B A' T1 T2 : List Nat) (Lw : List Res) {id : Nat} {l la lb la' l1 l2 : List Oper} (hm : P.follows .mixedOrders = true) (hB : mixB2 l.toArray A B A' T1 T2 = true) (hI : ((A ++ (B ++ (A' ++ (T1 ++ T2)))).all fun i => Nat.ble (i + 1) l.length) = true) (e : Ent w0 L Lw) (hA : pickO l A = la) (hB' : pickO l B = lb) (hA' : pickO l A' = la') (hT1 : pickO l T1 = l1) (hT2 : pickO l T2 = l2)
    (h : OKx P n w0 .pure l.toArray (fun F1 _ => OKx P n w0 .pure l.toArray (fun F2 _ => OKx P n w0 .pure l.toArray (fun F3 _ => OKx P n w0 (.seq Lw) l.toArray (fun F4 L4 => OKx P n w0 (.seq []) l.toArray (Q .normal) l2 F4 L4) l1 F3 L) la' F2 Lw) lb F1 L) la F Lw) : OK P n w0 Q (.region id l.toArray true) F L := by
  subst hA hB' hA' hT1 hT2
  refine OK.mk' fun w a hf hp => ?_
  simp only [List.all_append, Bool.and_eq_true] at hI
  have key := wp_region_mix2 (id := id) (P := P) (ops := l.toArray) (a := a) (w := w) (Q := liftN n w0 (Q .normal)) (Qm := liftN n w0 (fun F4 L4 => OKx P n w0 (.seq []) l.toArray (Q .normal) (pickO l T2) F4 L4)) (C := fun w => Hp w0.heap.size w0 w L) (Cw := fun w => Hp w0.heap.size w0 w Lw) A B A' T1 T2 _ _ _ _ _ hm hB (pickO_at l A hI.1) (pickO_at l B hI.2.1) (pickO_at l A' hI.2.2.1) (pickO_at l T1 hI.2.2.2.1) (pickO_at l T2 hI.2.2.2.2)
    (fun c a w h => by cases h.1) (fun c a w h => by cases h.1) (by rintro ⟨a, w, h, _⟩; cases h) (fun h => wp_anyQ (fun c a w h => by cases h.1) (by rintro ⟨a, w, h, _⟩; cases h) h) ?_ hp.drew (e.use _ hp.drew) ?_
  · refine wp_mono key ?_
    rintro e a' w' ⟨rfl, F', L', h1, h2, h3⟩
    exact ⟨F', L', h1, h2, h3⟩
  · rintro a' w' ⟨_, F', L', h1, h2, h3⟩
    have h4 := h3.use w' a' h1 h2
    have weak : ∀ (l' : List Oper) (a : Act) (w : World), wpListC P l.toArray (fun w => Hp w0.heap.size w0 w []) (liftN n w0 (Q .normal)) l' a w → wpListC P l.toArray (fun _ => True) (liftN n w0 (Q .normal)) l' a w := by
      intro l'
      induction l' with
      | nil => intro a w h; exact ⟨trivial, h.2⟩
      | cons o l' ih =>
        intro a w h
        obtain ⟨_, h⟩ := h
        refine ⟨trivial, ?_⟩
        split
        · rename_i hw
          rw [if_pos hw] at h
          exact Oper.wp_mono (fun a w h => ih a w h) h
        · rename_i hw
          rw [if_neg hw] at h
          exact ih _ _ h
    exact weak _ _ _ h4
  · have mono : ∀ {C : World → Prop} {Q1 Q2 : Act → Prop} (hq : ∀ a, Q1 a → Q2 a) (l' : List Oper) (a : Act), wpPure P l.toArray C Q1 l' a → wpPure P l.toArray C Q2 l' a := by
      intro C Q1 Q2 hq l'
      induction l' with
      | nil => intro a h; exact hq _ h
      | cons o l' ih =>
        intro a h
        unfold wpPure at h ⊢
        split
        · rename_i hw
          rw [if_pos hw] at h
          obtain ⟨v, h1, h2⟩ := h
          exact ⟨v, h1, ih _ h2⟩
        · rename_i hw
          rw [if_neg hw] at h
          exact ih _ h
    refine mono ?_ _ a (h.useP a hf)
    rintro a1 ⟨F1, hf1, h⟩
    refine mono ?_ _ a1 (h.useP a1 hf1)
    rintro a2 ⟨F2, hf2, h⟩
    refine mono ?_ _ a2 (h.useP a2 hf2)
    rintro a3 ⟨F3, hf3, h⟩
    exact h.use _ a3 hf3 hp.drew
end
end Go.Proofs.YtmclgfipdgmomaaGreat
