/-
  Part 12 of the proof: D38. No statement of the seat is proved here.
-/
import Derived.Test.YtpknpbeiifjmgaaDoorMHSa3811
namespace Go.Proofs.YtpknpbeiifjmgaaDoor
open Go.RowKit
def sameB (all : List Int) (i : Nat) (p : Int) : Bool := all.getD p.toNat 0 == all.getD i 0
def chV (par : List (List Int)) (all : List Int) (i : Nat) : Int := ((par.getD i []).find? (sameB all i)).getD (-1)
set_option maxRecDepth 100000 in
set_option maxHeartbeats 4000000 in
theorem choice1_sat (pt pi av : Value) (all : List Int) (i : Nat) (p : Int) (w : World) (h1 : Pt1 w pt av) (h2 : Pt1 w pi (.int .i64 (i : Int))) (ha : Ints w av all) (h0 : 0 ≤ p) (hp : p.toNat < all.length) (hi : i < all.length) : SatV Tryd.prog 84 [.int .i64 p, pt, pi] w (.bool (sameB all i p)) := by
  have hav := ha.sl
  have hab := hav.bound
  refine SatL.of 14 [4] Tryd.func84 (by kernel_rfl) (by kernel_rfl) rfl rfl rfl rfl ?_
  repeat' (first|(apply OK_seq)|(apply thenQ_n)|(apply OK_region)|(refine OK_rid 1 ?_; refine OK_quiet (id := 1) (by kernel_rfl) (by kernel_rfl) ?_)|(apply OKx_nilK)|(apply OK_block)|(apply blockQ_n)|(apply blockQ_s)|(apply thenQ_e)|(apply blockQ_e;exact rfl)|(apply thenQ_r)|(apply blockQ_r)|(apply OK_condT;exact rfl)|(apply OK_condF;exact rfl)|(apply OK_skip)|(apply OK_exit)|(apply OK_ret)|(apply OKx_move;(conv=>lhs;whnf)<;>exact rfl)|(apply OKx_assign;(conv=>lhs;whnf)<;>exact rfl)|(apply OKx_ldB;exact rfl;(first | exact at0|exact at1|exact at2|exact at3|exact at4|exact at5|exact at6|exact at7);exact rfl)|(apply OKx_ldR;(conv=>lhs;whnf)<;>exact rfl;(with_reducible assumption))|(apply OKx_ldI;exact rfl;(first | exact at0|exact at1|exact at2|exact at3|exact at4|exact at5|exact at6|exact at7);omega)|(apply OKx_eql;exact rfl;exact rfl;all_goals (intro _; try (exfalso;omega)))|(apply OKx_idxO;exact rfl;exact rfl;omega)|(apply OKx_idxR;(conv=>lhs;whnf)<;>exact rfl;(with_reducible assumption);exact rfl;omega;intro _ _)|(apply OKx_idxOz;exact rfl;exact rfl;omega;omega)|(apply OKx_idxRz;(conv=>lhs;whnf)<;>exact rfl;(with_reducible assumption);exact rfl;omega;omega;intro _ _))
  · rename_i he
    refine bodyQ_r1 (by ((conv=>lhs;whnf)<;>exact rfl)) ?_
    exact ⟨_, Ent.nil, bool_eq (by unfold sameB; rw [he]; simp), rfl⟩
  · rename_i he
    refine bodyQ_r1 (by ((conv=>lhs;whnf)<;>exact rfl)) ?_
    exact ⟨_, Ent.nil, bool_eq (by unfold sameB; first | exact beq_eq_false_iff_ne.2 he | exact (beq_eq_false_iff_ne.2 he).symm), rfl⟩
set_option maxRecDepth 100000 in
set_option maxHeartbeats 4000000 in
theorem choice_sat (v av : Value) (s : Stem) (all : List Int) (i : Nat) (w : World) (h : Stm w v s) (ha : Ints w av all) (hi : i < s.par.length) (hl : all.length = s.par.length) (hok : okPar s.par) : SatV Tryd.prog 62 [v, av, .int .i64 (i : Int)] w (.int .i64 (chV s.par all i)) := by
  obtain ⟨nv, ev, pv, rfl, hS, hE, hP⟩ := h
  obtain ⟨fv, hpv, hrow⟩ := hP.rows
  have hpb := hpv.bound
  have hr : ∀ j, j < (s.par.getD i []).length → 0 ≤ (s.par.getD i []).getD j 0 ∧ (s.par.getD i []).getD j 0 < i := fun j hj => by
    have hg : s.par.getD i [] = s.par[i] := getD_lt _ _ _ hi
    exact hok i hi _ (by rw [getD_lt _ _ _ hj]; exact hg ▸ List.getElem_mem hj)
  have hxi := (hrow i).sl
  have hxb := hxi.bound
  generalize hxs : s.par.getD i [] = xs at *
  obtain ⟨aa, ac, rfl, _⟩ := ha.at
  refine SatL.of 25 [6] Tryd.func62 (by kernel_rfl) (by kernel_rfl) rfl rfl rfl rfl ?_
  repeat' (first|(apply OK_seq)|(apply thenQ_n)|(apply OK_region)|(apply OKx_gc 74;exact rfl; refine OKx_call (f := 74) rfl rfl (fun w1 hp => indexW_int_sat _ xs.length (fun j => .int .i64 (xs.getD j 0)) (fun j => sameB all i (xs.getD j 0)) _ _ w1 (hxi.below hp.below) (fun j hj w2 hb2 => choice1_sat _ _ _ all i _ w2 (Pt1.below ⟨_, _, rfl, (hp.boxAt 1 rfl).1 0⟩ hb2) (Pt1.below ⟨_, _, rfl, (hp.boxAt 0 rfl).1 0⟩ hb2) ((ha.below hp.below).below hb2) (hr j hj).1 (by have := hr j hj;omega) (by omega))) ?_; rintro _ _ ⟨rfl, (⟨k, hk, rfl, hon, hfirst⟩ | ⟨rfl, hno⟩)⟩)|(apply OKx_nilK)|(apply OK_block)|(apply blockQ_n)|(apply blockQ_s)|(apply thenQ_e)|(apply blockQ_e;exact rfl)|(apply thenQ_r)|(apply blockQ_r)|(apply OK_condT;exact rfl)|(apply OK_condF;exact rfl)|(apply OK_skip)|(apply OK_exit)|(apply OK_ret)|(apply OKx_move;(conv=>lhs;whnf)<;>exact rfl)|(apply OKx_assign;(conv=>lhs;whnf)<;>exact rfl)|(apply OKx_ldB;exact rfl;(first | exact at0|exact at1|exact at2|exact at3|exact at4|exact at5|exact at6|exact at7);exact rfl)|(apply OKx_ldR;(conv=>lhs;whnf)<;>exact rfl;(with_reducible assumption))|(apply OKx_ldI;exact rfl;(first | exact at0|exact at1|exact at2|exact at3|exact at4|exact at5|exact at6|exact at7);omega)|(apply OKx_lss;exact rfl;exact rfl;all_goals (intro _; try (exfalso;omega)))|(apply OKx_idxO;exact rfl;exact rfl;omega)|(apply OKx_idxR;(conv=>lhs;whnf)<;>exact rfl;(with_reducible assumption);exact rfl;omega;intro _ _)|(apply OKx_idxOz;exact rfl;exact rfl;omega;omega)|(apply OKx_idxRz;(conv=>lhs;whnf)<;>exact rfl;(with_reducible assumption);exact rfl;omega;omega;intro _ _)|(apply OKx_fldO;exact rfl;exact rfl)|(apply OKx_fldR;(conv=>lhs;whnf)<;>exact rfl;(with_reducible assumption); decide;intro _ _)|(apply OKx_boxA;exact rfl;intro _)|(apply OKx_box1;(conv=>lhs;whnf)<;>exact rfl;exact rfl;intro _)|(apply OKx_func;exact rfl;exact rfl))
  · refine bodyQ_r1 (by ((conv=>lhs;whnf)<;>exact rfl)) ?_
    refine ⟨_, Ent.nil, int_eq ?_, rfl⟩
    unfold chV
    rw [hxs, find_first (sameB all i) xs k hk hon hfirst]
    rfl
  · refine bodyQ_r1 (by ((conv=>lhs;whnf)<;>exact rfl)) ?_
    refine ⟨_, Ent.nil, int_eq ?_, rfl⟩
    unfold chV
    rw [hxs, List.find?_eq_none.2 (fun x hx => ?_)]
    · rfl
    · obtain ⟨j, hj, rfl⟩ := List.getElem_of_mem hx
      have this : sameB all i (xs.getD j 0) = false := hno j hj
      rw [getD_lt _ _ _ hj] at this
      simp [this]
theorem chV_neg (par : List (List Int)) (all : List Int) (i : Nat) (hok : ∀ p ∈ par.getD i [], 0 ≤ p) : (chV par all i < 0) ↔ (par.getD i []).any (sameB all i) = false := by
  unfold chV
  cases h : (par.getD i []).find? (sameB all i) with
  | none =>
    rw [List.find?_eq_none] at h
    constructor
    · intro _
      rw [List.any_eq_false]
      exact h
    · intro _; decide
  | some x =>
    have h1 := List.find?_some h
    have h2 := List.mem_of_find?_eq_some h
    have := hok x h2
    constructor
    · intro h3
      have : (some x).getD (-1) = x := rfl
      omega
    · intro h3
      rw [List.any_eq_false] at h3
      exact absurd h1 (h3 x h2)
def copN (par : List (List Int)) (k : Nat) : List Nat := (List.range k).filter (fun i => !(par.getD i []).isEmpty)
def copL (par : List (List Int)) (k : Nat) : List Int := (copN par k).map (fun i : Nat => (i : Int))
theorem copN_step (par : List (List Int)) (k : Nat) : copN par (k + 1) = copN par k ++ if (par.getD k []).length = 0 then [] else [k] := by
  unfold copN
  rw [List.range_succ, List.filter_append]
  congr 1
  simp only [List.filter_cons, List.filter_nil]
  cases h : par.getD k [] with
  | nil => rfl
  | cons a b => rfl
theorem copN_len (par : List (List Int)) (k : Nat) : (copN par k).length ≤ k := by
  unfold copN
  exact Nat.le_trans (List.length_filter_le _ _) (by simp)
theorem copN_lt (par : List (List Int)) (k : Nat) : ∀ i ∈ copN par k, i < k ∧ (par.getD i []).length ≠ 0 := by
  intro i hi
  unfold copN at hi
  rw [List.mem_filter, List.mem_range] at hi
  refine ⟨hi.1, fun h0 => ?_⟩
  have := List.eq_nil_of_length_eq_zero h0
  rw [this] at hi
  simp at hi
theorem copL_step (par : List (List Int)) (k : Nat) : copL par (k + 1) = copL par k ++ if (par.getD k []).length = 0 then [] else [(k : Int)] := by
  unfold copL
  rw [copN_step, List.map_append]
  congr 1
  split <;> rfl
theorem copL_len (par : List (List Int)) (k : Nat) : (copL par k).length = (copN par k).length := by simp [copL]
def cntN (par : List (List Int)) (all : List Int) (k : Nat) : Nat := (((copN par par.length).take k).filter (fun i => decide (chV par all i < 0))).length
theorem cntN_step (par : List (List Int)) (all : List Int) (k : Nat) (h : k < (copN par par.length).length) : cntN par all (k + 1) = cntN par all k + if chV par all ((copN par par.length).getD k 0) < 0 then 1 else 0 := by
  rw [getD_lt _ _ _ h]
  unfold cntN
  rw [List.take_succ_eq_append_getElem h, List.filter_append, List.length_append]
  congr 1
  by_cases hc : chV par all (copN par par.length)[k] < 0
  · simp [hc]
  · simp [hc]
theorem cntN_end (par : List (List Int)) (all : List Int) (k : Nat) (hk : (copN par par.length).length ≤ k) (hok : okPar par) : cntN par all k = costN par all := by
  unfold cntN costN copN
  rw [List.take_of_length_le (by exact hk), List.filter_filter]
  congr 1
  apply List.filter_congr
  intro i hi
  have hi := List.mem_range.1 hi
  unfold chgB
  rw [Bool.and_comm]
  congr 1
  have h1 := chV_neg par all i (fun p hp => by rw [getD_lt _ _ _ hi] at hp; exact (hok i hi p hp).1)
  rw [Bool.eq_iff_iff]
  simp only [decide_eq_true_eq, Bool.not_eq_true']
  exact h1
theorem cntN_le (par : List (List Int)) (all : List Int) (k : Nat) : cntN par all k ≤ k := by
  unfold cntN
  exact Nat.le_trans (List.length_filter_le _ _) (by rw [List.length_take];omega)
def CntR (s : Stem) (nv ev pv : Value) (u : Value) (L : List Res) : Prop :=
  ∃ gc gs a n c, u = .func (.func 61) #[] #[.pointer (some ⟨gc, 0, none⟩), .pointer (some ⟨gs, 0, none⟩)] ∧ n = (copL s.par s.par.length).length ∧
    L = [.row 3 1 (.slice a n c) n (ints (copL s.par s.par.length)), .box 27 gc [.slice a n c], .box 26 gs [nv, ev, pv]]
set_option maxRecDepth 100000 in
set_option maxHeartbeats 4000000 in
theorem counter_sat (nv ev pv : Value) (s : Stem) (w : World) (h : Stm w (.agg #[nv, ev, pv]) s) (hl : s.par.length ≤ 1000) : Sat Tryd.prog 33 [.agg #[nv, ev, pv]] w (CntR s nv ev pv) := by
  obtain ⟨nv', ev', pv', e, hS, hE, hP⟩ := h
  cases e
  obtain ⟨fv, hpv, hrow⟩ := hP.rows
  have hpb := hpv.bound
  refine SatL.of 23 [2] Tryd.func33 (by kernel_rfl) (by kernel_rfl) rfl rfl rfl rfl ?_
  repeat' (first|(apply OK_seq)|(apply thenQ_n)|(apply OK_region)|(apply OKx_nilK)|(apply OK_block)|(apply blockQ_n)|(apply blockQ_s)|(apply thenQ_e)|(apply blockQ_e;exact rfl)|(apply thenQ_r)|(apply blockQ_r)|(apply OK_condT;exact rfl)|(apply OK_condF;exact rfl)|(apply OK_skip)|(apply OK_exit)|(apply OK_ret)|(apply OKx_move;(conv=>lhs;whnf)<;>exact rfl)|(apply OKx_assign;(conv=>lhs;whnf)<;>exact rfl)|(apply OKx_ldB;exact rfl;(first | exact at0|exact at1|exact at2|exact at3|exact at4|exact at5|exact at6|exact at7);exact rfl)|(apply OKx_ldR;(conv=>lhs;whnf)<;>exact rfl;(with_reducible assumption))|(apply OKx_len;exact rfl)|(apply OKx_lenR;(conv=>lhs;whnf)<;>exact rfl;(with_reducible assumption))|(apply OKx_lenR2;(conv=>lhs;whnf)<;>exact rfl;(with_reducible assumption))|(apply OKx_lenO;(conv=>lhs;whnf)<;>exact rfl;(first | exact at0|exact at1|exact at2|exact at3|exact at4|exact at5|exact at6|exact at7))|(apply OKx_lss;exact rfl;exact rfl;all_goals (intro _; try (exfalso;omega)))|(apply OKx_gtr;exact rfl;exact rfl;all_goals (intro _; try (exfalso;omega)))|(apply OKx_idxO;exact rfl;exact rfl;omega)|(apply OKx_idxR;(conv=>lhs;whnf)<;>exact rfl;(with_reducible assumption);exact rfl;omega;intro _ _)|(apply OKx_idxOz;exact rfl;exact rfl;omega;omega)|(apply OKx_idxRz;(conv=>lhs;whnf)<;>exact rfl;(with_reducible assumption);exact rfl;omega;omega;intro _ _)|(apply OKx_fldO;exact rfl;exact rfl)|(apply OKx_fldR;(conv=>lhs;whnf)<;>exact rfl;(with_reducible assumption); decide;intro _ _)|(apply OKx_inc;exact rfl;exact rfl;omega)|(apply OKx_addN;exact rfl;exact rfl;omega)|(apply OKx_add;exact rfl;exact rfl;omega;omega)|(apply OKx_boxA;exact rfl;intro _)|(apply OKx_alloc1;intro _)|(apply OKx_stB;exact rfl;(conv=>lhs;whnf)<;>exact rfl;exact rfl;exact rfl;(first | exact at0|exact at1|exact at2|exact at3|exact at4|exact at5|exact at6|exact at7);exact rfl;exact rfl;exact rfl)|(apply OKx_slit1;(conv=>lhs;whnf)<;>exact rfl;exact rfl;intro _)|(apply OKx_func;exact rfl;exact rfl))
  rename_i gs gc
  refine OK_loop1 9 [4, 5, 9, 10, 11, 12, 13, 14, 15, 16, 17, 18, 19, 20, 21] (fun m v L => ∃ (k n : Nat) (a : Option Addr) (c : Nat), k + m = s.par.length ∧ n = (copL s.par k).length ∧ v = .int .i64 (k : Int) ∧ L = [.row 3 1 (.slice a n c) n (ints (copL s.par k)), .box 27 gc [.slice a n c], .box 26 gs [nv, ev, pv]]) s.par.length _ (Ent.mk fun w1 hp => hp.nil 3 1) ⟨0, 0, none, 0, by omega, rfl, rfl, rfl⟩ ?_
  rintro m v L G ⟨k, n, a, c, hm, hn, rfl, rfl⟩
  have hs := copL_step s.par k
  have hnk : n ≤ k := by have := copN_len s.par k; rw [← copL_len] at this;omega
  have hxi := (hrow k).sl
  generalize hys : copL s.par k = ys at *
  repeat' (first|(apply OK_seq)|(apply thenQ_n)|(apply OK_region)|(apply OKx_gb; refine OKx_appI 1 0 rfl rfl rfl rfl (by omega) (by omega) ?_; intro g2 c2)|(apply OKx_nilK)|(apply OK_block)|(apply blockQ_n)|(apply blockQ_s)|(apply thenQ_e)|(apply blockQ_e;exact rfl)|(apply thenQ_r)|(apply blockQ_r)|(apply OK_condT;exact rfl)|(apply OK_condF;exact rfl)|(apply OK_skip)|(apply OK_exit)|(apply OK_ret)|(apply OKx_move;(conv=>lhs;whnf)<;>exact rfl)|(apply OKx_assign;(conv=>lhs;whnf)<;>exact rfl)|(apply OKx_ldB;exact rfl;(first | exact at0|exact at1|exact at2|exact at3|exact at4|exact at5|exact at6|exact at7);exact rfl)|(apply OKx_ldR;(conv=>lhs;whnf)<;>exact rfl;(with_reducible assumption))|(apply OKx_len;exact rfl)|(apply OKx_lenR;(conv=>lhs;whnf)<;>exact rfl;(with_reducible assumption))|(apply OKx_lenR2;(conv=>lhs;whnf)<;>exact rfl;(with_reducible assumption))|(apply OKx_lenO;(conv=>lhs;whnf)<;>exact rfl;(first | exact at0|exact at1|exact at2|exact at3|exact at4|exact at5|exact at6|exact at7))|(apply OKx_lss;exact rfl;exact rfl;all_goals (intro _; try (exfalso;omega)))|(apply OKx_gtr;exact rfl;exact rfl;all_goals (intro _; try (exfalso;omega)))|(apply OKx_idxO;exact rfl;exact rfl;omega)|(apply OKx_idxR;(conv=>lhs;whnf)<;>exact rfl;(with_reducible assumption);exact rfl;omega;intro _ _)|(apply OKx_idxOz;exact rfl;exact rfl;omega;omega)|(apply OKx_idxRz;(conv=>lhs;whnf)<;>exact rfl;(with_reducible assumption);exact rfl;omega;omega;intro _ _)|(apply OKx_fldO;exact rfl;exact rfl)|(apply OKx_fldR;(conv=>lhs;whnf)<;>exact rfl;(with_reducible assumption); decide;intro _ _)|(apply OKx_inc;exact rfl;exact rfl;omega)|(apply OKx_addN;exact rfl;exact rfl;omega)|(apply OKx_add;exact rfl;exact rfl;omega;omega)|(apply OKx_boxA;exact rfl;intro _)|(apply OKx_alloc1;intro _)|(apply OKx_stB;exact rfl;(conv=>lhs;whnf)<;>exact rfl;exact rfl;exact rfl;(first | exact at0|exact at1|exact at2|exact at3|exact at4|exact at5|exact at6|exact at7);exact rfl;exact rfl;exact rfl)|(apply OKx_slit1;(conv=>lhs;whnf)<;>exact rfl;exact rfl;intro _)|(apply OKx_func;exact rfl;exact rfl))
  · rw [if_neg (by omega)] at hs
    refine ⟨by (repeat' (first | refine agree_upd rfl ?_ | exact agree_over | exact agree_refl _ _ | refine agree_over2 rfl ?_)), m - 1, _, by omega, Ent.pick [1, 2, 3] rfl, ?_⟩
    exact ⟨k + 1, n + 1, some ⟨g2, 0, none⟩, c2, by omega, by rw [hs, List.length_append, hn]; rfl, rfl, by rw [hs]; rfl⟩
  · rw [if_pos (by omega), List.append_nil] at hs
    refine ⟨by (repeat' (first | refine agree_upd rfl ?_ | exact agree_over | exact agree_refl _ _ | refine agree_over2 rfl ?_)), m - 1, _, by omega, Ent.refl _ _, ?_⟩
    exact ⟨k + 1, n, a, c, by omega, by rw [hs]; exact hn, rfl, by rw [hs]⟩
  · obtain rfl : k = s.par.length := by omega
    refine bodyQ_r1 (by ((conv=>lhs;whnf)<;>exact rfl)) ?_
    exact ⟨_, Ent.refl _ _, gc, gs, a, n, c, rfl, by rw [hys]; exact hn, by rw [hys]⟩
set_option maxRecDepth 100000 in
set_option maxHeartbeats 4000000 in
theorem counter1_sat (pc ps cv av nv ev pv : Value) (s : Stem) (all : List Int) (w : World) (h1 : Pt1 w pc cv) (hc : Ints w cv (copL s.par s.par.length)) (h2 : Pt w ps 3 (fun j => [nv, ev, pv].getD j undef)) (h : Stm w (.agg #[nv, ev, pv]) s) (ha : Ints w av all) (hl : all.length = s.par.length) (hok : okPar s.par) (hn : s.par.length ≤ 1000) :
    SatV Tryd.prog 61 [av, pc, ps] w (.int .i64 (costN s.par all : Int)) := by
  have hcv := hc.sl
  have hcl : (copL s.par s.par.length).length = (copN s.par s.par.length).length := copL_len _ _
  have hcn := copN_len s.par s.par.length
  have hcg : ∀ k, (hk : k < (copN s.par s.par.length).length) → (copL s.par s.par.length).getD k 0 = (((copN s.par s.par.length).getD k 0 : Nat) : Int) := fun k hk => by
    rw [getD_lt _ _ _ (by omega), getD_lt _ _ _ hk]
    simp [copL]
  have hclt : ∀ k, k < (copN s.par s.par.length).length → (copN s.par s.par.length).getD k 0 < s.par.length := fun k hk => by
    rw [getD_lt _ _ _ hk]
    exact (copN_lt s.par s.par.length _ (List.getElem_mem hk)).1
  have hcst := cntN_step s.par all
  have hcend := fun k hk => cntN_end s.par all k hk hok
  have hcle := cntN_le s.par all
  rw [hcl] at hcv
  generalize hM : (copN s.par s.par.length).length = M at *
  refine SatL.of 23 [4] Tryd.func61 (by kernel_rfl) (by kernel_rfl) rfl rfl rfl rfl ?_
  repeat' (first|(apply OK_seq)|(apply thenQ_n)|(apply OK_region)|(apply OKx_nilK)|(apply OK_block)|(apply blockQ_n)|(apply blockQ_s)|(apply thenQ_e)|(apply blockQ_e;exact rfl)|(apply thenQ_r)|(apply blockQ_r)|(apply OK_condT;exact rfl)|(apply OK_condF;exact rfl)|(apply OK_skip)|(apply OK_exit)|(apply OK_ret)|(apply OKx_move;(conv=>lhs;whnf)<;>exact rfl)|(apply OKx_assign;(conv=>lhs;whnf)<;>exact rfl)|(apply OKx_ldB;exact rfl;(first | exact at0|exact at1|exact at2|exact at3|exact at4|exact at5|exact at6|exact at7);exact rfl)|(apply OKx_ldR;(conv=>lhs;whnf)<;>exact rfl;(with_reducible assumption))|(apply OKx_ldI;exact rfl;(first | exact at0|exact at1|exact at2|exact at3|exact at4|exact at5|exact at6|exact at7);omega)|(apply OKx_len;exact rfl)|(apply OKx_lenR;(conv=>lhs;whnf)<;>exact rfl;(with_reducible assumption))|(apply OKx_lenR2;(conv=>lhs;whnf)<;>exact rfl;(with_reducible assumption))|(apply OKx_lenO;(conv=>lhs;whnf)<;>exact rfl;(first | exact at0|exact at1|exact at2|exact at3|exact at4|exact at5|exact at6|exact at7))|(apply OKx_lss;exact rfl;exact rfl;all_goals (intro _; try (exfalso;omega)))|(apply OKx_idxO;exact rfl;exact rfl;omega)|(apply OKx_idxR;(conv=>lhs;whnf)<;>exact rfl;(with_reducible assumption);exact rfl;omega;intro _ _)|(apply OKx_idxOz;exact rfl;exact rfl;omega;omega)|(apply OKx_idxRz;(conv=>lhs;whnf)<;>exact rfl;(with_reducible assumption);exact rfl;omega;omega;intro _ _)|(apply OKx_inc;exact rfl;exact rfl;omega)|(apply OKx_addN;exact rfl;exact rfl;omega)|(apply OKx_add;exact rfl;exact rfl;omega;omega)|(apply OKx_ldBA;exact rfl;(first | exact at0|exact at1|exact at2|exact at3|exact at4|exact at5|exact at6|exact at7);exact rfl)|(apply OKx_ldRA;(conv=>lhs;whnf)<;>exact rfl;(with_reducible assumption)))
  refine OK_loop2 5 10 [5, 7, 10, 11, 12, 13, 14, 15, 16, 17, 18, 19, 20, 21] (fun m u v L => ∃ (k q : Nat), k + m = M ∧ q = cntN s.par all k ∧ u = .int .i64 (q : Int) ∧ v = .int .i64 (k : Int) ∧ L = []) M _ (Ent.refl _ _) ⟨0, 0, by omega, rfl, rfl, rfl, rfl⟩ ?_
  rintro m u v L G ⟨k, q, hm, hq, rfl, rfl, rfl⟩
  have hqk := hcle k
  rw [← hq] at hqk
  by_cases hk : k < M
  · have e1 := hcg k (by omega)
    have e2 := hclt k (by omega)
    have e3 := hcst k (by omega)
    generalize hj : (copN s.par s.par.length).getD k 0 = j at *
    repeat' (first|(apply OK_seq)|(apply thenQ_n)|(apply OK_region)|(apply OKx_gc 62;exact rfl; refine OKx_callV (f := 62) (v := .int .i64 (chV s.par all j)) rfl rfl rfl (fun w1 hp => by rw [e1]; exact choice_sat _ _ s all j w1 (h.below hp.below) (ha.below hp.below) e2 hl hok) ?_)|(apply OKx_nilK)|(apply OK_block)|(apply blockQ_n)|(apply blockQ_s)|(apply thenQ_e)|(apply blockQ_e;exact rfl)|(apply thenQ_r)|(apply blockQ_r)|(apply OK_condT;exact rfl)|(apply OK_condF;exact rfl)|(apply OK_skip)|(apply OK_exit)|(apply OK_ret)|(apply OKx_move;(conv=>lhs;whnf)<;>exact rfl)|(apply OKx_assign;(conv=>lhs;whnf)<;>exact rfl)|(apply OKx_ldB;exact rfl;(first | exact at0|exact at1|exact at2|exact at3|exact at4|exact at5|exact at6|exact at7);exact rfl)|(apply OKx_ldR;(conv=>lhs;whnf)<;>exact rfl;(with_reducible assumption))|(apply OKx_ldI;exact rfl;(first | exact at0|exact at1|exact at2|exact at3|exact at4|exact at5|exact at6|exact at7);omega)|(apply OKx_len;exact rfl)|(apply OKx_lenR;(conv=>lhs;whnf)<;>exact rfl;(with_reducible assumption))|(apply OKx_lenR2;(conv=>lhs;whnf)<;>exact rfl;(with_reducible assumption))|(apply OKx_lenO;(conv=>lhs;whnf)<;>exact rfl;(first | exact at0|exact at1|exact at2|exact at3|exact at4|exact at5|exact at6|exact at7))|(apply OKx_lss;exact rfl;exact rfl;all_goals (intro _; try (exfalso;omega)))|(apply OKx_idxO;exact rfl;exact rfl;omega)|(apply OKx_idxR;(conv=>lhs;whnf)<;>exact rfl;(with_reducible assumption);exact rfl;omega;intro _ _)|(apply OKx_idxOz;exact rfl;exact rfl;omega;omega)|(apply OKx_idxRz;(conv=>lhs;whnf)<;>exact rfl;(with_reducible assumption);exact rfl;omega;omega;intro _ _)|(apply OKx_inc;exact rfl;exact rfl;omega)|(apply OKx_addN;exact rfl;exact rfl;omega)|(apply OKx_add;exact rfl;exact rfl;omega;omega)|(apply OKx_ldBA;exact rfl;(first | exact at0|exact at1|exact at2|exact at3|exact at4|exact at5|exact at6|exact at7);exact rfl)|(apply OKx_ldRA;(conv=>lhs;whnf)<;>exact rfl;(with_reducible assumption)))
    · rw [if_pos (by assumption)] at e3
      refine ⟨by (repeat' (first | refine agree_upd rfl ?_ | exact agree_over | exact agree_refl _ _ | refine agree_over2 rfl ?_)), m - 1, _, by omega, Ent.refl _ _, ?_⟩
      exact ⟨k + 1, q + 1, by omega, by omega, rfl, rfl, rfl⟩
    · rw [if_neg (by omega)] at e3
      refine ⟨by (repeat' (first | refine agree_upd rfl ?_ | exact agree_over | exact agree_refl _ _ | refine agree_over2 rfl ?_)), m - 1, _, by omega, Ent.refl _ _, ?_⟩
      exact ⟨k + 1, q, by omega, by omega, rfl, rfl, rfl⟩
  · repeat' (first|(apply OK_seq)|(apply thenQ_n)|(apply OK_region)|(apply OKx_nilK)|(apply OK_block)|(apply blockQ_n)|(apply blockQ_s)|(apply thenQ_e)|(apply blockQ_e;exact rfl)|(apply thenQ_r)|(apply blockQ_r)|(apply OK_condT;exact rfl)|(apply OK_condF;exact rfl)|(apply OK_skip)|(apply OK_exit)|(apply OK_ret)|(apply OKx_move;(conv=>lhs;whnf)<;>exact rfl)|(apply OKx_assign;(conv=>lhs;whnf)<;>exact rfl)|(apply OKx_ldB;exact rfl;(first | exact at0|exact at1|exact at2|exact at3|exact at4|exact at5|exact at6|exact at7);exact rfl)|(apply OKx_ldR;(conv=>lhs;whnf)<;>exact rfl;(with_reducible assumption))|(apply OKx_ldI;exact rfl;(first | exact at0|exact at1|exact at2|exact at3|exact at4|exact at5|exact at6|exact at7);omega)|(apply OKx_len;exact rfl)|(apply OKx_lenR;(conv=>lhs;whnf)<;>exact rfl;(with_reducible assumption))|(apply OKx_lenR2;(conv=>lhs;whnf)<;>exact rfl;(with_reducible assumption))|(apply OKx_lenO;(conv=>lhs;whnf)<;>exact rfl;(first | exact at0|exact at1|exact at2|exact at3|exact at4|exact at5|exact at6|exact at7))|(apply OKx_lss;exact rfl;exact rfl;all_goals (intro _; try (exfalso;omega)))|(apply OKx_idxO;exact rfl;exact rfl;omega)|(apply OKx_idxR;(conv=>lhs;whnf)<;>exact rfl;(with_reducible assumption);exact rfl;omega;intro _ _)|(apply OKx_idxOz;exact rfl;exact rfl;omega;omega)|(apply OKx_idxRz;(conv=>lhs;whnf)<;>exact rfl;(with_reducible assumption);exact rfl;omega;omega;intro _ _)|(apply OKx_inc;exact rfl;exact rfl;omega)|(apply OKx_addN;exact rfl;exact rfl;omega)|(apply OKx_add;exact rfl;exact rfl;omega;omega)|(apply OKx_ldBA;exact rfl;(first | exact at0|exact at1|exact at2|exact at3|exact at4|exact at5|exact at6|exact at7);exact rfl)|(apply OKx_ldRA;(conv=>lhs;whnf)<;>exact rfl;(with_reducible assumption)))
    refine bodyQ_r1 (by ((conv=>lhs;whnf)<;>exact rfl)) ?_
    exact ⟨_, Ent.nil, int_eq (by rw [hq, hcend k (by omega)]), rfl⟩
end Go.Proofs.YtpknpbeiifjmgaaDoor
