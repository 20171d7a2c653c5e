/-
  Part 9 of the proof: Ext. No statement of the seat is proved here.
-/
import Derived.Test.YtmclgfipdgmomaaGreatMHPlaces8
namespace Go.Proofs.YtmclgfipdgmomaaGreat
open Go.RowKit
set_option maxRecDepth 100000 in
set_option maxHeartbeats 4000000 in
theorem stCheck_sat (v : Value) (s : Stem) (w : World) (h : Stm w v s) : SatV Tryz.prog 37 [v] w (.int .i64 (stCheck s)) :=
  Sat.lib ⟨_, _, Tryz.func37, by kernel_rfl, rfl⟩ fun w1 hb => (stCheck_any v s w1 (h.below hb)).mono fun e w' ⟨h1, h2⟩ => ⟨_, [], h1, h2, rfl, rfl⟩
set_option maxRecDepth 100000 in
set_option maxHeartbeats 4000000 in
theorem rstCheck_sat (v : Value) (s : Stem) (w : World) (h : Stm w v s) : SatV Tryz.prog 38 [v] w (.int .i64 (stCheck s)) :=
  Sat.lib ⟨_, _, Tryz.func38, by kernel_rfl, rfl⟩ fun w1 hb => (rstCheck_any v s w1 (h.below hb)).mono fun e w' ⟨h1, h2⟩ => ⟨_, [], h1, h2, rfl, rfl⟩
set_option maxRecDepth 100000 in
set_option maxHeartbeats 4000000 in
theorem has36_sat (v : Value) (xs : List Int) (n : Int) (w : World) (h : Ints w v xs) : SatV Tryz.prog 56 [v, .int .i64 n] w (.bool (hasI xs n)) :=
  Sat.lib ⟨_, _, Tryz.func56, by kernel_rfl, rfl⟩ fun w1 hb => (has36_any v xs n w1 (h.below hb)).mono fun e w' ⟨h1, h2⟩ => ⟨_, [], h1, by subst h2; exact Hp.refl _, rfl, rfl⟩
set_option maxRecDepth 100000 in
set_option maxHeartbeats 4000000 in
theorem sorted_sat (v : Value) (xs : List Int) (w : World) (h : Ints w v xs) : Sat Tryz.prog 67 [v] w (fun u L => L = [irow u (srtK xs 64)]) := by
  refine SatL.of 18 [2] Tryz.func67 (by kernel_rfl) (by kernel_rfl) rfl rfl rfl rfl ?_
  repeat' (first|(apply OK_seq)|(apply thenQ_n)|(apply OK_region)|(apply OKx_nilK)|(apply OK_block)|(apply blockQ_n)|(apply blockQ_s)|(apply thenQ_e)|(apply blockQ_e;exact rfl)|(apply thenQ_r)|(apply blockQ_r)|(apply OK_condT;exact rfl)|(apply OK_condF;exact rfl)|(apply OK_skip)|(apply OK_exit)|(apply OK_ret)|(apply OKx_move;(conv=>lhs;whnf)<;>exact rfl)|(apply OKx_assign;(conv=>lhs;whnf)<;>exact rfl)|(apply OKx_lss;exact rfl;exact rfl;all_goals (intro _; try (exfalso;omega)))|(apply OKx_inc;exact rfl;exact rfl;omega)|(apply OKx_addN;exact rfl;exact rfl;omega)|(apply OKx_add;exact rfl;exact rfl;omega;omega)|(apply OKx_slit1;(conv=>lhs;whnf)<;>exact rfl;exact rfl;intro _)|(apply OKx_slit0;intro _))
  rename_i g0
  refine OK_loop2 3 4 [3, 4, 6, 7, 8, 9, 10, 11, 12, 13, 14, 15, 16] (fun m u v L => ∃ (k g c : Nat), k + m = 64 ∧ u = .slice (some ⟨g, 0, none⟩) (srtK xs k).length c ∧ v = .int .i64 (k : Int) ∧ L = [irow (.slice (some ⟨g, 0, none⟩) (srtK xs k).length c) (srtK xs k)]) 64 _ (Ent.refl _ _) ⟨0, g0, 0, by omega, rfl, rfl, rfl⟩ ?_
  rintro m u v L G ⟨k, g, c, hm, rfl, rfl, rfl⟩
  have hs := srtK_step xs k
  have hl := srtK_len xs k
  generalize hys : srtK xs k = ys at *
  repeat' (first|(apply OK_seq)|(apply thenQ_n)|(apply OK_region)|(apply OKx_gc 56;exact rfl; refine OKx_callB (f := 56) rfl rfl rfl (fun w1 hp => has36_sat _ xs _ w1 (h.below hp.below)) ?_ ?_ <;> intro hq)|(apply OKx_gb; refine OKx_appI 1 0 rfl rfl rfl rfl (by omega) (by omega) ?_; intro g2 c2)|(apply OKx_nilK)|(apply OK_block)|(apply blockQ_n)|(apply blockQ_s)|(apply thenQ_e)|(apply blockQ_e;exact rfl)|(apply thenQ_r)|(apply blockQ_r)|(apply OK_condT;exact rfl)|(apply OK_condF;exact rfl)|(apply OK_skip)|(apply OK_exit)|(apply OK_ret)|(apply OKx_move;(conv=>lhs;whnf)<;>exact rfl)|(apply OKx_assign;(conv=>lhs;whnf)<;>exact rfl)|(apply OKx_lss;exact rfl;exact rfl;all_goals (intro _; try (exfalso;omega)))|(apply OKx_inc;exact rfl;exact rfl;omega)|(apply OKx_addN;exact rfl;exact rfl;omega)|(apply OKx_add;exact rfl;exact rfl;omega;omega)|(apply OKx_slit1;(conv=>lhs;whnf)<;>exact rfl;exact rfl;intro _)|(apply OKx_slit0;intro _))
  · rw [if_pos hq] at hs
    refine ⟨by (repeat' (first | refine agree_upd rfl ?_ | exact agree_over | exact agree_refl _ _ | refine agree_over2 rfl ?_)), m - 1, _, by omega, Ent.pick [1] rfl, ?_⟩
    exact ⟨k + 1, g2, c2, by omega, by rw [hs, List.length_append]; rfl, rfl, by rw [hs]; simp [pickL, irow]⟩
  · rw [if_neg (by rw [hq]; simp), List.append_nil] at hs
    refine ⟨by (repeat' (first | refine agree_upd rfl ?_ | exact agree_over | exact agree_refl _ _ | refine agree_over2 rfl ?_)), m - 1, _, by omega, Ent.refl _ _, ?_⟩
    exact ⟨k + 1, g, c, by omega, by rw [hs]; rfl, rfl, by rw [hs]⟩
  · obtain rfl : k = 64 := by omega
    refine bodyQ_r1 (by ((conv=>lhs;whnf)<;>exact rfl)) ?_
    exact ⟨_, Ent.refl _ _, by rw [hys]⟩
def chkI (s : Stem) (i : Int) : Int := if stCheck s ≠ 0 then 1 else if i < 0 ∨ (s.names.length : Int) ≤ i then 6 else 0
set_option maxRecDepth 100000 in
set_option maxHeartbeats 4000000 in
theorem chk36_sat (v : Value) (s : Stem) (i : Int) (w : World) (h : Stm w v s) : SatV Tryz.prog 64 [v, .int .i64 i] w (.int .i64 (chkI s i)) := by
  have hst := h
  obtain ⟨nv, ev, pv, rfl, hS, _, hP⟩ := h
  have hnv := hS.sl
  refine SatL.of 19 [4] Tryz.func64 (by kernel_rfl) (by kernel_rfl) rfl rfl rfl rfl ?_
  repeat' (first|(apply OK_seq)|(apply thenQ_n)|(apply OK_region)|(apply OKx_gc 37;exact rfl; refine OKx_callV (f := 37) rfl rfl rfl (fun w hp => stCheck_sat _ s w (hst.below hp.below)) ?_)|(apply OKx_nilK)|(apply OK_block)|(apply blockQ_n)|(apply blockQ_s)|(apply thenQ_e)|(apply blockQ_e;exact rfl)|(apply thenQ_r)|(apply blockQ_r)|(apply OK_condT;exact rfl)|(apply OK_condF;exact rfl)|(apply OK_skip)|(apply OK_exit)|(apply OK_ret)|(apply OKx_move;(conv=>lhs;whnf)<;>exact rfl)|(apply OKx_assign;(conv=>lhs;whnf)<;>exact rfl)|(apply OKx_ldB;exact rfl;(first | exact at0|exact at1|exact at2|exact at3|exact at4|exact at5|exact at6|exact at7);exact rfl)|(apply OKx_ldR;(conv=>lhs;whnf)<;>exact rfl;(with_reducible assumption))|(apply OKx_len;exact rfl)|(apply OKx_lenR;(conv=>lhs;whnf)<;>exact rfl;(with_reducible assumption))|(apply OKx_lenR2;(conv=>lhs;whnf)<;>exact rfl;(with_reducible assumption))|(apply OKx_lenO;(conv=>lhs;whnf)<;>exact rfl;(first | exact at0|exact at1|exact at2|exact at3|exact at4|exact at5|exact at6|exact at7))|(apply OKx_lss;exact rfl;exact rfl;all_goals (intro _; try (exfalso;omega)))|(apply OKx_geq;exact rfl;exact rfl;all_goals (intro _; try (exfalso;omega)))|(apply OKx_neq;exact rfl;exact rfl;all_goals (intro _; try (exfalso;omega)))|(apply OKx_fldO;exact rfl;exact rfl)|(apply OKx_fldR;(conv=>lhs;whnf)<;>exact rfl;(with_reducible assumption); decide;intro _ _)|(apply OKx_pickT;exact rfl;(conv=>lhs;whnf)<;>exact rfl)|(apply OKx_pickF;exact rfl;(conv=>lhs;whnf)<;>exact rfl)|(apply OKx_guardT;exact rfl;exact rfl)|(apply OKx_guardF;exact rfl;exact rfl)|(apply OKx_guardU;exact rfl;exact rfl)|(apply OKx_boxA;exact rfl;intro _)|(apply OKx_ldBA;exact rfl;(first | exact at0|exact at1|exact at2|exact at3|exact at4|exact at5|exact at6|exact at7);exact rfl)|(apply OKx_ldRA;(conv=>lhs;whnf)<;>exact rfl;(with_reducible assumption)))
  all_goals
    refine bodyQ_r1 (by ((conv=>lhs;whnf)<;>exact rfl)) ?_
    exact ⟨_, Ent.nil, int_eq (by unfold chkI; split <;> (try split) <;> omega), rfl⟩
theorem chkI_zero {s : Stem} {i : Int} (h : chkI s i = 0) : stCheck s = 0 ∧ 0 ≤ i ∧ i < s.names.length := by
  unfold chkI at h
  split at h
  · omega
  · split at h
    · omega
    · omega
theorem firstErr_all (f : Nat → Int) : ∀ n, (∀ k, k < n → f k = 0) → firstErr f n = 0
  | 0, _ => rfl
  | n + 1, h => firstErr_step f n (firstErr_all f n (fun k hk => h k (by omega))) (h n (by omega))
end Go.Proofs.YtmclgfipdgmomaaGreat
