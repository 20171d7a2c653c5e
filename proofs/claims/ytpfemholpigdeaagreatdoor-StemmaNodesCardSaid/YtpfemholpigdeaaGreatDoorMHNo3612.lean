/-
  Part 12 of the proof: Ro39, Sm38, Gr38. No statement of the seat is proved here.
-/
import Derived.Test.YtpfemholpigdeaaGreatDoorMHNo3611
namespace Go.Proofs.YtpfemholpigdeaaGreatDoor
open Go.RowKit
section
variable {P : Program} {n : Nat} {w0 : World} {Q : Exit → Fm → List Res → Prop} {K : Fm → List Res → Prop} {F : Fm} {L : List Res} {m : Md} {ops : Array Oper} {rest : List Oper} {d : Option Nat} {ty : TypeId} {pos : String} {aft : Array Edge}
theorem OK_world {c : Code} (h : ∀ w, Hp w0.heap.size w0 w L → OK P n w0 Q c F L) : OK P n w0 Q c F L := OK.mk' fun w a hf hp => (h w hp).use w a hf hp
theorem OKx_ldH {t : TypeId} {z : Value} [T : TOne P t z] {x : Operand} {b k : Nat} {v : Value} (hx : rv n F x = .pointer (some ⟨b, k, none⟩)) (hc : ∀ w, Hp w0.heap.size w0 w L → w.cell? ⟨b, k, none⟩ = some v)
    (kk : OKx P n w0 m ops K rest (updo F d v) L) : OKx P n w0 m ops K (⟨d, .load t x, ty, pos, aft, none⟩ :: rest) F L :=
  OKx_still (fun w hp _ _ _ _ => run_load1 T hx (hc w hp) _ _ _ _) kk
theorem Sl.form {v : Value} {N : Nat} {f : Nat → Value} {C : World → Prop} (h : ∀ w, C w → Sl w v 1 N f) (w1 : World) (h1 : C w1) : ∃ a c, v = .slice a N c ∧ (0 < N → ∃ b o, a = some ⟨b, o, none⟩ ∧ ∀ w, C w → ∀ j, j < N → w.cell? ⟨b, o + j, none⟩ = some (f j)) := by
  obtain ⟨a, c, rfl, _⟩ := (h w1 h1).out
  refine ⟨a, c, rfl, fun h0 => ?_⟩
  obtain ⟨a2, c2, e, hc⟩ := (h w1 h1).out
  simp only [Value.slice.injEq] at e
  obtain ⟨rfl, _, rfl⟩ := e
  rcases hc with hc | ⟨b, o, rfl, _⟩
  · omega
  refine ⟨b, o, rfl, fun w hw j hj => ?_⟩
  obtain ⟨a2, c2, e, hc⟩ := (h w hw).out
  simp only [Value.slice.injEq] at e
  obtain ⟨rfl, _, rfl⟩ := e
  rcases hc with hc | ⟨b2, o2, e2, hc⟩
  · omega
  simp only [Option.some.injEq, Addr.mk.injEq] at e2
  obtain ⟨rfl, rfl, _⟩ := e2
  exact hc j (by omega)
end
def rtL (par : List (List Int)) (k : Nat) : List Int := ((List.range k).filter (fun i => decide ((par.getD i []).length = 0))).map (fun i : Nat => (i : Int))
theorem rtL_step (par : List (List Int)) (k : Nat) : rtL par (k + 1) = rtL par k ++ if (par.getD k []).length = 0 then [(k : Int)] else [] := by
  unfold rtL
  rw [List.range_succ, List.filter_append, List.map_append]
  congr 1
  by_cases h : (par.getD k []).length = 0
  · rw [if_pos h, List.filter_cons_of_pos (by simpa using h)]; rfl
  · rw [if_neg h, List.filter_cons_of_neg (by simpa using h)]; rfl
theorem rtL_len (par : List (List Int)) (k : Nat) : (rtL par k).length ≤ k := by
  unfold rtL
  rw [List.length_map]
  exact Nat.le_trans (List.length_filter_le _ _) (by simp)
def rts (s : Stem) : List Int := rtL s.par s.par.length
def RtsR (s : Stem) (u : Value) (L : List Res) : Prop :=
  (stCheck s ≠ 0 ∧ u = .tuple #[.slice none 0 0, .int .i64 1] ∧ L = []) ∨
  (stCheck s = 0 ∧ ∃ a c, u = .tuple #[.slice a (rts s).length c, .int .i64 0] ∧ (0 < (rts s).length → ∃ g, a = some ⟨g, 0, none⟩) ∧ L = [.row 3 1 (.slice a (rts s).length c) (rts s).length (ints (rts s))])
set_option maxRecDepth 100000 in
set_option maxHeartbeats 4000000 in
theorem rts1_sat (v : Value) (xs : List Int) (w : World) (h : Ints w v xs) : SatV Tryz.prog 38 [v] w (.bool (decide (xs.length = 0))) := by
  have hv := h.sl
  refine SatL.of 6 [2] Tryz.func38 (by kernel_rfl) (by kernel_rfl) rfl rfl rfl rfl ?_
  repeat' (first|(apply OK_seq)|(apply thenQ_n)|(apply OK_region)|(apply OKx_nilK)|(apply OK_block)|(apply blockQ_n)|(apply blockQ_s)|(apply thenQ_e)|(apply blockQ_e;exact rfl)|(apply thenQ_r)|(apply blockQ_r)|(apply OK_condT;exact rfl)|(apply OK_condF;exact rfl)|(apply OK_skip)|(apply OK_exit)|(apply OK_ret)|(apply OKx_move;(conv=>lhs;whnf)<;>exact rfl)|(apply OKx_assign;(conv=>lhs;whnf)<;>exact rfl)|(apply OKx_len;exact rfl)|(apply OKx_lenR;(conv=>lhs;whnf)<;>exact rfl;(with_reducible assumption))|(apply OKx_lenR2;(conv=>lhs;whnf)<;>exact rfl;(with_reducible assumption))|(apply OKx_lenO;(conv=>lhs;whnf)<;>exact rfl;(first | exact at0|exact at1|exact at2|exact at3|exact at4|exact at5|exact at6|exact at7))|(apply OKx_eql;exact rfl;exact rfl;all_goals (intro _; try (exfalso;omega))))
  · refine bodyQ_r1 (by ((conv=>lhs;whnf)<;>exact rfl)) ?_
    exact ⟨_, Ent.nil, bool_eq (decide_eq_true (by omega)).symm, rfl⟩
  · refine bodyQ_r1 (by ((conv=>lhs;whnf)<;>exact rfl)) ?_
    exact ⟨_, Ent.nil, bool_eq (decide_eq_false (by omega)).symm, rfl⟩
set_option maxRecDepth 100000 in
set_option maxHeartbeats 4000000 in
theorem nodesR_sat (v : Value) (s : Stem) (w : World) (h : Stm w v s) : Sat Tryz.prog 37 [v, .func (.func 38) #[] #[]] w (RtsR s) := by
  have hst := h
  obtain ⟨nv, ev, pv, rfl, _, _, hP⟩ := h
  obtain ⟨fv, hpv, hrow⟩ := hP.rows
  have hpb := hpv.bound
  by_cases hc : stCheck s = 0
  rotate_left
  · refine SatL.of 29 [4, 5] Tryz.func37 (by kernel_rfl) (by kernel_rfl) rfl rfl rfl rfl ?_
    repeat' (first|(apply OK_seq)|(apply thenQ_n)|(apply OK_region)|(apply OKx_gc 30;exact rfl; refine OKx_callV (f := 30) rfl rfl rfl (fun w1 hp => stCheck_sat _ s w1 (hst.below hp.below)) ?_)|(apply OKx_nilK)|(apply OK_block)|(apply blockQ_n)|(apply blockQ_s)|(apply thenQ_e)|(apply blockQ_e;exact rfl)|(apply thenQ_r)|(apply blockQ_r)|(apply OK_condT;exact rfl)|(apply OK_condF;exact rfl)|(apply OK_skip)|(apply OK_exit)|(apply OK_ret)|(apply OKx_move;(conv=>lhs;whnf)<;>exact rfl)|(apply OKx_assign;(conv=>lhs;whnf)<;>exact rfl)|(apply OKx_ldB;exact rfl;(first | exact at0|exact at1|exact at2|exact at3|exact at4|exact at5|exact at6|exact at7);exact rfl)|(apply OKx_ldR;(conv=>lhs;whnf)<;>exact rfl;(with_reducible assumption))|(apply OKx_len;exact rfl)|(apply OKx_lenR;(conv=>lhs;whnf)<;>exact rfl;(with_reducible assumption))|(apply OKx_lenR2;(conv=>lhs;whnf)<;>exact rfl;(with_reducible assumption))|(apply OKx_lenO;(conv=>lhs;whnf)<;>exact rfl;(first | exact at0|exact at1|exact at2|exact at3|exact at4|exact at5|exact at6|exact at7))|(apply OKx_lss;exact rfl;exact rfl;all_goals (intro _; try (exfalso;omega)))|(apply OKx_neq;exact rfl;exact rfl;all_goals (intro _; try (exfalso;omega)))|(apply OKx_idxO;exact rfl;exact rfl;omega)|(apply OKx_idxR;(conv=>lhs;whnf)<;>exact rfl;(with_reducible assumption);exact rfl;omega;intro _ _)|(apply OKx_idxOz;exact rfl;exact rfl;omega;omega)|(apply OKx_idxRz;(conv=>lhs;whnf)<;>exact rfl;(with_reducible assumption);exact rfl;omega;omega;intro _ _)|(apply OKx_fldO;exact rfl;exact rfl)|(apply OKx_fldR;(conv=>lhs;whnf)<;>exact rfl;(with_reducible assumption); decide;intro _ _)|(apply OKx_inc;exact rfl;exact rfl;omega)|(apply OKx_addN;exact rfl;exact rfl;omega)|(apply OKx_add;exact rfl;exact rfl;omega;omega)|(apply OKx_boxA;exact rfl;intro _)|(apply OKx_ldBA;exact rfl;(first | exact at0|exact at1|exact at2|exact at3|exact at4|exact at5|exact at6|exact at7);exact rfl)|(apply OKx_ldRA;(conv=>lhs;whnf)<;>exact rfl;(with_reducible assumption))|(apply OKx_slit1;(conv=>lhs;whnf)<;>exact rfl;exact rfl;intro _))
    refine bodyQ_r2 (by ((conv=>lhs;whnf)<;>exact rfl)) (by ((conv=>lhs;whnf)<;>exact rfl)) ?_
    exact ⟨_, Ent.nil, .inl ⟨hc, rfl, rfl⟩⟩
  have hlen := stCheck_len s hc
  refine SatL.of 29 [4, 5] Tryz.func37 (by kernel_rfl) (by kernel_rfl) rfl rfl rfl rfl ?_
  repeat' (first|(apply OK_seq)|(apply thenQ_n)|(apply OK_region)|(apply OKx_gc 30;exact rfl; refine OKx_callV (f := 30) (v := .int .i64 0) rfl rfl rfl (fun w1 hp => by rw [← hc]; exact stCheck_sat _ s w1 (hst.below hp.below)) ?_)|(apply OKx_nilK)|(apply OK_block)|(apply blockQ_n)|(apply blockQ_s)|(apply thenQ_e)|(apply blockQ_e;exact rfl)|(apply thenQ_r)|(apply blockQ_r)|(apply OK_condT;exact rfl)|(apply OK_condF;exact rfl)|(apply OK_skip)|(apply OK_exit)|(apply OK_ret)|(apply OKx_move;(conv=>lhs;whnf)<;>exact rfl)|(apply OKx_assign;(conv=>lhs;whnf)<;>exact rfl)|(apply OKx_ldB;exact rfl;(first | exact at0|exact at1|exact at2|exact at3|exact at4|exact at5|exact at6|exact at7);exact rfl)|(apply OKx_ldR;(conv=>lhs;whnf)<;>exact rfl;(with_reducible assumption))|(apply OKx_len;exact rfl)|(apply OKx_lenR;(conv=>lhs;whnf)<;>exact rfl;(with_reducible assumption))|(apply OKx_lenR2;(conv=>lhs;whnf)<;>exact rfl;(with_reducible assumption))|(apply OKx_lenO;(conv=>lhs;whnf)<;>exact rfl;(first | exact at0|exact at1|exact at2|exact at3|exact at4|exact at5|exact at6|exact at7))|(apply OKx_lss;exact rfl;exact rfl;all_goals (intro _; try (exfalso;omega)))|(apply OKx_neq;exact rfl;exact rfl;all_goals (intro _; try (exfalso;omega)))|(apply OKx_idxO;exact rfl;exact rfl;omega)|(apply OKx_idxR;(conv=>lhs;whnf)<;>exact rfl;(with_reducible assumption);exact rfl;omega;intro _ _)|(apply OKx_idxOz;exact rfl;exact rfl;omega;omega)|(apply OKx_idxRz;(conv=>lhs;whnf)<;>exact rfl;(with_reducible assumption);exact rfl;omega;omega;intro _ _)|(apply OKx_fldO;exact rfl;exact rfl)|(apply OKx_fldR;(conv=>lhs;whnf)<;>exact rfl;(with_reducible assumption); decide;intro _ _)|(apply OKx_inc;exact rfl;exact rfl;omega)|(apply OKx_addN;exact rfl;exact rfl;omega)|(apply OKx_add;exact rfl;exact rfl;omega;omega)|(apply OKx_boxA;exact rfl;intro _)|(apply OKx_ldBA;exact rfl;(first | exact at0|exact at1|exact at2|exact at3|exact at4|exact at5|exact at6|exact at7);exact rfl)|(apply OKx_ldRA;(conv=>lhs;whnf)<;>exact rfl;(with_reducible assumption))|(apply OKx_slit1;(conv=>lhs;whnf)<;>exact rfl;exact rfl;intro _))
  rename_i g2 _
  refine OK_loop2 6 15 [6, 7, 8, 15, 16, 17, 18, 19, 20, 21, 22, 23, 24, 25, 26, 27] (fun m u v L => ∃ (k n : Nat) (a : Option Addr) (c : Nat), k + m = s.par.length ∧ n = (rtL s.par k).length ∧ u = .slice a n c ∧ (0 < n → ∃ g, a = some ⟨g, 0, none⟩) ∧ v = .int .i64 (k : Int) ∧ L = [.row 3 1 (.slice a n c) n (ints (rtL s.par k)), .box 26 g2 [nv, ev, pv]]) s.par.length _ (Ent.mk fun w1 hp => hp.nil 3 1) ⟨0, 0, none, 0, by omega, rfl, rfl, fun h => absurd h (by omega), rfl, rfl⟩ ?_
  rintro m u v L G ⟨k, n, a, c, hm, hn, rfl, ha, rfl, rfl⟩
  by_cases hk : k < s.par.length
  rotate_left
  · obtain rfl : k = s.par.length := by omega
    subst hn
    repeat' (first|(apply OK_seq)|(apply thenQ_n)|(apply OK_region)|(apply OKx_nilK)|(apply OK_block)|(apply blockQ_n)|(apply blockQ_s)|(apply thenQ_e)|(apply blockQ_e;exact rfl)|(apply thenQ_r)|(apply blockQ_r)|(apply OK_condT;exact rfl)|(apply OK_condF;exact rfl)|(apply OK_skip)|(apply OK_exit)|(apply OK_ret)|(apply OKx_move;(conv=>lhs;whnf)<;>exact rfl)|(apply OKx_assign;(conv=>lhs;whnf)<;>exact rfl)|(apply OKx_ldB;exact rfl;(first | exact at0|exact at1|exact at2|exact at3|exact at4|exact at5|exact at6|exact at7);exact rfl)|(apply OKx_ldR;(conv=>lhs;whnf)<;>exact rfl;(with_reducible assumption))|(apply OKx_len;exact rfl)|(apply OKx_lenR;(conv=>lhs;whnf)<;>exact rfl;(with_reducible assumption))|(apply OKx_lenR2;(conv=>lhs;whnf)<;>exact rfl;(with_reducible assumption))|(apply OKx_lenO;(conv=>lhs;whnf)<;>exact rfl;(first | exact at0|exact at1|exact at2|exact at3|exact at4|exact at5|exact at6|exact at7))|(apply OKx_lss;exact rfl;exact rfl;all_goals (intro _; try (exfalso;omega)))|(apply OKx_neq;exact rfl;exact rfl;all_goals (intro _; try (exfalso;omega)))|(apply OKx_idxO;exact rfl;exact rfl;omega)|(apply OKx_idxR;(conv=>lhs;whnf)<;>exact rfl;(with_reducible assumption);exact rfl;omega;intro _ _)|(apply OKx_idxOz;exact rfl;exact rfl;omega;omega)|(apply OKx_idxRz;(conv=>lhs;whnf)<;>exact rfl;(with_reducible assumption);exact rfl;omega;omega;intro _ _)|(apply OKx_fldO;exact rfl;exact rfl)|(apply OKx_fldR;(conv=>lhs;whnf)<;>exact rfl;(with_reducible assumption); decide;intro _ _)|(apply OKx_inc;exact rfl;exact rfl;omega)|(apply OKx_addN;exact rfl;exact rfl;omega)|(apply OKx_add;exact rfl;exact rfl;omega;omega)|(apply OKx_boxA;exact rfl;intro _)|(apply OKx_ldBA;exact rfl;(first | exact at0|exact at1|exact at2|exact at3|exact at4|exact at5|exact at6|exact at7);exact rfl)|(apply OKx_ldRA;(conv=>lhs;whnf)<;>exact rfl;(with_reducible assumption))|(apply OKx_slit1;(conv=>lhs;whnf)<;>exact rfl;exact rfl;intro _))
    refine bodyQ_r2 (by ((conv=>lhs;whnf)<;>exact rfl)) (by ((conv=>lhs;whnf)<;>exact rfl)) ?_
    exact ⟨_, Ent.pick [0] rfl, .inr ⟨hc, a, c, rfl, ha, rfl⟩⟩
  have hs := rtL_step s.par k
  have hle := rtL_len s.par k
  have hrk := hrow k
  generalize hys : rtL s.par k = ys at *
  by_cases hz : (s.par.getD k []).length = 0
  · rw [if_pos hz] at hs
    repeat' (first|(apply OK_seq)|(apply thenQ_n)|(apply OK_region)|(apply OKx_gc 38;exact rfl; refine OKx_callV (f := 38) (v := .bool true) rfl rfl rfl (fun w1 hp => by have := rts1_sat _ _ w1 (hrk.below hp.below); rwa [decide_eq_true hz] at this) ?_)|(apply OKx_gb; refine OKx_appI 1 0 rfl rfl rfl rfl (by omega) (by omega) ?_; intro g5 c5)|(apply OKx_nilK)|(apply OK_block)|(apply blockQ_n)|(apply blockQ_s)|(apply thenQ_e)|(apply blockQ_e;exact rfl)|(apply thenQ_r)|(apply blockQ_r)|(apply OK_condT;exact rfl)|(apply OK_condF;exact rfl)|(apply OK_skip)|(apply OK_exit)|(apply OK_ret)|(apply OKx_move;(conv=>lhs;whnf)<;>exact rfl)|(apply OKx_assign;(conv=>lhs;whnf)<;>exact rfl)|(apply OKx_ldB;exact rfl;(first | exact at0|exact at1|exact at2|exact at3|exact at4|exact at5|exact at6|exact at7);exact rfl)|(apply OKx_ldR;(conv=>lhs;whnf)<;>exact rfl;(with_reducible assumption))|(apply OKx_len;exact rfl)|(apply OKx_lenR;(conv=>lhs;whnf)<;>exact rfl;(with_reducible assumption))|(apply OKx_lenR2;(conv=>lhs;whnf)<;>exact rfl;(with_reducible assumption))|(apply OKx_lenO;(conv=>lhs;whnf)<;>exact rfl;(first | exact at0|exact at1|exact at2|exact at3|exact at4|exact at5|exact at6|exact at7))|(apply OKx_lss;exact rfl;exact rfl;all_goals (intro _; try (exfalso;omega)))|(apply OKx_neq;exact rfl;exact rfl;all_goals (intro _; try (exfalso;omega)))|(apply OKx_idxO;exact rfl;exact rfl;omega)|(apply OKx_idxR;(conv=>lhs;whnf)<;>exact rfl;(with_reducible assumption);exact rfl;omega;intro _ _)|(apply OKx_idxOz;exact rfl;exact rfl;omega;omega)|(apply OKx_idxRz;(conv=>lhs;whnf)<;>exact rfl;(with_reducible assumption);exact rfl;omega;omega;intro _ _)|(apply OKx_fldO;exact rfl;exact rfl)|(apply OKx_fldR;(conv=>lhs;whnf)<;>exact rfl;(with_reducible assumption); decide;intro _ _)|(apply OKx_inc;exact rfl;exact rfl;omega)|(apply OKx_addN;exact rfl;exact rfl;omega)|(apply OKx_add;exact rfl;exact rfl;omega;omega)|(apply OKx_boxA;exact rfl;intro _)|(apply OKx_ldBA;exact rfl;(first | exact at0|exact at1|exact at2|exact at3|exact at4|exact at5|exact at6|exact at7);exact rfl)|(apply OKx_ldRA;(conv=>lhs;whnf)<;>exact rfl;(with_reducible assumption))|(apply OKx_slit1;(conv=>lhs;whnf)<;>exact rfl;exact rfl;intro _))
    refine ⟨by (repeat' (first | refine agree_upd rfl ?_ | exact agree_over | exact agree_refl _ _ | refine agree_over2 rfl ?_)), m - 1, _, by omega, Ent.pick [1, 2] rfl, ?_⟩
    exact ⟨k + 1, n + 1, _, c5, by omega, by rw [hs, List.length_append, hn]; rfl, rfl, fun _ => ⟨_, rfl⟩, rfl, by rw [hs]; rfl⟩
  · rw [if_neg hz, List.append_nil] at hs
    repeat' (first|(apply OK_seq)|(apply thenQ_n)|(apply OK_region)|(apply OKx_gc 38;exact rfl; refine OKx_callV (f := 38) (v := .bool false) rfl rfl rfl (fun w1 hp => by have := rts1_sat _ _ w1 (hrk.below hp.below); rwa [decide_eq_false hz] at this) ?_)|(apply OKx_nilK)|(apply OK_block)|(apply blockQ_n)|(apply blockQ_s)|(apply thenQ_e)|(apply blockQ_e;exact rfl)|(apply thenQ_r)|(apply blockQ_r)|(apply OK_condT;exact rfl)|(apply OK_condF;exact rfl)|(apply OK_skip)|(apply OK_exit)|(apply OK_ret)|(apply OKx_move;(conv=>lhs;whnf)<;>exact rfl)|(apply OKx_assign;(conv=>lhs;whnf)<;>exact rfl)|(apply OKx_ldB;exact rfl;(first | exact at0|exact at1|exact at2|exact at3|exact at4|exact at5|exact at6|exact at7);exact rfl)|(apply OKx_ldR;(conv=>lhs;whnf)<;>exact rfl;(with_reducible assumption))|(apply OKx_len;exact rfl)|(apply OKx_lenR;(conv=>lhs;whnf)<;>exact rfl;(with_reducible assumption))|(apply OKx_lenR2;(conv=>lhs;whnf)<;>exact rfl;(with_reducible assumption))|(apply OKx_lenO;(conv=>lhs;whnf)<;>exact rfl;(first | exact at0|exact at1|exact at2|exact at3|exact at4|exact at5|exact at6|exact at7))|(apply OKx_lss;exact rfl;exact rfl;all_goals (intro _; try (exfalso;omega)))|(apply OKx_neq;exact rfl;exact rfl;all_goals (intro _; try (exfalso;omega)))|(apply OKx_idxO;exact rfl;exact rfl;omega)|(apply OKx_idxR;(conv=>lhs;whnf)<;>exact rfl;(with_reducible assumption);exact rfl;omega;intro _ _)|(apply OKx_idxOz;exact rfl;exact rfl;omega;omega)|(apply OKx_idxRz;(conv=>lhs;whnf)<;>exact rfl;(with_reducible assumption);exact rfl;omega;omega;intro _ _)|(apply OKx_fldO;exact rfl;exact rfl)|(apply OKx_fldR;(conv=>lhs;whnf)<;>exact rfl;(with_reducible assumption); decide;intro _ _)|(apply OKx_inc;exact rfl;exact rfl;omega)|(apply OKx_addN;exact rfl;exact rfl;omega)|(apply OKx_add;exact rfl;exact rfl;omega;omega)|(apply OKx_boxA;exact rfl;intro _)|(apply OKx_ldBA;exact rfl;(first | exact at0|exact at1|exact at2|exact at3|exact at4|exact at5|exact at6|exact at7);exact rfl)|(apply OKx_ldRA;(conv=>lhs;whnf)<;>exact rfl;(with_reducible assumption))|(apply OKx_slit1;(conv=>lhs;whnf)<;>exact rfl;exact rfl;intro _))
    refine ⟨by (repeat' (first | refine agree_upd rfl ?_ | exact agree_over | exact agree_refl _ _ | refine agree_over2 rfl ?_)), m - 1, _, by omega, Ent.refl _ _, ?_⟩
    exact ⟨k + 1, n, a, c, by omega, by rw [hs]; exact hn, rfl, ha, rfl, by rw [hs]⟩
set_option maxRecDepth 100000 in
set_option maxHeartbeats 4000000 in
theorem Roots_sat (v : Value) (s : Stem) (w : World) (h : Stm w v s) : Sat Tryz.prog 8 [v] w (RtsR s) := by
  have hst := h
  obtain ⟨nv, ev, pv, rfl, _, _, _⟩ := h
  refine SatL.of 8 [2, 3] Tryz.func8 (by kernel_rfl) (by kernel_rfl) rfl rfl rfl rfl ?_
  repeat' (first|(apply OK_seq)|(apply thenQ_n)|(apply OK_region)|(apply OKx_gc 37;exact rfl; refine OKx_call (f := 37) rfl rfl (fun w1 hp => nodesR_sat _ s w1 (hst.below hp.below)) ?_; rintro _ _ (⟨h1, rfl, rfl⟩ | ⟨h1, a, c, rfl, ha, rfl⟩))|(apply OKx_nilK)|(apply OK_block)|(apply blockQ_n)|(apply blockQ_s)|(apply thenQ_e)|(apply blockQ_e;exact rfl)|(apply thenQ_r)|(apply blockQ_r)|(apply OK_condT;exact rfl)|(apply OK_condF;exact rfl)|(apply OK_skip)|(apply OK_exit)|(apply OK_ret)|(apply OKx_assign;(conv=>lhs;whnf)<;>exact rfl)|(apply OKx_extract;exact rfl;(conv=>lhs;whnf)<;>exact rfl)|(apply OKx_boxA;exact rfl;intro _)|(apply OKx_ldBA;exact rfl;(first | exact at0|exact at1|exact at2|exact at3|exact at4|exact at5|exact at6|exact at7);exact rfl)|(apply OKx_ldRA;(conv=>lhs;whnf)<;>exact rfl;(with_reducible assumption)))
  · refine bodyQ_r2 (by ((conv=>lhs;whnf)<;>exact rfl)) (by ((conv=>lhs;whnf)<;>exact rfl)) ?_
    exact ⟨_, Ent.nil, .inl ⟨h1, rfl, rfl⟩⟩
  · refine bodyQ_r2 (by ((conv=>lhs;whnf)<;>exact rfl)) (by ((conv=>lhs;whnf)<;>exact rfl)) ?_
    exact ⟨_, Ent.pick [0] rfl, .inr ⟨h1, a, c, rfl, ha, rfl⟩⟩
end Go.Proofs.YtpfemholpigdeaaGreatDoor
namespace Go.Proofs.YtpfemholpigdeaaGreatDoor
open Go.RowKit
def CV (l : List (Int × Int)) (j : Nat) : Nat → Value
  | 0 => .int .i64 (l.getD j (0, 0)).1
  | _ => .int .i64 (l.getD j (0, 0)).2
def Chs (w : World) (v : Value) (l : List (Int × Int)) : Prop := Sl2 w v 2 l.length (CV l)
theorem Chs.below {w w' : World} {v : Value} {l : List (Int × Int)} (h : Chs w v l) (hb : Below w.heap.size w w') : Chs w' v l := Sl2.below h hb
end Go.Proofs.YtpfemholpigdeaaGreatDoor
namespace Go.Proofs.YtpfemholpigdeaaGreatDoor
open Go.RowKit
theorem anyD_hit {α : Type} (xs : List α) (d : α) (p : α → Bool) (k : Nat) (h : k < xs.length) (e : p (xs.getD k d) = true) : xs.any p = true := by
  rw [getD_lt _ _ _ h] at e
  exact List.any_eq_true.2 ⟨_, List.getElem_mem h, e⟩
theorem anyD_none {α : Type} (xs : List α) (d : α) (p : α → Bool) (h : ∀ k, k < xs.length → p (xs.getD k d) = false) : xs.any p = false := by
  rw [List.any_eq_false]
  intro x hx
  obtain ⟨k, hk, rfl⟩ := List.getElem_of_mem hx
  have := h k hk
  rw [getD_lt _ _ _ hk] at this
  rw [this]; simp
def great36 (s : Stem) (n : Int) : Bool :=
  s.names.any (fun x => decide (20 < x.size)) || (s.par.any (fun p => decide (8 < p.length)) ||
    decide ((n < s.names.length ∧ s.names.length ≤ 64) ∨ 66 < s.names.length ∨ s.names.length + 2 < s.ext.length ∨ s.names.length + 2 < s.par.length))
set_option maxRecDepth 100000 in
set_option maxHeartbeats 4000000 in
theorem Great36_sat (v : Value) (s : Stem) (n : Int) (w : World) (h : Stm w v s) : SatV Tryz.prog 6 [v, .int .i64 n] w (.bool (great36 s n)) := by
  obtain ⟨nv, ev, pv, rfl, hS, hE, hP⟩ := h
  obtain ⟨fv, hpv, hrow⟩ := hP.rows
  have hnv := hS.sl
  have hev := hE.sl
  have hnb := hnv.bound
  have heb := hev.bound
  have hpb := hpv.bound
  have hrw := fun j => (hrow j).sl
  refine SatL.of 72 [4] Tryz.func6 (by kernel_rfl) (by kernel_rfl) rfl rfl rfl rfl ?_
  repeat' (first|(apply OK_seq)|(apply thenQ_n)|(apply OK_region)|(apply OKx_nilK)|(apply OK_block)|(apply blockQ_n)|(apply blockQ_s)|(apply thenQ_e)|(apply blockQ_e;exact rfl)|(apply thenQ_r)|(apply blockQ_r)|(apply OK_condT;exact rfl)|(apply OK_condF;exact rfl)|(apply OK_skip)|(apply OK_exit)|(apply OK_ret)|(apply OKx_move;(conv=>lhs;whnf)<;>exact rfl)|(apply OKx_assign;(conv=>lhs;whnf)<;>exact rfl)|(apply OKx_ldB;exact rfl;(first | exact at0|exact at1|exact at2|exact at3|exact at4|exact at5|exact at6|exact at7);exact rfl)|(apply OKx_ldR;(conv=>lhs;whnf)<;>exact rfl;(with_reducible assumption))|(apply OKx_len;exact rfl)|(apply OKx_lenR;(conv=>lhs;whnf)<;>exact rfl;(with_reducible assumption))|(apply OKx_lenR2;(conv=>lhs;whnf)<;>exact rfl;(with_reducible assumption))|(apply OKx_lenO;(conv=>lhs;whnf)<;>exact rfl;(first | exact at0|exact at1|exact at2|exact at3|exact at4|exact at5|exact at6|exact at7))|(apply OKx_lenS;exact rfl)|(apply OKx_lss;exact rfl;exact rfl;all_goals (intro _; try (exfalso;omega)))|(apply OKx_leq;exact rfl;exact rfl;all_goals (intro _; try (exfalso;omega)))|(apply OKx_gtr;exact rfl;exact rfl;all_goals (intro _; try (exfalso;omega)))|(apply OKx_idxO;exact rfl;exact rfl;omega)|(apply OKx_idxR;(conv=>lhs;whnf)<;>exact rfl;(with_reducible assumption);exact rfl;omega;intro _ _)|(apply OKx_idxOz;exact rfl;exact rfl;omega;omega)|(apply OKx_idxRz;(conv=>lhs;whnf)<;>exact rfl;(with_reducible assumption);exact rfl;omega;omega;intro _ _)|(apply OKx_fldO;exact rfl;exact rfl)|(apply OKx_fldR;(conv=>lhs;whnf)<;>exact rfl;(with_reducible assumption); decide;intro _ _)|(apply OKx_inc;exact rfl;exact rfl;omega)|(apply OKx_addN;exact rfl;exact rfl;omega)|(apply OKx_add;exact rfl;exact rfl;omega;omega)|(apply OKx_pickT;exact rfl;(conv=>lhs;whnf)<;>exact rfl)|(apply OKx_pickF;exact rfl;(conv=>lhs;whnf)<;>exact rfl)|(apply OKx_guardT;exact rfl;exact rfl)|(apply OKx_guardF;exact rfl;exact rfl)|(apply OKx_guardU;exact rfl;exact rfl)|(apply OKx_boxA;exact rfl;intro _))
  rename_i g
  refine OK_loop1 5 [4, 5, 7, 8, 9, 10, 11, 12, 13, 14, 15, 16, 17, 18, 19, 20] (fun m v L => ∃ k : Nat, k + m = s.names.length ∧ v = .int .i64 (k : Int) ∧ (∀ j, j < k → (s.names.getD j ByteArray.empty).size ≤ 20) ∧ L = [.box 26 g [nv, ev, pv]]) s.names.length _ (Ent.refl _ _) ⟨0, by omega, rfl, fun j hj => absurd hj (by omega), rfl⟩ ?_
  rintro m v L G ⟨k, hm, rfl, H, rfl⟩
  repeat' (first|(apply OK_seq)|(apply thenQ_n)|(apply OK_region)|(apply OKx_nilK)|(apply OK_block)|(apply blockQ_n)|(apply blockQ_s)|(apply thenQ_e)|(apply blockQ_e;exact rfl)|(apply thenQ_r)|(apply blockQ_r)|(apply OK_condT;exact rfl)|(apply OK_condF;exact rfl)|(apply OK_skip)|(apply OK_exit)|(apply OK_ret)|(apply OKx_move;(conv=>lhs;whnf)<;>exact rfl)|(apply OKx_assign;(conv=>lhs;whnf)<;>exact rfl)|(apply OKx_ldB;exact rfl;(first | exact at0|exact at1|exact at2|exact at3|exact at4|exact at5|exact at6|exact at7);exact rfl)|(apply OKx_ldR;(conv=>lhs;whnf)<;>exact rfl;(with_reducible assumption))|(apply OKx_len;exact rfl)|(apply OKx_lenR;(conv=>lhs;whnf)<;>exact rfl;(with_reducible assumption))|(apply OKx_lenR2;(conv=>lhs;whnf)<;>exact rfl;(with_reducible assumption))|(apply OKx_lenO;(conv=>lhs;whnf)<;>exact rfl;(first | exact at0|exact at1|exact at2|exact at3|exact at4|exact at5|exact at6|exact at7))|(apply OKx_lenS;exact rfl)|(apply OKx_lss;exact rfl;exact rfl;all_goals (intro _; try (exfalso;omega)))|(apply OKx_leq;exact rfl;exact rfl;all_goals (intro _; try (exfalso;omega)))|(apply OKx_gtr;exact rfl;exact rfl;all_goals (intro _; try (exfalso;omega)))|(apply OKx_idxO;exact rfl;exact rfl;omega)|(apply OKx_idxR;(conv=>lhs;whnf)<;>exact rfl;(with_reducible assumption);exact rfl;omega;intro _ _)|(apply OKx_idxOz;exact rfl;exact rfl;omega;omega)|(apply OKx_idxRz;(conv=>lhs;whnf)<;>exact rfl;(with_reducible assumption);exact rfl;omega;omega;intro _ _)|(apply OKx_fldO;exact rfl;exact rfl)|(apply OKx_fldR;(conv=>lhs;whnf)<;>exact rfl;(with_reducible assumption); decide;intro _ _)|(apply OKx_inc;exact rfl;exact rfl;omega)|(apply OKx_addN;exact rfl;exact rfl;omega)|(apply OKx_add;exact rfl;exact rfl;omega;omega)|(apply OKx_pickT;exact rfl;(conv=>lhs;whnf)<;>exact rfl)|(apply OKx_pickF;exact rfl;(conv=>lhs;whnf)<;>exact rfl)|(apply OKx_guardT;exact rfl;exact rfl)|(apply OKx_guardF;exact rfl;exact rfl)|(apply OKx_guardU;exact rfl;exact rfl)|(apply OKx_boxA;exact rfl;intro _))
  · refine bodyQ_r1 (by ((conv=>lhs;whnf)<;>exact rfl)) ?_
    refine ⟨_, Ent.nil, bool_eq ?_, rfl⟩
    rw [great36, anyD_hit s.names ByteArray.empty _ k (by omega) (decide_eq_true (by omega))]
    rfl
  · refine ⟨by (repeat' (first | refine agree_upd rfl ?_ | exact agree_over | exact agree_refl _ _ | refine agree_over2 rfl ?_)), m - 1, _, by omega, Ent.refl _ _, ?_⟩
    refine ⟨k + 1, by omega, rfl, fun j hj => ?_, rfl⟩
    by_cases h : j < k
    · exact H j h
    · obtain rfl : j = k := by omega
      omega
  have h1 : s.names.any (fun x => decide (20 < x.size)) = false := anyD_none s.names ByteArray.empty _ fun j hj => decide_eq_false (by have := H j (by omega);omega)
  clear H hm
  refine OK_loop1 6 [4, 6, 21, 22, 23, 24, 25, 26, 27, 28, 29, 30, 31, 32, 33, 34] (fun m v L => ∃ k : Nat, k + m = s.par.length ∧ v = .int .i64 (k : Int) ∧ (∀ j, j < k → (s.par.getD j []).length ≤ 8) ∧ L = [.box 26 g [nv, ev, pv]]) s.par.length _ (Ent.refl _ _) ⟨0, by omega, rfl, fun j hj => absurd hj (by omega), rfl⟩ ?_
  rintro m v L G2 ⟨k, hm, rfl, H, rfl⟩
  have hk := hrw k
  repeat' (first|(apply OK_seq)|(apply thenQ_n)|(apply OK_region)|(apply OKx_nilK)|(apply OK_block)|(apply blockQ_n)|(apply blockQ_s)|(apply thenQ_e)|(apply blockQ_e;exact rfl)|(apply thenQ_r)|(apply blockQ_r)|(apply OK_condT;exact rfl)|(apply OK_condF;exact rfl)|(apply OK_skip)|(apply OK_exit)|(apply OK_ret)|(apply OKx_move;(conv=>lhs;whnf)<;>exact rfl)|(apply OKx_assign;(conv=>lhs;whnf)<;>exact rfl)|(apply OKx_ldB;exact rfl;(first | exact at0|exact at1|exact at2|exact at3|exact at4|exact at5|exact at6|exact at7);exact rfl)|(apply OKx_ldR;(conv=>lhs;whnf)<;>exact rfl;(with_reducible assumption))|(apply OKx_len;exact rfl)|(apply OKx_lenR;(conv=>lhs;whnf)<;>exact rfl;(with_reducible assumption))|(apply OKx_lenR2;(conv=>lhs;whnf)<;>exact rfl;(with_reducible assumption))|(apply OKx_lenO;(conv=>lhs;whnf)<;>exact rfl;(first | exact at0|exact at1|exact at2|exact at3|exact at4|exact at5|exact at6|exact at7))|(apply OKx_lenS;exact rfl)|(apply OKx_lss;exact rfl;exact rfl;all_goals (intro _; try (exfalso;omega)))|(apply OKx_leq;exact rfl;exact rfl;all_goals (intro _; try (exfalso;omega)))|(apply OKx_gtr;exact rfl;exact rfl;all_goals (intro _; try (exfalso;omega)))|(apply OKx_idxO;exact rfl;exact rfl;omega)|(apply OKx_idxR;(conv=>lhs;whnf)<;>exact rfl;(with_reducible assumption);exact rfl;omega;intro _ _)|(apply OKx_idxOz;exact rfl;exact rfl;omega;omega)|(apply OKx_idxRz;(conv=>lhs;whnf)<;>exact rfl;(with_reducible assumption);exact rfl;omega;omega;intro _ _)|(apply OKx_fldO;exact rfl;exact rfl)|(apply OKx_fldR;(conv=>lhs;whnf)<;>exact rfl;(with_reducible assumption); decide;intro _ _)|(apply OKx_inc;exact rfl;exact rfl;omega)|(apply OKx_addN;exact rfl;exact rfl;omega)|(apply OKx_add;exact rfl;exact rfl;omega;omega)|(apply OKx_pickT;exact rfl;(conv=>lhs;whnf)<;>exact rfl)|(apply OKx_pickF;exact rfl;(conv=>lhs;whnf)<;>exact rfl)|(apply OKx_guardT;exact rfl;exact rfl)|(apply OKx_guardF;exact rfl;exact rfl)|(apply OKx_guardU;exact rfl;exact rfl)|(apply OKx_boxA;exact rfl;intro _))
  · refine bodyQ_r1 (by ((conv=>lhs;whnf)<;>exact rfl)) ?_
    refine ⟨_, Ent.nil, bool_eq ?_, rfl⟩
    rw [great36, h1, anyD_hit s.par [] _ k (by omega) (decide_eq_true (by omega))]
    rfl
  · refine ⟨by (repeat' (first | refine agree_upd rfl ?_ | exact agree_over | exact agree_refl _ _ | refine agree_over2 rfl ?_)), m - 1, _, by omega, Ent.refl _ _, ?_⟩
    refine ⟨k + 1, by omega, rfl, fun j hj => ?_, rfl⟩
    by_cases h : j < k
    · exact H j h
    · obtain rfl : j = k := by omega
      omega
  all_goals
    have h2 : s.par.any (fun p => decide (8 < p.length)) = false := anyD_none s.par [] _ fun j hj => decide_eq_false (by have := H j (by omega);omega)
    refine bodyQ_r1 (by ((conv=>lhs;whnf)<;>exact rfl)) ?_
    refine ⟨_, Ent.nil, bool_eq ?_, rfl⟩
    rw [great36, h1, h2, Bool.false_or, Bool.false_or]
    symm
    first
      | exact decide_eq_true (by omega)
      | exact decide_eq_false (by omega)
end Go.Proofs.YtpfemholpigdeaaGreatDoor
