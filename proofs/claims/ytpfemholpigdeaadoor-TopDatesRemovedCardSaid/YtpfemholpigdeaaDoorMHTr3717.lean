/-
  Part 17 of the proof: Erl, La37, Aw37, Cop. No statement of the seat is proved here.
-/
import Derived.Test.YtpfemholpigdeaaDoorMHTr3716
namespace Go.Proofs.YtpfemholpigdeaaDoor
open Go.RowKit
set_option maxRecDepth 100000 in
set_option maxHeartbeats 4000000 in
theorem dCheck_sat (v dv : Value) (s : Stem) (ds : List Dt) (w : World) (h : Stm w v s) (hd : Dats w dv ds) : SatV Tryd.prog 63 [v, dv] w (.int .i64 (dCheck s ds)) :=
  Sat.lib ⟨_, _, Tryd.func63, by kernel_rfl, rfl⟩ fun w1 hb => (dCheck_any v dv s ds w1 (h.below hb) (hd.below hb)).mono fun e w' ⟨h1, h2⟩ => ⟨_, [], h1, h2, rfl, rfl⟩
set_option maxRecDepth 100000 in
set_option maxHeartbeats 4000000 in
theorem rdCheck_sat (v dv : Value) (s : Stem) (ds : List Dt) (w : World) (h : Stm w v s) (hd : Dats w dv ds) : SatV Tryd.prog 31 [v, dv] w (.int .i64 (dCheck s ds)) :=
  Sat.lib ⟨_, _, Tryd.func31, by kernel_rfl, rfl⟩ fun w1 hb => (rdCheck_any v dv s ds w1 (h.below hb) (hd.below hb)).mono fun e w' ⟨h1, h2⟩ => ⟨_, [], h1, h2, rfl, rfl⟩
def ans (s : Stem) (ds : List Dt) (xs : List Int) : List Int := if yErr s ds = 0 then xs else []
theorem ans_yes {s : Stem} {ds : List Dt} (xs : List Int) (h : yErr s ds = 0) : ans s ds xs = xs := if_pos h
theorem ans_no {s : Stem} {ds : List Dt} (xs : List Int) (h : yErr s ds ≠ 0) : ans s ds xs = [] := if_neg h
def ThR (s : Stem) (ds : List Dt) (u : Value) (L : List Res) : Prop :=
  (yErr s ds = 0 ∧ ∃ g1 c1 g2 c2, u = .tuple #[.slice (some ⟨g1, 0, none⟩) s.names.length c1, .slice (some ⟨g2, 0, none⟩) s.names.length c2, .int .i64 0] ∧
    L = [.row 3 1 (.slice (some ⟨g1, 0, none⟩) s.names.length c1) s.names.length (ints (eYrs s ds)), .row 3 1 (.slice (some ⟨g2, 0, none⟩) s.names.length c2) s.names.length (ints (lYrs s ds))]) ∨
  (yErr s ds ≠ 0 ∧ ∃ v1 v2, u = .tuple #[v1, v2, .int .i64 (yErr s ds)] ∧ L = [.row 3 1 v1 0 [], .row 3 1 v2 0 []])
set_option maxRecDepth 100000 in
set_option maxHeartbeats 4000000 in
theorem check37_sat (v dv : Value) (s : Stem) (ds : List Dt) (w : World) (h : Stm w v s) (hd : Dats w dv ds) : Sat Tryd.prog 62 [v, dv] w (ThR s ds) :=
  Sat.lib ⟨_, _, Tryd.func62, by kernel_rfl, rfl⟩ fun w1 hb => (check37_any v dv s ds w1 (h.below hb) (hd.below hb)).mono fun e w' h => by
    rcases h with ⟨h0, g1, c1, g2, c2, h1, h2⟩ | ⟨h0, v1, v2, h1, h2⟩
    · exact ⟨_, _, h1, h2, .inl ⟨h0, g1, c1, g2, c2, rfl, rfl⟩⟩
    · exact ⟨_, _, h1, h2, .inr ⟨h0, v1, v2, rfl, rfl⟩⟩
def AnsR (s : Stem) (ds : List Dt) (xs : List Int) (u : Value) (L : List Res) : Prop :=
  ∃ v, u = .tuple #[v, .int .i64 (yErr s ds)] ∧ L = [irow v (ans s ds xs)]
theorem AnsR.yes {s : Stem} {ds : List Dt} {xs : List Int} {v : Value} {n : Nat} (hy : yErr s ds = 0) (hn : xs.length = n) : AnsR s ds xs (.tuple #[v, .int .i64 0]) [.row 3 1 v n (ints xs)] := by
  subst hn
  exact ⟨v, by rw [hy], by rw [ans_yes xs hy]⟩
theorem AnsR.no {s : Stem} {ds : List Dt} {xs : List Int} {v : Value} (hy : yErr s ds ≠ 0) : AnsR s ds xs (.tuple #[v, .int .i64 (yErr s ds)]) [.row 3 1 v 0 []] :=
  ⟨v, rfl, by rw [ans_no xs hy]; rfl⟩
set_option maxRecDepth 100000 in
set_option maxHeartbeats 4000000 in
theorem Earliest_sat (v dv : Value) (s : Stem) (ds : List Dt) (w : World) (h : Stm w v s) (hd : Dats w dv ds) : Sat Tryd.prog 33 [v, dv] w (AnsR s ds (eYrs s ds)) := by
  have hst := h
  obtain ⟨nv, ev, pv, rfl, _, _, _⟩ := h
  refine SatL.of 18 [4, 5] Tryd.func33 (by kernel_rfl) (by kernel_rfl) rfl rfl rfl rfl ?_
  repeat' (first|(apply OK_seq)|(apply thenQ_n)|(apply OK_region)|(apply OKx_gc 62;exact rfl; refine OKx_call (f := 62) rfl rfl (fun w hp => check37_sat _ _ s ds w (hst.below hp.below) (hd.below hp.below)) ?_; rintro _ _ (⟨hy, g1, c1, g2, c2, rfl, rfl⟩ | ⟨hy, v1, v2, rfl, rfl⟩))|(apply OKx_nilK)|(apply OK_block)|(apply blockQ_n)|(apply blockQ_s)|(apply thenQ_e)|(apply blockQ_e;exact rfl)|(apply thenQ_r)|(apply blockQ_r)|(apply OK_condT;exact rfl)|(apply OK_condF;exact rfl)|(apply OK_skip)|(apply OK_exit)|(apply OK_ret)|(apply OKx_move;(conv=>lhs;whnf)<;>exact rfl)|(apply OKx_assign;(conv=>lhs;whnf)<;>exact rfl)|(apply OKx_extract;exact rfl;(conv=>lhs;whnf)<;>exact rfl)|(apply OKx_boxA;exact rfl;intro _)|(apply OKx_ldBA;exact rfl;(first | exact at0|exact at1|exact at2|exact at3|exact at4|exact at5|exact at6|exact at7);exact rfl)|(apply OKx_ldRA;(conv=>lhs;whnf)<;>exact rfl;(with_reducible assumption)))
  · refine bodyQ_r2 (by ((conv=>lhs;whnf)<;>exact rfl)) (by ((conv=>lhs;whnf)<;>exact rfl)) ?_
    exact ⟨_, Ent.pick [0] rfl, AnsR.yes hy (eYrs_len s ds)⟩
  · refine bodyQ_r2 (by ((conv=>lhs;whnf)<;>exact rfl)) (by ((conv=>lhs;whnf)<;>exact rfl)) ?_
    exact ⟨_, Ent.pick [0] rfl, AnsR.no hy⟩
set_option maxRecDepth 100000 in
set_option maxHeartbeats 4000000 in
theorem Latest_sat (v dv : Value) (s : Stem) (ds : List Dt) (w : World) (h : Stm w v s) (hd : Dats w dv ds) : Sat Tryd.prog 36 [v, dv] w (AnsR s ds (lYrs s ds)) := by
  have hst := h
  obtain ⟨nv, ev, pv, rfl, _, _, _⟩ := h
  refine SatL.of 18 [4, 5] Tryd.func36 (by kernel_rfl) (by kernel_rfl) rfl rfl rfl rfl ?_
  repeat' (first|(apply OK_seq)|(apply thenQ_n)|(apply OK_region)|(apply OKx_gc 62;exact rfl; refine OKx_call (f := 62) rfl rfl (fun w hp => check37_sat _ _ s ds w (hst.below hp.below) (hd.below hp.below)) ?_; rintro _ _ (⟨hy, g1, c1, g2, c2, rfl, rfl⟩ | ⟨hy, v1, v2, rfl, rfl⟩))|(apply OKx_nilK)|(apply OK_block)|(apply blockQ_n)|(apply blockQ_s)|(apply thenQ_e)|(apply blockQ_e;exact rfl)|(apply thenQ_r)|(apply blockQ_r)|(apply OK_condT;exact rfl)|(apply OK_condF;exact rfl)|(apply OK_skip)|(apply OK_exit)|(apply OK_ret)|(apply OKx_move;(conv=>lhs;whnf)<;>exact rfl)|(apply OKx_assign;(conv=>lhs;whnf)<;>exact rfl)|(apply OKx_extract;exact rfl;(conv=>lhs;whnf)<;>exact rfl)|(apply OKx_boxA;exact rfl;intro _)|(apply OKx_ldBA;exact rfl;(first | exact at0|exact at1|exact at2|exact at3|exact at4|exact at5|exact at6|exact at7);exact rfl)|(apply OKx_ldRA;(conv=>lhs;whnf)<;>exact rfl;(with_reducible assumption)))
  · refine bodyQ_r2 (by ((conv=>lhs;whnf)<;>exact rfl)) (by ((conv=>lhs;whnf)<;>exact rfl)) ?_
    exact ⟨_, Ent.pick [1] rfl, AnsR.yes hy (lYrs_len s ds)⟩
  · refine bodyQ_r2 (by ((conv=>lhs;whnf)<;>exact rfl)) (by ((conv=>lhs;whnf)<;>exact rfl)) ?_
    exact ⟨_, Ent.pick [1] rfl, AnsR.no hy⟩
theorem yErr_25 (s : Stem) (ds : List Dt) : yErr s ds = 0 ∨ yErr s ds = 1 ∨ yErr s ds = 25 := by
  unfold yErr
  split
  · omega
  · split <;> omega
end Go.Proofs.YtpfemholpigdeaaDoor
namespace Go.Proofs.YtpfemholpigdeaaDoor
open Go.RowKit
def greatB (s : Stem) (ds : List Dt) : Bool :=
  s.par.any (fun p => decide (4 < p.length)) || (s.names.any (fun x => decide (20 < x.size)) || (decide (8 < s.names.length) || (decide (9 < s.par.length) || (decide (9 < s.ext.length) || decide (8 < ds.length)))))
theorem any_getD {α : Type} (xs : List α) (d : α) (p : α → Bool) (k : Nat) (h : k < xs.length) (e : p (xs.getD k d) = true) : xs.any p = true := by
  rw [getD_lt _ _ _ h] at e
  exact List.any_eq_true.2 ⟨_, List.getElem_mem h, e⟩
theorem any_none {α : Type} (xs : List α) (d : α) (p : α → Bool) (h : ∀ k, k < xs.length → p (xs.getD k d) = false) : xs.any p = false := by
  rw [List.any_eq_false]
  intro x hx
  obtain ⟨k, hk, rfl⟩ := List.getElem_of_mem hx
  have := h k hk
  rw [getD_lt _ _ _ hk] at this
  rw [this]; simp
theorem Dats.len {w : World} {v : Value} {ds : List Dt} (h : Dats w v ds) : ∃ f, Sl w v 3 ds.length f := ⟨_, h.sl⟩
set_option maxRecDepth 100000 in
set_option maxHeartbeats 4000000 in
theorem Great_sat (v dv : Value) (s : Stem) (ds : List Dt) (w : World) (h : Stm w v s) (hd : Dats w dv ds) : SatV Tryd.prog 30 [v, dv] w (.bool (greatB s ds)) := by
  obtain ⟨nv, ev, pv, rfl, hS, hE, hP⟩ := h
  obtain ⟨fv, hpv, hrow⟩ := hP.rows
  have hnv := hS.sl
  have hev := hE.sl
  have hnb := hnv.bound
  have hpb := hpv.bound
  obtain ⟨df, hdv⟩ := hd.len
  have hrw := fun j => (hrow j).sl
  refine SatL.of 56 [4] Tryd.func30 (by kernel_rfl) (by kernel_rfl) rfl rfl rfl rfl ?_
  repeat' (first|(apply OK_seq)|(apply thenQ_n)|(apply OK_region)|(apply OKx_nilK)|(apply OK_block)|(apply blockQ_n)|(apply blockQ_s)|(apply thenQ_e)|(apply blockQ_e;exact rfl)|(apply thenQ_r)|(apply blockQ_r)|(apply OK_condT;exact rfl)|(apply OK_condF;exact rfl)|(apply OK_skip)|(apply OK_exit)|(apply OK_ret)|(apply OKx_move;(conv=>lhs;whnf)<;>exact rfl)|(apply OKx_assign;(conv=>lhs;whnf)<;>exact rfl)|(apply OKx_ldB;exact rfl;(first | exact at0|exact at1|exact at2|exact at3|exact at4|exact at5|exact at6|exact at7);exact rfl)|(apply OKx_ldR;(conv=>lhs;whnf)<;>exact rfl;(with_reducible assumption))|(apply OKx_len;exact rfl)|(apply OKx_lenR;(conv=>lhs;whnf)<;>exact rfl;(with_reducible assumption))|(apply OKx_lenR2;(conv=>lhs;whnf)<;>exact rfl;(with_reducible assumption))|(apply OKx_lenO;(conv=>lhs;whnf)<;>exact rfl;(first | exact at0|exact at1|exact at2|exact at3|exact at4|exact at5|exact at6|exact at7))|(apply OKx_lenS;exact rfl)|(apply OKx_lss;exact rfl;exact rfl;all_goals (intro _; try (exfalso;omega)))|(apply OKx_gtr;exact rfl;exact rfl;all_goals (intro _; try (exfalso;omega)))|(apply OKx_idxO;exact rfl;exact rfl;omega)|(apply OKx_idxR;(conv=>lhs;whnf)<;>exact rfl;(with_reducible assumption);exact rfl;omega;intro _ _)|(apply OKx_idxOz;exact rfl;exact rfl;omega;omega)|(apply OKx_idxRz;(conv=>lhs;whnf)<;>exact rfl;(with_reducible assumption);exact rfl;omega;omega;intro _ _)|(apply OKx_fldO;exact rfl;exact rfl)|(apply OKx_fldR;(conv=>lhs;whnf)<;>exact rfl;(with_reducible assumption); decide;intro _ _)|(apply OKx_inc;exact rfl;exact rfl;omega)|(apply OKx_addN;exact rfl;exact rfl;omega)|(apply OKx_add;exact rfl;exact rfl;omega;omega)|(apply OKx_pickT;exact rfl;(conv=>lhs;whnf)<;>exact rfl)|(apply OKx_pickF;exact rfl;(conv=>lhs;whnf)<;>exact rfl)|(apply OKx_guardT;exact rfl;exact rfl)|(apply OKx_guardF;exact rfl;exact rfl)|(apply OKx_guardU;exact rfl;exact rfl)|(apply OKx_boxA;exact rfl;intro _))
  rename_i g
  refine OK_loop1 5 [4, 5, 7, 8, 9, 10, 11, 12, 13, 14, 15, 16, 17, 18, 19, 20] (fun m v L => ∃ k : Nat, k + m = s.par.length ∧ v = .int .i64 (k : Int) ∧ (∀ j, j < k → (s.par.getD j []).length ≤ 4) ∧ L = [.box 26 g [nv, ev, pv]]) s.par.length _ (Ent.pick [0] rfl) ⟨0, by omega, rfl, fun j hj => absurd hj (by omega), rfl⟩ ?_
  rintro m v L G ⟨k, hm, rfl, H, rfl⟩
  have hk := hrw k
  repeat' (first|(apply OK_seq)|(apply thenQ_n)|(apply OK_region)|(apply OKx_nilK)|(apply OK_block)|(apply blockQ_n)|(apply blockQ_s)|(apply thenQ_e)|(apply blockQ_e;exact rfl)|(apply thenQ_r)|(apply blockQ_r)|(apply OK_condT;exact rfl)|(apply OK_condF;exact rfl)|(apply OK_skip)|(apply OK_exit)|(apply OK_ret)|(apply OKx_move;(conv=>lhs;whnf)<;>exact rfl)|(apply OKx_assign;(conv=>lhs;whnf)<;>exact rfl)|(apply OKx_ldB;exact rfl;(first | exact at0|exact at1|exact at2|exact at3|exact at4|exact at5|exact at6|exact at7);exact rfl)|(apply OKx_ldR;(conv=>lhs;whnf)<;>exact rfl;(with_reducible assumption))|(apply OKx_len;exact rfl)|(apply OKx_lenR;(conv=>lhs;whnf)<;>exact rfl;(with_reducible assumption))|(apply OKx_lenR2;(conv=>lhs;whnf)<;>exact rfl;(with_reducible assumption))|(apply OKx_lenO;(conv=>lhs;whnf)<;>exact rfl;(first | exact at0|exact at1|exact at2|exact at3|exact at4|exact at5|exact at6|exact at7))|(apply OKx_lenS;exact rfl)|(apply OKx_lss;exact rfl;exact rfl;all_goals (intro _; try (exfalso;omega)))|(apply OKx_gtr;exact rfl;exact rfl;all_goals (intro _; try (exfalso;omega)))|(apply OKx_idxO;exact rfl;exact rfl;omega)|(apply OKx_idxR;(conv=>lhs;whnf)<;>exact rfl;(with_reducible assumption);exact rfl;omega;intro _ _)|(apply OKx_idxOz;exact rfl;exact rfl;omega;omega)|(apply OKx_idxRz;(conv=>lhs;whnf)<;>exact rfl;(with_reducible assumption);exact rfl;omega;omega;intro _ _)|(apply OKx_fldO;exact rfl;exact rfl)|(apply OKx_fldR;(conv=>lhs;whnf)<;>exact rfl;(with_reducible assumption); decide;intro _ _)|(apply OKx_inc;exact rfl;exact rfl;omega)|(apply OKx_addN;exact rfl;exact rfl;omega)|(apply OKx_add;exact rfl;exact rfl;omega;omega)|(apply OKx_pickT;exact rfl;(conv=>lhs;whnf)<;>exact rfl)|(apply OKx_pickF;exact rfl;(conv=>lhs;whnf)<;>exact rfl)|(apply OKx_guardT;exact rfl;exact rfl)|(apply OKx_guardF;exact rfl;exact rfl)|(apply OKx_guardU;exact rfl;exact rfl)|(apply OKx_boxA;exact rfl;intro _))
  · refine bodyQ_r1 (by ((conv=>lhs;whnf)<;>exact rfl)) ?_
    refine ⟨_, Ent.nil, bool_eq ?_, rfl⟩
    rw [greatB, any_getD s.par [] _ k (by omega) (decide_eq_true (by omega))]
    rfl
  · refine ⟨by (repeat' (first | refine agree_upd rfl ?_ | exact agree_over | exact agree_refl _ _ | refine agree_over2 rfl ?_)), m - 1, _, by omega, Ent.refl _ _, ?_⟩
    refine ⟨k + 1, by omega, rfl, fun j hj => ?_, rfl⟩
    by_cases h : j < k
    · exact H j h
    · obtain rfl : j = k := by omega
      omega
  have h1 : s.par.any (fun p => decide (4 < p.length)) = false := any_none s.par [] _ fun j hj => decide_eq_false (by have := H j (by omega);omega)
  refine OK_loop1 6 [4, 6, 21, 22, 23, 24, 25, 26, 27, 28, 29, 30, 31, 32, 33, 34] (fun m v L => ∃ k : Nat, k + m = s.names.length ∧ v = .int .i64 (k : Int) ∧ (∀ j, j < k → (s.names.getD j ByteArray.empty).size ≤ 20) ∧ L = [.box 26 g [nv, ev, pv]]) s.names.length _ (Ent.pick [0] rfl) ⟨0, by omega, rfl, fun j hj => absurd hj (by omega), rfl⟩ ?_
  clear H hk hm
  rintro m v L G2 ⟨k, hm, rfl, H, rfl⟩
  repeat' (first|(apply OK_seq)|(apply thenQ_n)|(apply OK_region)|(apply OKx_nilK)|(apply OK_block)|(apply blockQ_n)|(apply blockQ_s)|(apply thenQ_e)|(apply blockQ_e;exact rfl)|(apply thenQ_r)|(apply blockQ_r)|(apply OK_condT;exact rfl)|(apply OK_condF;exact rfl)|(apply OK_skip)|(apply OK_exit)|(apply OK_ret)|(apply OKx_move;(conv=>lhs;whnf)<;>exact rfl)|(apply OKx_assign;(conv=>lhs;whnf)<;>exact rfl)|(apply OKx_ldB;exact rfl;(first | exact at0|exact at1|exact at2|exact at3|exact at4|exact at5|exact at6|exact at7);exact rfl)|(apply OKx_ldR;(conv=>lhs;whnf)<;>exact rfl;(with_reducible assumption))|(apply OKx_len;exact rfl)|(apply OKx_lenR;(conv=>lhs;whnf)<;>exact rfl;(with_reducible assumption))|(apply OKx_lenR2;(conv=>lhs;whnf)<;>exact rfl;(with_reducible assumption))|(apply OKx_lenO;(conv=>lhs;whnf)<;>exact rfl;(first | exact at0|exact at1|exact at2|exact at3|exact at4|exact at5|exact at6|exact at7))|(apply OKx_lenS;exact rfl)|(apply OKx_lss;exact rfl;exact rfl;all_goals (intro _; try (exfalso;omega)))|(apply OKx_gtr;exact rfl;exact rfl;all_goals (intro _; try (exfalso;omega)))|(apply OKx_idxO;exact rfl;exact rfl;omega)|(apply OKx_idxR;(conv=>lhs;whnf)<;>exact rfl;(with_reducible assumption);exact rfl;omega;intro _ _)|(apply OKx_idxOz;exact rfl;exact rfl;omega;omega)|(apply OKx_idxRz;(conv=>lhs;whnf)<;>exact rfl;(with_reducible assumption);exact rfl;omega;omega;intro _ _)|(apply OKx_fldO;exact rfl;exact rfl)|(apply OKx_fldR;(conv=>lhs;whnf)<;>exact rfl;(with_reducible assumption); decide;intro _ _)|(apply OKx_inc;exact rfl;exact rfl;omega)|(apply OKx_addN;exact rfl;exact rfl;omega)|(apply OKx_add;exact rfl;exact rfl;omega;omega)|(apply OKx_pickT;exact rfl;(conv=>lhs;whnf)<;>exact rfl)|(apply OKx_pickF;exact rfl;(conv=>lhs;whnf)<;>exact rfl)|(apply OKx_guardT;exact rfl;exact rfl)|(apply OKx_guardF;exact rfl;exact rfl)|(apply OKx_guardU;exact rfl;exact rfl)|(apply OKx_boxA;exact rfl;intro _))
  · refine bodyQ_r1 (by ((conv=>lhs;whnf)<;>exact rfl)) ?_
    refine ⟨_, Ent.nil, bool_eq ?_, rfl⟩
    rw [greatB, h1, any_getD s.names ByteArray.empty _ k (by omega) (decide_eq_true (by omega))]
    rfl
  · refine ⟨by (repeat' (first | refine agree_upd rfl ?_ | exact agree_over | exact agree_refl _ _ | refine agree_over2 rfl ?_)), m - 1, _, by omega, Ent.refl _ _, ?_⟩
    refine ⟨k + 1, by omega, rfl, fun j hj => ?_, rfl⟩
    by_cases h : j < k
    · exact H j h
    · obtain rfl : j = k := by omega
      omega
  all_goals
    have h2 : s.names.any (fun x => decide (20 < x.size)) = false := any_none s.names ByteArray.empty _ fun j hj => decide_eq_false (by have := H j (by omega);omega)
    refine bodyQ_r1 (by ((conv=>lhs;whnf)<;>exact rfl)) ?_
    refine ⟨_, Ent.nil, bool_eq ?_, rfl⟩
    rw [greatB, h1, h2]
    simp
    try omega
end Go.Proofs.YtpfemholpigdeaaDoor
namespace Go.Proofs.YtpfemholpigdeaaDoor
open Go.RowKit
def BdR (n : Nat) (ds : List Dt) (u : Value) (L : List Res) : Prop := ∃ g1 c1 g2 c2, u = .tuple #[.slice (some ⟨g1, 0, none⟩) n c1, .slice (some ⟨g2, 0, none⟩) n c2] ∧
  L = [.row 3 1 (.slice (some ⟨g1, 0, none⟩) n c1) n (ints (loOf n ds)), .row 3 1 (.slice (some ⟨g2, 0, none⟩) n c2) n (ints (hiOf n ds))]
set_option maxRecDepth 100000 in
set_option maxHeartbeats 4000000 in
theorem bounds_sat (nv ev pv dv : Value) (names : List ByteArray) (ds : List Dt) (w : World) (hS : Strs w nv names) (hd : Dats w dv ds) (hn : names.length ≤ 64) (hok : ∀ d ∈ ds, 0 ≤ d.node ∧ d.node < names.length) :
    Sat Tryd.prog 64 [.agg #[nv, ev, pv], dv] w (BdR names.length ds) := by
  obtain ⟨na, ncap, rfl, _, _⟩ := hS.at
  exact Sat.lib ⟨_, _, Tryd.func64, by kernel_rfl, rfl⟩ fun w1 hb => (bounds_any ev pv dv na names.length ncap ds w1 (hd.below hb) hn hok).mono fun e w' ⟨g1, c1, g2, c2, h1, h2⟩ => ⟨_, _, h1, h2, g1, c1, g2, c2, rfl, rfl⟩
end Go.Proofs.YtpfemholpigdeaaDoor
namespace Go.Proofs.YtpfemholpigdeaaDoor
open Go.RowKit Go.Maps
def CP (par : List (List Int)) (p k j : Nat) : List Int :=
  ((List.range k).filter (fun i => (par.getD i []).contains (p : Int))).map (fun i : Nat => (i : Int)) ++ if ((par.getD k []).take j).contains (p : Int) then [(k : Int)] else []
theorem CP_zero (par : List (List Int)) (p : Nat) : CP par p 0 0 = [] := by simp [CP]
theorem CP_next (par : List (List Int)) (p k j : Nat) (h : (par.getD k []).length ≤ j) : CP par p (k + 1) 0 = CP par p k j := by
  unfold CP
  rw [List.take_of_length_le h, List.range_succ, List.filter_append, List.map_append, List.take_zero]
  generalize List.filter (fun i => (par.getD i []).contains (p : Int)) (List.range k) = A
  cases hp : (par.getD k []).contains (p : Int) with
  | true => simp only [List.filter_cons, hp, if_true, List.filter_nil]; simp
  | false => simp only [List.filter_cons, hp, List.filter_nil]; simp
theorem CP_len (par : List (List Int)) (p k j : Nat) : (CP par p k j).length ≤ k + 1 := by
  unfold CP
  rw [List.length_append, List.length_map]
  have := List.length_filter_le (fun i => (par.getD i []).contains (p : Int)) (List.range k)
  rw [List.length_range] at this
  split
  · rw [List.length_singleton];omega
  · rw [List.length_nil];omega
theorem CP_step (par : List (List Int)) (k j : Nat) (hj : j < (par.getD k []).length) (hn : 0 ≤ (par.getD k []).getD j 0) (hi0 : (par.getD k []).Pairwise (· < ·)) :
    setF (fun p => CP par p k j) ((par.getD k []).getD j 0).toNat (CP par ((par.getD k []).getD j 0).toNat k j ++ [(k : Int)]) = fun p => CP par p k (j + 1) := by
  funext q
  have hz : (((par.getD k []).getD j 0).toNat : Int) = (par.getD k []).getD j 0 := Int.toNat_of_nonneg hn
  have hmem : ∀ q : Int, ((par.getD k []).take (j + 1)).contains q = (((par.getD k []).take j).contains q || decide (q = (par.getD k []).getD j 0)) := fun q => by
    rw [List.take_succ_eq_append_getElem hj, Bool.eq_iff_iff, Bool.or_eq_true, decide_eq_true_eq, List.contains_iff_mem, List.contains_iff_mem, List.mem_append, List.mem_singleton, getD_lt _ _ _ hj]
  have hnot : ((par.getD k []).take j).contains ((par.getD k []).getD j 0) = false := by
    rw [Bool.eq_false_iff]
    intro h
    rw [List.contains_iff_mem] at h
    obtain ⟨i, hi, e⟩ := List.mem_take_iff_getElem.1 h
    have := List.pairwise_iff_getElem.1 hi0 i j (by omega) hj (by omega)
    rw [getD_lt _ _ _ hj] at e
    omega
  by_cases hq : q = ((par.getD k []).getD j 0).toNat
  · subst hq
    rw [setF_same]
    unfold CP
    rw [hmem, hz, hnot]
    simp
  · rw [setF_other _ _ _ _ hq]
    unfold CP
    rw [hmem, decide_eq_false (by omega : ¬ (q : Int) = (par.getD k []).getD j 0), Bool.or_false]
def CopR (par : List (List Int)) (n : Nat) (u : Value) (L : List Res) : Prop :=
  ∃ g c Fk V, u = .map (some g) ∧ L = fam n V (fun p => CP par p n 0) ++ [.obj g (MapIs Tryd.prog 3 c Fk)] ∧ ∀ p : Nat, p < n → (Fk (.int .i64 (p : Int))).getD (.slice none 0 0) = V p
theorem zeroInts (w : World) : (zeroValue 38).run Tryd.prog w = .ok (.slice none 0 0) w := by kernel_rfl
set_option maxRecDepth 100000 in
set_option maxHeartbeats 4000000 in
theorem copies_sat (nv ev pv : Value) (par : List (List Int)) (w : World) (hP : Tabs w pv par) (hn : par.length ≤ 64) (hok : okPar par) (hinc : ∀ i, i < par.length → (par.getD i []).Pairwise (· < ·)) :
    Sat Tryd.prog 90 [.agg #[nv, ev, pv]] w (CopR par par.length) := by
  obtain ⟨fv, hpv, hrow⟩ := hP.rows
  have hpb := hpv.bound
  generalize hN : par.length = N at *
  refine SatL.of 34 [2] Tryd.func90 (by kernel_rfl) (by kernel_rfl) rfl rfl rfl rfl ?_
  repeat' (first|(apply OK_seq)|(apply thenQ_n)|(apply OK_region)|(refine OKx_mkMap 3 ?_; intro gm)|(apply OKx_nilK)|(apply OK_block)|(apply blockQ_n)|(apply blockQ_s)|(apply thenQ_e)|(apply blockQ_e;exact rfl)|(apply thenQ_r)|(apply blockQ_r)|(apply OK_condT;exact rfl)|(apply OK_condF;exact rfl)|(apply OK_skip)|(apply OK_exit)|(apply OK_ret)|(apply OKx_move;(conv=>lhs;whnf)<;>exact rfl)|(apply OKx_assign;(conv=>lhs;whnf)<;>exact rfl)|(apply OKx_ldB;exact rfl;(first | exact at0|exact at1|exact at2|exact at3|exact at4|exact at5|exact at6|exact at7);exact rfl)|(apply OKx_ldR;(conv=>lhs;whnf)<;>exact rfl;(with_reducible assumption))|(apply OKx_ldI;exact rfl;(first | exact at0|exact at1|exact at2|exact at3|exact at4|exact at5|exact at6|exact at7);omega)|(apply OKx_len;exact rfl)|(apply OKx_lenR;(conv=>lhs;whnf)<;>exact rfl;(with_reducible assumption))|(apply OKx_lenR2;(conv=>lhs;whnf)<;>exact rfl;(with_reducible assumption))|(apply OKx_lenO;(conv=>lhs;whnf)<;>exact rfl;(first | exact at0|exact at1|exact at2|exact at3|exact at4|exact at5|exact at6|exact at7))|(apply OKx_lss;exact rfl;exact rfl;all_goals (intro _; try (exfalso;omega)))|(apply OKx_idxO;exact rfl;exact rfl;omega)|(apply OKx_idxR;(conv=>lhs;whnf)<;>exact rfl;(with_reducible assumption);exact rfl;omega;intro _ _)|(apply OKx_idxOz;exact rfl;exact rfl;omega;omega)|(apply OKx_idxRz;(conv=>lhs;whnf)<;>exact rfl;(with_reducible assumption);exact rfl;omega;omega;intro _ _)|(apply OKx_fldO;exact rfl;exact rfl)|(apply OKx_fldR;(conv=>lhs;whnf)<;>exact rfl;(with_reducible assumption); decide;intro _ _)|(apply OKx_inc;exact rfl;exact rfl;omega)|(apply OKx_addN;exact rfl;exact rfl;omega)|(apply OKx_add;exact rfl;exact rfl;omega;omega)|(apply OKx_boxA;exact rfl;intro _)|(apply OKx_slit1;(conv=>lhs;whnf)<;>exact rfl;exact rfl;intro _))
  refine OK_loop1 12 [4, 5, 7, 12, 13, 14, 15, 16, 17, 18, 19, 20, 21, 22, 23, 24, 25, 26, 27, 28, 29, 30, 31, 32] (fun m v L => ∃ k : Nat, k + m = N ∧ v = .int .i64 (k : Int) ∧ ∃ c Fk V, L = fam N V (fun p => CP par p k 0) ++ [.obj gm (MapIs Tryd.prog 3 c Fk)] ∧ c ≤ k * 64 ∧ ∀ p : Nat, p < N → (Fk (.int .i64 (p : Int))).getD (.slice none 0 0) = V p) N _
    (Ent.trans (Ent.pick [0] rfl) (Ent.fam N)) ⟨0, by omega, rfl, 0, fun _ => none, fun _ => .slice none 0 0, by simp only [CP_zero]; rfl, by omega, fun p hp => rfl⟩ ?_
  rintro m v L G ⟨k, hm, rfl, c, Fk, V, rfl, hc, hF⟩
  have hk := (hrow k).sl
  have hkb := hk.bound
  have hel : k < N → ∀ x ∈ par.getD k [], 0 ≤ x ∧ x < k := fun h x hx => hok k (by omega) x (by simpa [show k < par.length by omega] using hx)
  have hlen : k < N → (par.getD k []).length ≤ 64 := fun h => Nat.le_trans (asc_len _ (hinc k h) k (hel h)) (by omega)
  repeat' (first|(apply OK_seq)|(apply thenQ_n)|(apply OK_region)|(apply OKx_nilK)|(apply OK_block)|(apply blockQ_n)|(apply blockQ_s)|(apply thenQ_e)|(apply blockQ_e;exact rfl)|(apply thenQ_r)|(apply blockQ_r)|(apply OK_condT;exact rfl)|(apply OK_condF;exact rfl)|(apply OK_skip)|(apply OK_exit)|(apply OK_ret)|(apply OKx_move;(conv=>lhs;whnf)<;>exact rfl)|(apply OKx_assign;(conv=>lhs;whnf)<;>exact rfl)|(apply OKx_ldB;exact rfl;(first | exact at0|exact at1|exact at2|exact at3|exact at4|exact at5|exact at6|exact at7);exact rfl)|(apply OKx_ldR;(conv=>lhs;whnf)<;>exact rfl;(with_reducible assumption))|(apply OKx_ldI;exact rfl;(first | exact at0|exact at1|exact at2|exact at3|exact at4|exact at5|exact at6|exact at7);omega)|(apply OKx_len;exact rfl)|(apply OKx_lenR;(conv=>lhs;whnf)<;>exact rfl;(with_reducible assumption))|(apply OKx_lenR2;(conv=>lhs;whnf)<;>exact rfl;(with_reducible assumption))|(apply OKx_lenO;(conv=>lhs;whnf)<;>exact rfl;(first | exact at0|exact at1|exact at2|exact at3|exact at4|exact at5|exact at6|exact at7))|(apply OKx_lss;exact rfl;exact rfl;all_goals (intro _; try (exfalso;omega)))|(apply OKx_idxO;exact rfl;exact rfl;omega)|(apply OKx_idxR;(conv=>lhs;whnf)<;>exact rfl;(with_reducible assumption);exact rfl;omega;intro _ _)|(apply OKx_idxOz;exact rfl;exact rfl;omega;omega)|(apply OKx_idxRz;(conv=>lhs;whnf)<;>exact rfl;(with_reducible assumption);exact rfl;omega;omega;intro _ _)|(apply OKx_fldO;exact rfl;exact rfl)|(apply OKx_fldR;(conv=>lhs;whnf)<;>exact rfl;(with_reducible assumption); decide;intro _ _)|(apply OKx_inc;exact rfl;exact rfl;omega)|(apply OKx_addN;exact rfl;exact rfl;omega)|(apply OKx_add;exact rfl;exact rfl;omega;omega)|(apply OKx_boxA;exact rfl;intro _)|(apply OKx_slit1;(conv=>lhs;whnf)<;>exact rfl;exact rfl;intro _))
  · refine OK_loop1 19 [7, 19, 20, 21, 22, 23, 24, 25, 26, 27, 28, 29, 30, 31] (fun m v L => ∃ j : Nat, j + m = (par.getD k []).length ∧ v = .int .i64 (j : Int) ∧ ∃ c Fk V, L = fam N V (fun p => CP par p k j) ++ [.obj gm (MapIs Tryd.prog 3 c Fk)] ∧ c ≤ k * 64 + j ∧ ∀ p : Nat, p < N → (Fk (.int .i64 (p : Int))).getD (.slice none 0 0) = V p) (par.getD k []).length _ (Ent.refl _ _) ⟨0, by omega, rfl, c, Fk, V, rfl, by omega, hF⟩ ?_
    clear hF hc
    rintro m2 v L G2 ⟨j, hm2, rfl, c, Fk, V, rfl, hc, hF⟩
    have hx : j < (par.getD k []).length → 0 ≤ (par.getD k []).getD j 0 ∧ (par.getD k []).getD j 0 < k := fun h => hel (by omega) _ (by rw [getD_lt _ _ _ h]; exact List.getElem_mem h)
    have hFz : 0 ≤ (par.getD k []).getD j 0 → (par.getD k []).getD j 0 < N → (Fk (.int .i64 ((par.getD k []).getD j 0))).getD (.slice none 0 0) = V ((par.getD k []).getD j 0).toNat := fun h1 h2 => by
      have := hF ((par.getD k []).getD j 0).toNat (by omega)
      rwa [Int.toNat_of_nonneg h1] at this
    repeat' (first|(apply OK_seq)|(apply thenQ_n)|(apply OK_region) | refine OKx_look N rfl rfl (fam_then N V _ _ _) TKeyI Tryd.underlying127 zeroInts (keyI _ (by omega) (by omega)) (litI _) (hFz (by omega) (by omega)) ?_|(refine OKx_famApp (C := fun p => CP par p k j) ((par.getD k []).getD j 0).toNat (by omega) rfl rfl (by have := CP_len par ((par.getD k []).getD j 0).toNat k j;omega) ?_; intro g' cap') | refine OKx_mapSet (N + 1) rfl rfl rfl (fam_then N _ _ _ _) TKeyI Tryd.underlying127 (by omega) (keyI _ (by omega) (by omega)) (litI _) ?_|(apply OKx_nilK)|(apply OK_block)|(apply blockQ_n)|(apply blockQ_s)|(apply thenQ_e)|(apply blockQ_e;exact rfl)|(apply thenQ_r)|(apply blockQ_r)|(apply OK_condT;exact rfl)|(apply OK_condF;exact rfl)|(apply OK_skip)|(apply OK_exit)|(apply OK_ret)|(apply OKx_move;(conv=>lhs;whnf)<;>exact rfl)|(apply OKx_assign;(conv=>lhs;whnf)<;>exact rfl)|(apply OKx_ldB;exact rfl;(first | exact at0|exact at1|exact at2|exact at3|exact at4|exact at5|exact at6|exact at7);exact rfl)|(apply OKx_ldR;(conv=>lhs;whnf)<;>exact rfl;(with_reducible assumption))|(apply OKx_ldI;exact rfl;(first | exact at0|exact at1|exact at2|exact at3|exact at4|exact at5|exact at6|exact at7);omega)|(apply OKx_len;exact rfl)|(apply OKx_lenR;(conv=>lhs;whnf)<;>exact rfl;(with_reducible assumption))|(apply OKx_lenR2;(conv=>lhs;whnf)<;>exact rfl;(with_reducible assumption))|(apply OKx_lenO;(conv=>lhs;whnf)<;>exact rfl;(first | exact at0|exact at1|exact at2|exact at3|exact at4|exact at5|exact at6|exact at7))|(apply OKx_lss;exact rfl;exact rfl;all_goals (intro _; try (exfalso;omega)))|(apply OKx_idxO;exact rfl;exact rfl;omega)|(apply OKx_idxR;(conv=>lhs;whnf)<;>exact rfl;(with_reducible assumption);exact rfl;omega;intro _ _)|(apply OKx_idxOz;exact rfl;exact rfl;omega;omega)|(apply OKx_idxRz;(conv=>lhs;whnf)<;>exact rfl;(with_reducible assumption);exact rfl;omega;omega;intro _ _)|(apply OKx_fldO;exact rfl;exact rfl)|(apply OKx_fldR;(conv=>lhs;whnf)<;>exact rfl;(with_reducible assumption); decide;intro _ _)|(apply OKx_inc;exact rfl;exact rfl;omega)|(apply OKx_addN;exact rfl;exact rfl;omega)|(apply OKx_add;exact rfl;exact rfl;omega;omega)|(apply OKx_boxA;exact rfl;intro _)|(apply OKx_slit1;(conv=>lhs;whnf)<;>exact rfl;exact rfl;intro _))
    · refine ⟨by (repeat' (first | refine agree_upd rfl ?_ | exact agree_over | exact agree_refl _ _ | refine agree_over2 rfl ?_)), m2 - 1, _, by omega, Ent.famSet, ?_⟩
      have hx0 := (hx (by omega)).1
      refine ⟨j + 1, by omega, rfl, _, _, _, by rw [CP_step par k j (by omega) hx0 (hinc k (by omega))], by omega, fun p hp => ?_⟩
      rw [putF_int]
      by_cases hq : p = ((par.getD k []).getD j 0).toNat
      · rw [if_pos (by omega), hq, setF_same]; rfl
      · rw [if_neg (by omega), setF_other _ _ _ _ hq]; exact hF p hp
    · refine ⟨by (repeat' (first | refine agree_upd rfl ?_ | exact agree_over | exact agree_refl _ _ | refine agree_over2 rfl ?_)), m - 1, _, by omega, Ent.refl _ _, ?_⟩
      refine ⟨k + 1, by omega, rfl, c, Fk, V, ?_, by have := hlen (by omega);omega, hF⟩
      rw [show (fun p => CP par p k j) = fun p => CP par p (k + 1) 0 from funext fun p => (CP_next par p k j (by omega)).symm]
  · refine bodyQ_r1 (by ((conv=>lhs;whnf)<;>exact rfl)) ?_
    obtain rfl : k = N := by omega
    exact ⟨_, Ent.refl _ _, gm, c, Fk, V, rfl, rfl, hF⟩
end Go.Proofs.YtpfemholpigdeaaDoor
