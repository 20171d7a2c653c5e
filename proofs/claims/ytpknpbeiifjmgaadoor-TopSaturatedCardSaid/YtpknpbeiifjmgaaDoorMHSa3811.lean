/-
  Part 11 of the proof: Idx, C38. No statement of the seat is proved here.
-/
import Derived.Test.YtpknpbeiifjmgaaDoorMHSa3810
namespace Go.Proofs.YtpknpbeiifjmgaaDoor
open Go.RowKit
def IdxW (p : Nat → Bool) (N : Nat) (u : Value) (L : List Res) : Prop := L = [] ∧ ((∃ k : Nat, k < N ∧ u = .int .i64 (k : Int) ∧ p k = true ∧ ∀ j, j < k → p j = false) ∨ (u = .int .i64 (-1) ∧ ∀ j, j < N → p j = false))
set_option maxRecDepth 100000 in
set_option maxHeartbeats 4000000 in
theorem indexW_int_sat (v : Value) (N : Nat) (e : Nat → Value) (p : Nat → Bool) (g : FuncId) (cs : Array Value) (w : World) (h : Sl w v 1 N e) (hf : ∀ k, k < N → ∀ w1, Below w.heap.size w w1 → SatV Tryd.prog g (e k :: cs.toList) w1 (.bool (p k))) :
    Sat Tryd.prog 74 [v, .func (.func g) #[] cs] w (IdxW p N) := by
  have hN := h.bound
  refine SatL.of 19 [4] Tryd.func74 (by kernel_rfl) (by kernel_rfl) rfl rfl rfl rfl ?_
  repeat' (first|(apply OK_seq)|(apply thenQ_n)|(apply OK_region)|(apply OKx_nilK)|(apply OK_block)|(apply blockQ_n)|(apply blockQ_s)|(apply thenQ_e)|(apply blockQ_e;exact rfl)|(apply thenQ_r)|(apply blockQ_r)|(apply OK_condT;exact rfl)|(apply OK_condF;exact rfl)|(apply OK_skip)|(apply OK_exit)|(apply OK_ret)|(apply OKx_move;(conv=>lhs;whnf)<;>exact rfl)|(apply OKx_assign;(conv=>lhs;whnf)<;>exact rfl)|(apply OKx_ldB;exact rfl;(first | exact at0|exact at1|exact at2|exact at3|exact at4|exact at5|exact at6|exact at7);exact rfl)|(apply OKx_ldR;(conv=>lhs;whnf)<;>exact rfl;(with_reducible assumption))|(apply OKx_ldI;exact rfl;(first | exact at0|exact at1|exact at2|exact at3|exact at4|exact at5|exact at6|exact at7);omega)|(apply OKx_len;exact rfl)|(apply OKx_lenR;(conv=>lhs;whnf)<;>exact rfl;(with_reducible assumption))|(apply OKx_lenR2;(conv=>lhs;whnf)<;>exact rfl;(with_reducible assumption))|(apply OKx_lenO;(conv=>lhs;whnf)<;>exact rfl;(first | exact at0|exact at1|exact at2|exact at3|exact at4|exact at5|exact at6|exact at7))|(apply OKx_lss;exact rfl;exact rfl;all_goals (intro _; try (exfalso;omega)))|(apply OKx_idxO;exact rfl;exact rfl;omega)|(apply OKx_idxR;(conv=>lhs;whnf)<;>exact rfl;(with_reducible assumption);exact rfl;omega;intro _ _)|(apply OKx_idxOz;exact rfl;exact rfl;omega;omega)|(apply OKx_idxRz;(conv=>lhs;whnf)<;>exact rfl;(with_reducible assumption);exact rfl;omega;omega;intro _ _)|(apply OKx_inc;exact rfl;exact rfl;omega)|(apply OKx_addN;exact rfl;exact rfl;omega)|(apply OKx_add;exact rfl;exact rfl;omega;omega))
  refine OK_loop1 8 [4, 5, 8, 9, 10, 11, 12, 13, 14, 15, 16, 17, 18] (fun m v L => ∃ k : Nat, k + m = N ∧ v = .int .i64 (k : Int) ∧ (∀ j, j < k → p j = false) ∧ L = []) N [] (Ent.refl _ _) ⟨0, by omega, rfl, fun j hj => absurd hj (by omega), rfl⟩ ?_
  rintro m v' L G ⟨k, hm, rfl, H, rfl⟩
  repeat' (first|(apply OK_seq)|(apply thenQ_n)|(apply OK_region)|(refine OKx_callB (f := g) rfl rfl rfl (fun w hp => hf k (by omega) w hp.below) ?_ ?_ <;> intro hq)|(apply OKx_nilK)|(apply OK_block)|(apply blockQ_n)|(apply blockQ_s)|(apply thenQ_e)|(apply blockQ_e;exact rfl)|(apply thenQ_r)|(apply blockQ_r)|(apply OK_condT;exact rfl)|(apply OK_condF;exact rfl)|(apply OK_skip)|(apply OK_exit)|(apply OK_ret)|(apply OKx_move;(conv=>lhs;whnf)<;>exact rfl)|(apply OKx_assign;(conv=>lhs;whnf)<;>exact rfl)|(apply OKx_ldB;exact rfl;(first | exact at0|exact at1|exact at2|exact at3|exact at4|exact at5|exact at6|exact at7);exact rfl)|(apply OKx_ldR;(conv=>lhs;whnf)<;>exact rfl;(with_reducible assumption))|(apply OKx_ldI;exact rfl;(first | exact at0|exact at1|exact at2|exact at3|exact at4|exact at5|exact at6|exact at7);omega)|(apply OKx_len;exact rfl)|(apply OKx_lenR;(conv=>lhs;whnf)<;>exact rfl;(with_reducible assumption))|(apply OKx_lenR2;(conv=>lhs;whnf)<;>exact rfl;(with_reducible assumption))|(apply OKx_lenO;(conv=>lhs;whnf)<;>exact rfl;(first | exact at0|exact at1|exact at2|exact at3|exact at4|exact at5|exact at6|exact at7))|(apply OKx_lss;exact rfl;exact rfl;all_goals (intro _; try (exfalso;omega)))|(apply OKx_idxO;exact rfl;exact rfl;omega)|(apply OKx_idxR;(conv=>lhs;whnf)<;>exact rfl;(with_reducible assumption);exact rfl;omega;intro _ _)|(apply OKx_idxOz;exact rfl;exact rfl;omega;omega)|(apply OKx_idxRz;(conv=>lhs;whnf)<;>exact rfl;(with_reducible assumption);exact rfl;omega;omega;intro _ _)|(apply OKx_inc;exact rfl;exact rfl;omega)|(apply OKx_addN;exact rfl;exact rfl;omega)|(apply OKx_add;exact rfl;exact rfl;omega;omega))
  · refine bodyQ_r1 (by ((conv=>lhs;whnf)<;>exact rfl)) ?_
    exact ⟨_, Ent.refl _ _, rfl, .inl ⟨k, by omega, rfl, hq, H⟩⟩
  · refine ⟨by (repeat' (first | refine agree_upd rfl ?_ | exact agree_over | exact agree_refl _ _ | refine agree_over2 rfl ?_)), m - 1, _, by omega, Ent.refl _ _, ?_⟩
    refine ⟨k + 1, by omega, rfl, fun j hj => ?_, rfl⟩
    by_cases hjk : j < k
    · exact H j hjk
    · obtain rfl : j = k := by omega
      exact hq
  · refine bodyQ_r1 (by ((conv=>lhs;whnf)<;>exact rfl)) ?_
    exact ⟨_, Ent.refl _ _, rfl, .inr ⟨rfl, fun j hj => H j (by omega)⟩⟩
theorem find_first (P : Int → Bool) : ∀ (xs : List Int) (i : Nat), i < xs.length → P (xs.getD i 0) = true → (∀ j, j < i → P (xs.getD j 0) = false) → xs.find? P = some (xs.getD i 0) := by
  intro xs
  induction xs with
  | nil => intro i h; simp at h
  | cons x xs ih =>
    intro i hi h1 h2
    cases i with
    | zero =>
      have e : P x = true := h1
      rw [List.find?_cons_of_pos e]; rfl
    | succ i =>
      have e : ¬ P x = true := by have := h2 0 (by omega); simpa using this
      rw [List.find?_cons_of_neg e]
      exact ih i (by simpa using hi) h1 (fun j hj => h2 (j + 1) (by omega))
end Go.Proofs.YtpknpbeiifjmgaaDoor
namespace Go.Proofs.YtpknpbeiifjmgaaDoor
open Go.RowKit
def badS (x : Int) : Bool := decide (x < -1) || decide (16 ≤ x)
def chkC (s : Stem) (st : List Int) : Int := if stCheck s ≠ 0 then 1 else if st.length ≠ s.par.length then 9 else if st.any badS = true then 2 else 0
theorem chkC_zero {s : Stem} {st : List Int} (h : chkC s st = 0) : stCheck s = 0 ∧ st.length = s.par.length ∧ ∀ x ∈ st, -1 ≤ x ∧ x < 16 := by
  unfold chkC at h
  split at h
  · omega
  split at h
  · omega
  split at h
  · omega
  · rename_i h1 h2 h3
    refine ⟨by simpa using h1, by simpa using h2, fun x hx => ?_⟩
    rw [Bool.not_eq_true, List.any_eq_false] at h3
    have := h3 x hx
    unfold badS at this
    simp at this
    omega
theorem anyN_any (xs : List Int) (P : Int → Bool) : anyN (fun j => P (xs.getD j 0)) xs.length = xs.any P := by
  cases h : xs.any P with
  | true =>
    obtain ⟨x, hx, hp⟩ := List.any_eq_true.1 h
    obtain ⟨j, hj, rfl⟩ := List.getElem_of_mem hx
    exact anyN_hit hj (by rw [getD_lt _ _ _ hj]; exact hp)
  | false =>
    rw [List.any_eq_false] at h
    exact anyN_none fun j hj => by
      have := h _ (List.getElem_mem hj)
      rw [getD_lt _ _ _ hj]
      simpa using this
set_option maxRecDepth 100000 in
set_option maxHeartbeats 4000000 in
theorem ck1_sat (x : Int) (w : World) : SatV Tryd.prog 59 [.int .i64 x] w (.bool (badS x)) := by
  refine SatL.of 9 [2] Tryd.func59 (by kernel_rfl) (by kernel_rfl) rfl rfl rfl rfl ?_
  repeat' (first|(apply OK_seq)|(apply thenQ_n)|(apply OK_region)|(apply OKx_nilK)|(apply OK_block)|(apply blockQ_n)|(apply blockQ_s)|(apply thenQ_e)|(apply blockQ_e;exact rfl)|(apply thenQ_r)|(apply blockQ_r)|(apply OK_condT;exact rfl)|(apply OK_condF;exact rfl)|(apply OK_skip)|(apply OK_exit)|(apply OK_ret)|(apply OKx_move;(conv=>lhs;whnf)<;>exact rfl)|(apply OKx_assign;(conv=>lhs;whnf)<;>exact rfl)|(apply OKx_lss;exact rfl;exact rfl;all_goals (intro _; try (exfalso;omega)))|(apply OKx_geq;exact rfl;exact rfl;all_goals (intro _; try (exfalso;omega)))|(apply OKx_pickT;exact rfl;(conv=>lhs;whnf)<;>exact rfl)|(apply OKx_pickF;exact rfl;(conv=>lhs;whnf)<;>exact rfl)|(apply OKx_guardT;exact rfl;exact rfl)|(apply OKx_guardF;exact rfl;exact rfl)|(apply OKx_guardU;exact rfl;exact rfl))
  all_goals
    refine bodyQ_r1 (by ((conv=>lhs;whnf)<;>exact rfl)) ?_
    refine ⟨_, Ent.nil, bool_eq ?_, rfl⟩
    unfold badS
    first
      | (rw [decide_eq_true (p := x < -1) (by omega)]; rfl)
      | (rw [decide_eq_false (p := x < -1) (by omega), decide_eq_true (p := 16 ≤ x) (by omega)]; rfl)
      | (rw [decide_eq_false (p := x < -1) (by omega), decide_eq_false (p := 16 ≤ x) (by omega)]; rfl)
set_option maxRecDepth 100000 in
set_option maxHeartbeats 4000000 in
theorem Chk_sat (v sv : Value) (s : Stem) (st : List Int) (w : World) (h : Stm w v s) (hs : Ints w sv st) : SatV Tryd.prog 31 [v, sv] w (.int .i64 (chkC s st)) := by
  have hst := h
  obtain ⟨nv, ev, pv, rfl, hS, _, hP⟩ := h
  obtain ⟨fv, hpv, hrow⟩ := hP.rows
  have hsv := hs.sl
  have hpb := hpv.bound
  have hsb := hsv.bound
  refine SatL.of 19 [4] Tryd.func31 (by kernel_rfl) (by kernel_rfl) rfl rfl rfl rfl ?_
  repeat' (first|(apply OK_seq)|(apply thenQ_n)|(apply OK_region)|(apply OKx_gc 27;exact rfl; refine OKx_callV (f := 27) rfl rfl rfl (fun w1 hp => stCheck_sat _ s w1 (hst.below hp.below)) ?_)|(apply OKx_gc 44;exact rfl; refine OKx_callB (f := 44) (b := st.any badS) rfl rfl rfl (fun w1 hp => by rw [← anyN_any]; exact containsF_int_sat _ _ _ _ _ _ w1 (hsv.below hp.below) (fun j hj w2 hb2 => ck1_sat _ w2)) ?_ ?_ <;> intro hq)|(apply OKx_nilK)|(apply OK_block)|(apply blockQ_n)|(apply blockQ_s)|(apply thenQ_e)|(apply blockQ_e;exact rfl)|(apply thenQ_r)|(apply blockQ_r)|(apply OK_condT;exact rfl)|(apply OK_condF;exact rfl)|(apply OK_skip)|(apply OK_exit)|(apply OK_ret)|(apply OKx_move;(conv=>lhs;whnf)<;>exact rfl)|(apply OKx_assign;(conv=>lhs;whnf)<;>exact rfl)|(apply OKx_ldB;exact rfl;(first | exact at0|exact at1|exact at2|exact at3|exact at4|exact at5|exact at6|exact at7);exact rfl)|(apply OKx_ldR;(conv=>lhs;whnf)<;>exact rfl;(with_reducible assumption))|(apply OKx_len;exact rfl)|(apply OKx_lenR;(conv=>lhs;whnf)<;>exact rfl;(with_reducible assumption))|(apply OKx_lenR2;(conv=>lhs;whnf)<;>exact rfl;(with_reducible assumption))|(apply OKx_lenO;(conv=>lhs;whnf)<;>exact rfl;(first | exact at0|exact at1|exact at2|exact at3|exact at4|exact at5|exact at6|exact at7))|(apply OKx_neq;exact rfl;exact rfl;all_goals (intro _; try (exfalso;omega)))|(apply OKx_fldO;exact rfl;exact rfl)|(apply OKx_fldR;(conv=>lhs;whnf)<;>exact rfl;(with_reducible assumption); decide;intro _ _)|(apply OKx_boxA;exact rfl;intro _)|(apply OKx_ldBA;exact rfl;(first | exact at0|exact at1|exact at2|exact at3|exact at4|exact at5|exact at6|exact at7);exact rfl)|(apply OKx_ldRA;(conv=>lhs;whnf)<;>exact rfl;(with_reducible assumption)))
  all_goals
    refine bodyQ_r1 (by ((conv=>lhs;whnf)<;>exact rfl)) ?_
    refine ⟨_, Ent.nil, int_eq ?_, rfl⟩
    unfold chkC
    first
      | rw [if_pos (by omega)]
      | rw [if_neg (by omega), if_pos (by omega)]
      | rw [if_neg (by omega), if_neg (by omega), if_pos hq]
      | rw [if_neg (by omega), if_neg (by omega), if_neg (by rw [hq]; simp)]
def pos0 (st : List Int) (k : Nat) : List Int := (st.take k).filter (fun x => decide (0 ≤ x))
theorem pos0_step (st : List Int) (k : Nat) (h : k < st.length) : pos0 st (k + 1) = pos0 st k ++ if 0 ≤ st.getD k 0 then [st.getD k 0] else [] := by
  unfold pos0
  rw [List.take_succ_eq_append_getElem h, List.filter_append, getD_lt _ _ _ h]
  congr 1
  by_cases h0 : 0 ≤ st[k]
  · simp [h0]
  · simp [h0]
theorem pos0_mem (st : List Int) (k : Nat) (hk : st.length ≤ k) (x : Int) : x ∈ pos0 st k ↔ x ∈ st ∧ 0 ≤ x := by
  unfold pos0
  rw [List.take_of_length_le hk, List.mem_filter]
  simp
theorem occ_nil (st : List Int) (k : Nat) (hk : st.length ≤ k) (h : (pos0 st k).length = 0) : occ st = [0] := by
  unfold occ
  rw [if_pos]
  rw [List.eq_nil_iff_forall_not_mem]
  intro x hx
  have h1 := (srtK_mem _ _ _).1 hx
  have h2 := (pos0_mem st k hk x).2 ⟨h1.1, h1.2.1⟩
  rw [List.eq_nil_of_length_eq_zero h] at h2
  simp at h2
theorem occ_cons (st : List Int) (k : Nat) (hk : st.length ≤ k) (hr : ∀ x ∈ st, x < 16) (h : (pos0 st k).length ≠ 0) : Lib.compact (srtL (pos0 st k)) = occ st := by
  have e : Lib.compact (srtL (pos0 st k)) = srtK st 16 := by
    refine asc_ext _ _ (compact_asc _ (srtL_le _)) (srtK_asc _ _) fun x => ?_
    rw [compact_mem, srtL_mem, pos0_mem st k hk, srtK_mem]
    constructor
    · rintro ⟨h1, h2⟩; exact ⟨h1, h2, hr x h1⟩
    · rintro ⟨h1, h2, _⟩; exact ⟨h1, h2⟩
  have hne : srtK st 16 ≠ [] := by
    rw [← e]
    intro h0
    have : pos0 st k ≠ [] := fun h1 => h (by rw [h1]; rfl)
    obtain ⟨x, hx⟩ := List.exists_mem_of_ne_nil _ this
    have h2 := (compact_mem (srtL (pos0 st k)) x).2 ((srtL_mem _ _).2 hx)
    rw [h0] at h2
    simp at h2
  unfold occ
  rw [if_neg hne]
  exact e
def OccR (st : List Int) (u : Value) (L : List Res) : Prop := ∃ g n c, n = (occ st).length ∧ u = .slice (some ⟨g, 0, none⟩) n c ∧ L = [.row 3 1 u n (ints (occ st))]
set_option maxRecDepth 100000 in
set_option maxHeartbeats 4000000 in
theorem occur_sat (v : Value) (st : List Int) (w : World) (h : Ints w v st) (hr : ∀ x ∈ st, x < 16) (hl : st.length ≤ 1000) : Sat Tryd.prog 60 [v] w (OccR st) := by
  have hv := h.sl
  refine SatL.of 27 [2] Tryd.func60 (by kernel_rfl) (by kernel_rfl) rfl rfl rfl rfl ?_
  repeat' (first|(apply OK_seq)|(apply thenQ_n)|(apply OK_region)|(apply OKx_nilK)|(apply OK_block)|(apply blockQ_n)|(apply blockQ_s)|(apply thenQ_e)|(apply blockQ_e;exact rfl)|(apply thenQ_r)|(apply blockQ_r)|(apply OK_condT;exact rfl)|(apply OK_condF;exact rfl)|(apply OK_skip)|(apply OK_exit)|(apply OK_ret)|(apply OKx_move;(conv=>lhs;whnf)<;>exact rfl)|(apply OKx_assign;(conv=>lhs;whnf)<;>exact rfl)|(apply OKx_ldB;exact rfl;(first | exact at0|exact at1|exact at2|exact at3|exact at4|exact at5|exact at6|exact at7);exact rfl)|(apply OKx_ldR;(conv=>lhs;whnf)<;>exact rfl;(with_reducible assumption))|(apply OKx_ldI;exact rfl;(first | exact at0|exact at1|exact at2|exact at3|exact at4|exact at5|exact at6|exact at7);omega)|(apply OKx_len;exact rfl)|(apply OKx_lenR;(conv=>lhs;whnf)<;>exact rfl;(with_reducible assumption))|(apply OKx_lenR2;(conv=>lhs;whnf)<;>exact rfl;(with_reducible assumption))|(apply OKx_lenO;(conv=>lhs;whnf)<;>exact rfl;(first | exact at0|exact at1|exact at2|exact at3|exact at4|exact at5|exact at6|exact at7))|(apply OKx_lss;exact rfl;exact rfl;all_goals (intro _; try (exfalso;omega)))|(apply OKx_geq;exact rfl;exact rfl;all_goals (intro _; try (exfalso;omega)))|(apply OKx_eql;exact rfl;exact rfl;all_goals (intro _; try (exfalso;omega)))|(apply OKx_idxO;exact rfl;exact rfl;omega)|(apply OKx_idxR;(conv=>lhs;whnf)<;>exact rfl;(with_reducible assumption);exact rfl;omega;intro _ _)|(apply OKx_idxOz;exact rfl;exact rfl;omega;omega)|(apply OKx_idxRz;(conv=>lhs;whnf)<;>exact rfl;(with_reducible assumption);exact rfl;omega;omega;intro _ _)|(apply OKx_inc;exact rfl;exact rfl;omega)|(apply OKx_addN;exact rfl;exact rfl;omega)|(apply OKx_add;exact rfl;exact rfl;omega;omega)|(apply OKx_slit1;(conv=>lhs;whnf)<;>exact rfl;exact rfl;intro _))
  refine OK_loop2 3 8 [3, 5, 8, 9, 10, 11, 12, 13, 14, 15, 16, 17, 18] (fun m u v L => ∃ (k n : Nat) (a : Option Addr) (c : Nat), k + m = st.length ∧ n = (pos0 st k).length ∧ n ≤ k ∧ u = .slice a n c ∧ (n = 0 ∨ ∃ g, a = some ⟨g, 0, none⟩) ∧ v = .int .i64 (k : Int) ∧ L = [.row 3 1 (.slice a n c) n (ints (pos0 st k))]) st.length _ (Ent.mk fun w1 hp => hp.nil 3 1) ⟨0, 0, none, 0, by omega, rfl, by omega, rfl, .inl rfl, rfl, rfl⟩ ?_
  rintro m u v L G ⟨k, n, a, c, hm, hn, hnk, rfl, ha, rfl, rfl⟩
  by_cases hk : k < st.length
  · have hs := pos0_step st k hk
    generalize hys : pos0 st k = ys at *
    repeat' (first|(apply OK_seq)|(apply thenQ_n)|(apply OK_region)|(apply OKx_gb; refine OKx_appI 1 0 rfl rfl rfl rfl (by omega) (by omega) ?_; intro g2 c2)|(apply OKx_nilK)|(apply OK_block)|(apply blockQ_n)|(apply blockQ_s)|(apply thenQ_e)|(apply blockQ_e;exact rfl)|(apply thenQ_r)|(apply blockQ_r)|(apply OK_condT;exact rfl)|(apply OK_condF;exact rfl)|(apply OK_skip)|(apply OK_exit)|(apply OK_ret)|(apply OKx_move;(conv=>lhs;whnf)<;>exact rfl)|(apply OKx_assign;(conv=>lhs;whnf)<;>exact rfl)|(apply OKx_ldB;exact rfl;(first | exact at0|exact at1|exact at2|exact at3|exact at4|exact at5|exact at6|exact at7);exact rfl)|(apply OKx_ldR;(conv=>lhs;whnf)<;>exact rfl;(with_reducible assumption))|(apply OKx_ldI;exact rfl;(first | exact at0|exact at1|exact at2|exact at3|exact at4|exact at5|exact at6|exact at7);omega)|(apply OKx_len;exact rfl)|(apply OKx_lenR;(conv=>lhs;whnf)<;>exact rfl;(with_reducible assumption))|(apply OKx_lenR2;(conv=>lhs;whnf)<;>exact rfl;(with_reducible assumption))|(apply OKx_lenO;(conv=>lhs;whnf)<;>exact rfl;(first | exact at0|exact at1|exact at2|exact at3|exact at4|exact at5|exact at6|exact at7))|(apply OKx_lss;exact rfl;exact rfl;all_goals (intro _; try (exfalso;omega)))|(apply OKx_geq;exact rfl;exact rfl;all_goals (intro _; try (exfalso;omega)))|(apply OKx_eql;exact rfl;exact rfl;all_goals (intro _; try (exfalso;omega)))|(apply OKx_idxO;exact rfl;exact rfl;omega)|(apply OKx_idxR;(conv=>lhs;whnf)<;>exact rfl;(with_reducible assumption);exact rfl;omega;intro _ _)|(apply OKx_idxOz;exact rfl;exact rfl;omega;omega)|(apply OKx_idxRz;(conv=>lhs;whnf)<;>exact rfl;(with_reducible assumption);exact rfl;omega;omega;intro _ _)|(apply OKx_inc;exact rfl;exact rfl;omega)|(apply OKx_addN;exact rfl;exact rfl;omega)|(apply OKx_add;exact rfl;exact rfl;omega;omega)|(apply OKx_slit1;(conv=>lhs;whnf)<;>exact rfl;exact rfl;intro _))
    · rw [if_pos (by assumption)] at hs
      refine ⟨by (repeat' (first | refine agree_upd rfl ?_ | exact agree_over | exact agree_refl _ _ | refine agree_over2 rfl ?_)), m - 1, _, by omega, Ent.pick [1] rfl, ?_⟩
      exact ⟨k + 1, n + 1, some ⟨g2, 0, none⟩, c2, by omega, by rw [hs, List.length_append, hn]; rfl, by omega, rfl, .inr ⟨g2, rfl⟩, rfl, by rw [hs]; rfl⟩
    · rw [if_neg (by omega), List.append_nil] at hs
      refine ⟨by (repeat' (first | refine agree_upd rfl ?_ | exact agree_over | exact agree_refl _ _ | refine agree_over2 rfl ?_)), m - 1, _, by omega, Ent.refl _ _, ?_⟩
      exact ⟨k + 1, n, a, c, by omega, by rw [hs]; exact hn, by omega, rfl, ha, rfl, by rw [hs]⟩
  · have hkl : st.length ≤ k := by omega
    by_cases hn0 : n = 0
    · subst hn0
      repeat' (first|(apply OK_seq)|(apply thenQ_n)|(apply OK_region)|(apply OKx_nilK)|(apply OK_block)|(apply blockQ_n)|(apply blockQ_s)|(apply thenQ_e)|(apply blockQ_e;exact rfl)|(apply thenQ_r)|(apply blockQ_r)|(apply OK_condT;exact rfl)|(apply OK_condF;exact rfl)|(apply OK_skip)|(apply OK_exit)|(apply OK_ret)|(apply OKx_move;(conv=>lhs;whnf)<;>exact rfl)|(apply OKx_assign;(conv=>lhs;whnf)<;>exact rfl)|(apply OKx_ldB;exact rfl;(first | exact at0|exact at1|exact at2|exact at3|exact at4|exact at5|exact at6|exact at7);exact rfl)|(apply OKx_ldR;(conv=>lhs;whnf)<;>exact rfl;(with_reducible assumption))|(apply OKx_ldI;exact rfl;(first | exact at0|exact at1|exact at2|exact at3|exact at4|exact at5|exact at6|exact at7);omega)|(apply OKx_len;exact rfl)|(apply OKx_lenR;(conv=>lhs;whnf)<;>exact rfl;(with_reducible assumption))|(apply OKx_lenR2;(conv=>lhs;whnf)<;>exact rfl;(with_reducible assumption))|(apply OKx_lenO;(conv=>lhs;whnf)<;>exact rfl;(first | exact at0|exact at1|exact at2|exact at3|exact at4|exact at5|exact at6|exact at7))|(apply OKx_lss;exact rfl;exact rfl;all_goals (intro _; try (exfalso;omega)))|(apply OKx_geq;exact rfl;exact rfl;all_goals (intro _; try (exfalso;omega)))|(apply OKx_eql;exact rfl;exact rfl;all_goals (intro _; try (exfalso;omega)))|(apply OKx_idxO;exact rfl;exact rfl;omega)|(apply OKx_idxR;(conv=>lhs;whnf)<;>exact rfl;(with_reducible assumption);exact rfl;omega;intro _ _)|(apply OKx_idxOz;exact rfl;exact rfl;omega;omega)|(apply OKx_idxRz;(conv=>lhs;whnf)<;>exact rfl;(with_reducible assumption);exact rfl;omega;omega;intro _ _)|(apply OKx_inc;exact rfl;exact rfl;omega)|(apply OKx_addN;exact rfl;exact rfl;omega)|(apply OKx_add;exact rfl;exact rfl;omega;omega)|(apply OKx_slit1;(conv=>lhs;whnf)<;>exact rfl;exact rfl;intro _))
      refine bodyQ_r1 (by ((conv=>lhs;whnf)<;>exact rfl)) ?_
      have ho := occ_nil st k hkl hn.symm
      exact ⟨_, Ent.pick [0] rfl, _, 1, _, by rw [ho]; rfl, rfl, by rw [ho]; rfl⟩
    · obtain ⟨g, rfl⟩ := ha.resolve_left hn0
      have ho := occ_cons st k hkl hr (by omega)
      have hsl : (srtL (pos0 st k)).length = n := by rw [hn]; exact List.length_mergeSort _
      repeat' (first|(apply OK_seq)|(apply thenQ_n)|(apply OK_region)|(apply OKx_gc 18;exact rfl; refine OKx_callL (f := 18) rfl rfl (sort_int_sat g c n (pos0 st k) _ _ 0 hn.symm rfl (by omega)) ?_; rintro _ _ ⟨rfl, rfl⟩)|(apply OKx_gc 83;exact rfl; refine OKx_callL (f := 83) rfl rfl (compact_int_sat g c n (srtL (pos0 st k)) _ _ 0 hsl rfl (by omega)) ?_; rintro _ _ ⟨kk, hkk, rfl, rfl⟩)|(apply OKx_nilK)|(apply OK_block)|(apply blockQ_n)|(apply blockQ_s)|(apply thenQ_e)|(apply blockQ_e;exact rfl)|(apply thenQ_r)|(apply blockQ_r)|(apply OK_condT;exact rfl)|(apply OK_condF;exact rfl)|(apply OK_skip)|(apply OK_exit)|(apply OK_ret)|(apply OKx_move;(conv=>lhs;whnf)<;>exact rfl)|(apply OKx_assign;(conv=>lhs;whnf)<;>exact rfl)|(apply OKx_ldB;exact rfl;(first | exact at0|exact at1|exact at2|exact at3|exact at4|exact at5|exact at6|exact at7);exact rfl)|(apply OKx_ldR;(conv=>lhs;whnf)<;>exact rfl;(with_reducible assumption))|(apply OKx_ldI;exact rfl;(first | exact at0|exact at1|exact at2|exact at3|exact at4|exact at5|exact at6|exact at7);omega)|(apply OKx_len;exact rfl)|(apply OKx_lenR;(conv=>lhs;whnf)<;>exact rfl;(with_reducible assumption))|(apply OKx_lenR2;(conv=>lhs;whnf)<;>exact rfl;(with_reducible assumption))|(apply OKx_lenO;(conv=>lhs;whnf)<;>exact rfl;(first | exact at0|exact at1|exact at2|exact at3|exact at4|exact at5|exact at6|exact at7))|(apply OKx_lss;exact rfl;exact rfl;all_goals (intro _; try (exfalso;omega)))|(apply OKx_geq;exact rfl;exact rfl;all_goals (intro _; try (exfalso;omega)))|(apply OKx_eql;exact rfl;exact rfl;all_goals (intro _; try (exfalso;omega)))|(apply OKx_idxO;exact rfl;exact rfl;omega)|(apply OKx_idxR;(conv=>lhs;whnf)<;>exact rfl;(with_reducible assumption);exact rfl;omega;intro _ _)|(apply OKx_idxOz;exact rfl;exact rfl;omega;omega)|(apply OKx_idxRz;(conv=>lhs;whnf)<;>exact rfl;(with_reducible assumption);exact rfl;omega;omega;intro _ _)|(apply OKx_inc;exact rfl;exact rfl;omega)|(apply OKx_addN;exact rfl;exact rfl;omega)|(apply OKx_add;exact rfl;exact rfl;omega;omega)|(apply OKx_slit1;(conv=>lhs;whnf)<;>exact rfl;exact rfl;intro _))
      refine bodyQ_r1 (by ((conv=>lhs;whnf)<;>exact rfl)) ?_
      exact ⟨_, Ent.refl _ _, g, kk, c, by rw [hkk, ho], rfl, by rw [ho]; rfl⟩
set_option maxRecDepth 100000 in
set_option maxHeartbeats 4000000 in
theorem tooMany_sat (v : Value) (st : List Int) (w : World) (h : Ints w v st) (hr : ∀ x ∈ st, x < 16) (hl : st.length ≤ 1000) : SatV Tryd.prog 32 [v] w (.bool (many st)) := by
  have hv := h.sl
  have ho16 := occ_le st
  have ho0 := occ_pos st
  refine SatL.of 24 [2] Tryd.func32 (by kernel_rfl) (by kernel_rfl) rfl rfl rfl rfl ?_
  repeat' (first|(apply OK_seq)|(apply thenQ_n)|(apply OK_region)|(apply OKx_gc 60;exact rfl; refine OKx_call (f := 60) rfl rfl (fun w1 hp => occur_sat _ st w1 (h.below hp.below) hr hl) ?_; rintro _ _ ⟨g, n, c, hn, rfl, rfl⟩)|(apply OKx_nilK)|(apply OK_block)|(apply blockQ_n)|(apply blockQ_s)|(apply thenQ_e)|(apply blockQ_e;exact rfl)|(apply thenQ_r)|(apply blockQ_r)|(apply OK_condT;exact rfl)|(apply OK_condF;exact rfl)|(apply OK_skip)|(apply OK_exit)|(apply OK_ret)|(apply OKx_move;(conv=>lhs;whnf)<;>exact rfl)|(apply OKx_assign;(conv=>lhs;whnf)<;>exact rfl)|(apply OKx_ldB;exact rfl;(first | exact at0|exact at1|exact at2|exact at3|exact at4|exact at5|exact at6|exact at7);exact rfl)|(apply OKx_ldR;(conv=>lhs;whnf)<;>exact rfl;(with_reducible assumption))|(apply OKx_ldI;exact rfl;(first | exact at0|exact at1|exact at2|exact at3|exact at4|exact at5|exact at6|exact at7);omega)|(apply OKx_len;exact rfl)|(apply OKx_lenR;(conv=>lhs;whnf)<;>exact rfl;(with_reducible assumption))|(apply OKx_lenR2;(conv=>lhs;whnf)<;>exact rfl;(with_reducible assumption))|(apply OKx_lenO;(conv=>lhs;whnf)<;>exact rfl;(first | exact at0|exact at1|exact at2|exact at3|exact at4|exact at5|exact at6|exact at7))|(apply OKx_lss;exact rfl;exact rfl;all_goals (intro _; try (exfalso;omega)))|(apply OKx_gtr;exact rfl;exact rfl;all_goals (intro _; try (exfalso;omega)))|(apply OKx_geq;exact rfl;exact rfl;all_goals (intro _; try (exfalso;omega)))|(apply OKx_idxO;exact rfl;exact rfl;omega)|(apply OKx_idxR;(conv=>lhs;whnf)<;>exact rfl;(with_reducible assumption);exact rfl;omega;intro _ _)|(apply OKx_idxOz;exact rfl;exact rfl;omega;omega)|(apply OKx_idxRz;(conv=>lhs;whnf)<;>exact rfl;(with_reducible assumption);exact rfl;omega;omega;intro _ _)|(apply OKx_inc;exact rfl;exact rfl;omega)|(apply OKx_addN;exact rfl;exact rfl;omega)|(apply OKx_add;exact rfl;exact rfl;omega;omega))
  refine OK_loop2 3 12 [2, 3, 6, 12, 13, 14, 15, 16, 17, 18, 19, 20, 21, 22, 23] (fun m u v L => ∃ (k q : Nat), k + m = st.length ∧ q = (occ st).length ^ unk (st.take k) ∧ q ≤ 65536 ∧ u = .int .i64 (q : Int) ∧ v = .int .i64 (k : Int) ∧ L = []) st.length _ Ent.nil ⟨0, 1, by omega, by simp [unk], by omega, rfl, rfl, rfl⟩ ?_
  rintro m u v L G ⟨k, q, hm, hq, hq1, rfl, rfl, rfl⟩
  have hmul : 0 ≤ (q : Int) * (n : Int) ∧ (q : Int) * (n : Int) ≤ 65536 * 16 := ⟨Int.mul_nonneg (by omega) (by omega), Int.mul_le_mul (by omega) (by omega) (by omega) (by omega)⟩
  have hstep := unk_step st k
  repeat' (first|(apply OK_seq)|(apply thenQ_n)|(apply OK_region)|(apply OKx_gn; refine OKx_mul rfl rfl (by omega) (by omega) ?_)|(apply OKx_nilK)|(apply OK_block)|(apply blockQ_n)|(apply blockQ_s)|(apply thenQ_e)|(apply blockQ_e;exact rfl)|(apply thenQ_r)|(apply blockQ_r)|(apply OK_condT;exact rfl)|(apply OK_condF;exact rfl)|(apply OK_skip)|(apply OK_exit)|(apply OK_ret)|(apply OKx_move;(conv=>lhs;whnf)<;>exact rfl)|(apply OKx_assign;(conv=>lhs;whnf)<;>exact rfl)|(apply OKx_ldB;exact rfl;(first | exact at0|exact at1|exact at2|exact at3|exact at4|exact at5|exact at6|exact at7);exact rfl)|(apply OKx_ldR;(conv=>lhs;whnf)<;>exact rfl;(with_reducible assumption))|(apply OKx_ldI;exact rfl;(first | exact at0|exact at1|exact at2|exact at3|exact at4|exact at5|exact at6|exact at7);omega)|(apply OKx_len;exact rfl)|(apply OKx_lenR;(conv=>lhs;whnf)<;>exact rfl;(with_reducible assumption))|(apply OKx_lenR2;(conv=>lhs;whnf)<;>exact rfl;(with_reducible assumption))|(apply OKx_lenO;(conv=>lhs;whnf)<;>exact rfl;(first | exact at0|exact at1|exact at2|exact at3|exact at4|exact at5|exact at6|exact at7))|(apply OKx_lss;exact rfl;exact rfl;all_goals (intro _; try (exfalso;omega)))|(apply OKx_gtr;exact rfl;exact rfl;all_goals (intro _; try (exfalso;omega)))|(apply OKx_geq;exact rfl;exact rfl;all_goals (intro _; try (exfalso;omega)))|(apply OKx_idxO;exact rfl;exact rfl;omega)|(apply OKx_idxR;(conv=>lhs;whnf)<;>exact rfl;(with_reducible assumption);exact rfl;omega;intro _ _)|(apply OKx_idxOz;exact rfl;exact rfl;omega;omega)|(apply OKx_idxRz;(conv=>lhs;whnf)<;>exact rfl;(with_reducible assumption);exact rfl;omega;omega;intro _ _)|(apply OKx_inc;exact rfl;exact rfl;omega)|(apply OKx_addN;exact rfl;exact rfl;omega)|(apply OKx_add;exact rfl;exact rfl;omega;omega))
  · refine ⟨by (repeat' (first | refine agree_upd rfl ?_ | exact agree_over | exact agree_refl _ _ | refine agree_over2 rfl ?_)), m - 1, _, by omega, Ent.refl _ _, ?_⟩
    refine ⟨k + 1, q, by omega, ?_, hq1, rfl, rfl, rfl⟩
    rw [hstep (by omega), if_neg (by omega)]; exact hq
  · have hx : (occ st).length ^ unk (st.take (k + 1)) = q * n := by
      rw [hstep (by omega), if_pos (by omega), Nat.pow_succ, ← hq, ← hn]
    refine bodyQ_r1 (by ((conv=>lhs;whnf)<;>exact rfl)) ?_
    refine ⟨_, Ent.nil, bool_eq (many_hit st (k + 1) ?_).symm, rfl⟩
    rw [hx]
    have : ((q * n : Nat) : Int) = (q : Int) * (n : Int) := by simp
    omega
  · have hx : (occ st).length ^ unk (st.take (k + 1)) = q * n := by
      rw [hstep (by omega), if_pos (by omega), Nat.pow_succ, ← hq, ← hn]
    have e : ((q * n : Nat) : Int) = (q : Int) * (n : Int) := by simp
    refine ⟨by (repeat' (first | refine agree_upd rfl ?_ | exact agree_over | exact agree_refl _ _ | refine agree_over2 rfl ?_)), m - 1, _, by omega, Ent.refl _ _, ?_⟩
    exact ⟨k + 1, q * n, by omega, hx.symm, by omega, int_eq e.symm, rfl, rfl⟩
  · refine bodyQ_r1 (by ((conv=>lhs;whnf)<;>exact rfl)) ?_
    refine ⟨_, Ent.nil, bool_eq (many_end st ?_).symm, rfl⟩
    rw [List.take_of_length_le (by omega)] at hq
    omega
end Go.Proofs.YtpknpbeiifjmgaaDoor
