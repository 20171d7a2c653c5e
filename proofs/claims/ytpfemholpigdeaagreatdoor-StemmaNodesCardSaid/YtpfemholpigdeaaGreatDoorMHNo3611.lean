/-
  Part 11 of the proof: Ext, As38, Any, Be38, Pd38, Gu, As39, Arr, Po39. No statement of the seat is proved here.
-/
import Derived.Test.YtpfemholpigdeaaGreatDoorMHNo3610
namespace Go.Proofs.YtpfemholpigdeaaGreatDoor
open Go.RowKit
set_option maxRecDepth 100000 in
set_option maxHeartbeats 4000000 in
theorem stCheck_sat (v : Value) (s : Stem) (w : World) (h : Stm w v s) : SatV Tryz.prog 30 [v] w (.int .i64 (stCheck s)) :=
  Sat.lib ⟨_, _, Tryz.func30, by kernel_rfl, rfl⟩ fun w1 hb => (stCheck_any v s w1 (h.below hb)).mono fun e w' ⟨h1, h2⟩ => ⟨_, [], h1, h2, rfl, rfl⟩
set_option maxRecDepth 100000 in
set_option maxHeartbeats 4000000 in
theorem rstCheck_sat (v : Value) (s : Stem) (w : World) (h : Stm w v s) : SatV Tryz.prog 31 [v] w (.int .i64 (stCheck s)) :=
  Sat.lib ⟨_, _, Tryz.func31, by kernel_rfl, rfl⟩ fun w1 hb => (rstCheck_any v s w1 (h.below hb)).mono fun e w' ⟨h1, h2⟩ => ⟨_, [], h1, h2, rfl, rfl⟩
set_option maxRecDepth 100000 in
set_option maxHeartbeats 4000000 in
theorem has36_sat (v : Value) (xs : List Int) (n : Int) (w : World) (h : Ints w v xs) : SatV Tryz.prog 43 [v, .int .i64 n] w (.bool (hasI xs n)) :=
  Sat.lib ⟨_, _, Tryz.func43, by kernel_rfl, rfl⟩ fun w1 hb => (has36_any v xs n w1 (h.below hb)).mono fun e w' ⟨h1, h2⟩ => ⟨_, [], h1, by subst h2; exact Hp.refl _, rfl, rfl⟩
set_option maxRecDepth 100000 in
set_option maxHeartbeats 4000000 in
theorem sorted_sat (v : Value) (xs : List Int) (w : World) (h : Ints w v xs) : Sat Tryz.prog 46 [v] w (fun u L => L = [irow u (srtK xs 64)]) := by
  refine SatL.of 18 [2] Tryz.func46 (by kernel_rfl) (by kernel_rfl) rfl rfl rfl rfl ?_
  repeat' (first|(apply OK_seq)|(apply thenQ_n)|(apply OK_region)|(apply OKx_nilK)|(apply OK_block)|(apply blockQ_n)|(apply blockQ_s)|(apply thenQ_e)|(apply blockQ_e;exact rfl)|(apply thenQ_r)|(apply blockQ_r)|(apply OK_condT;exact rfl)|(apply OK_condF;exact rfl)|(apply OK_skip)|(apply OK_exit)|(apply OK_ret)|(apply OKx_move;(conv=>lhs;whnf)<;>exact rfl)|(apply OKx_assign;(conv=>lhs;whnf)<;>exact rfl)|(apply OKx_lss;exact rfl;exact rfl;all_goals (intro _; try (exfalso;omega)))|(apply OKx_inc;exact rfl;exact rfl;omega)|(apply OKx_addN;exact rfl;exact rfl;omega)|(apply OKx_add;exact rfl;exact rfl;omega;omega)|(apply OKx_slit1;(conv=>lhs;whnf)<;>exact rfl;exact rfl;intro _)|(apply OKx_slit0;intro _))
  rename_i g0
  refine OK_loop2 3 4 [3, 4, 6, 7, 8, 9, 10, 11, 12, 13, 14, 15, 16] (fun m u v L => ∃ (k g c : Nat), k + m = 64 ∧ u = .slice (some ⟨g, 0, none⟩) (srtK xs k).length c ∧ v = .int .i64 (k : Int) ∧ L = [irow (.slice (some ⟨g, 0, none⟩) (srtK xs k).length c) (srtK xs k)]) 64 _ (Ent.refl _ _) ⟨0, g0, 0, by omega, rfl, rfl, rfl⟩ ?_
  rintro m u v L G ⟨k, g, c, hm, rfl, rfl, rfl⟩
  have hs := srtK_step xs k
  have hl := srtK_len xs k
  generalize hys : srtK xs k = ys at *
  repeat' (first|(apply OK_seq)|(apply thenQ_n)|(apply OK_region)|(apply OKx_gc 43;exact rfl; refine OKx_callB (f := 43) rfl rfl rfl (fun w1 hp => has36_sat _ xs _ w1 (h.below hp.below)) ?_ ?_ <;> intro hq)|(apply OKx_gb; refine OKx_appI 1 0 rfl rfl rfl rfl (by omega) (by omega) ?_; intro g2 c2)|(apply OKx_nilK)|(apply OK_block)|(apply blockQ_n)|(apply blockQ_s)|(apply thenQ_e)|(apply blockQ_e;exact rfl)|(apply thenQ_r)|(apply blockQ_r)|(apply OK_condT;exact rfl)|(apply OK_condF;exact rfl)|(apply OK_skip)|(apply OK_exit)|(apply OK_ret)|(apply OKx_move;(conv=>lhs;whnf)<;>exact rfl)|(apply OKx_assign;(conv=>lhs;whnf)<;>exact rfl)|(apply OKx_lss;exact rfl;exact rfl;all_goals (intro _; try (exfalso;omega)))|(apply OKx_inc;exact rfl;exact rfl;omega)|(apply OKx_addN;exact rfl;exact rfl;omega)|(apply OKx_add;exact rfl;exact rfl;omega;omega)|(apply OKx_slit1;(conv=>lhs;whnf)<;>exact rfl;exact rfl;intro _)|(apply OKx_slit0;intro _))
  · rw [if_pos hq] at hs
    refine ⟨by (repeat' (first | refine agree_upd rfl ?_ | exact agree_over | exact agree_refl _ _ | refine agree_over2 rfl ?_)), m - 1, _, by omega, Ent.pick [1] rfl, ?_⟩
    exact ⟨k + 1, g2, c2, by omega, by rw [hs, List.length_append]; rfl, rfl, by rw [hs]; simp [pickL, irow]⟩
  · rw [if_neg (by rw [hq]; simp), List.append_nil] at hs
    refine ⟨by (repeat' (first | refine agree_upd rfl ?_ | exact agree_over | exact agree_refl _ _ | refine agree_over2 rfl ?_)), m - 1, _, by omega, Ent.refl _ _, ?_⟩
    exact ⟨k + 1, g, c, by omega, by rw [hs]; rfl, rfl, by rw [hs]⟩
  · obtain rfl : k = 64 := by omega
    refine bodyQ_r1 (by ((conv=>lhs;whnf)<;>exact rfl)) ?_
    exact ⟨_, Ent.refl _ _, by rw [hys]⟩
def chkI (s : Stem) (i : Int) : Int := if stCheck s ≠ 0 then 1 else if i < 0 ∨ (s.names.length : Int) ≤ i then 6 else 0
set_option maxRecDepth 100000 in
set_option maxHeartbeats 4000000 in
theorem chk36_sat (v : Value) (s : Stem) (i : Int) (w : World) (h : Stm w v s) : SatV Tryz.prog 40 [v, .int .i64 i] w (.int .i64 (chkI s i)) := by
  have hst := h
  obtain ⟨nv, ev, pv, rfl, hS, _, hP⟩ := h
  have hnv := hS.sl
  refine SatL.of 19 [4] Tryz.func40 (by kernel_rfl) (by kernel_rfl) rfl rfl rfl rfl ?_
  repeat' (first|(apply OK_seq)|(apply thenQ_n)|(apply OK_region)|(apply OKx_gc 30;exact rfl; refine OKx_callV (f := 30) rfl rfl rfl (fun w hp => stCheck_sat _ s w (hst.below hp.below)) ?_)|(apply OKx_nilK)|(apply OK_block)|(apply blockQ_n)|(apply blockQ_s)|(apply thenQ_e)|(apply blockQ_e;exact rfl)|(apply thenQ_r)|(apply blockQ_r)|(apply OK_condT;exact rfl)|(apply OK_condF;exact rfl)|(apply OK_skip)|(apply OK_exit)|(apply OK_ret)|(apply OKx_move;(conv=>lhs;whnf)<;>exact rfl)|(apply OKx_assign;(conv=>lhs;whnf)<;>exact rfl)|(apply OKx_ldB;exact rfl;(first | exact at0|exact at1|exact at2|exact at3|exact at4|exact at5|exact at6|exact at7);exact rfl)|(apply OKx_ldR;(conv=>lhs;whnf)<;>exact rfl;(with_reducible assumption))|(apply OKx_len;exact rfl)|(apply OKx_lenR;(conv=>lhs;whnf)<;>exact rfl;(with_reducible assumption))|(apply OKx_lenR2;(conv=>lhs;whnf)<;>exact rfl;(with_reducible assumption))|(apply OKx_lenO;(conv=>lhs;whnf)<;>exact rfl;(first | exact at0|exact at1|exact at2|exact at3|exact at4|exact at5|exact at6|exact at7))|(apply OKx_lss;exact rfl;exact rfl;all_goals (intro _; try (exfalso;omega)))|(apply OKx_geq;exact rfl;exact rfl;all_goals (intro _; try (exfalso;omega)))|(apply OKx_neq;exact rfl;exact rfl;all_goals (intro _; try (exfalso;omega)))|(apply OKx_fldO;exact rfl;exact rfl)|(apply OKx_fldR;(conv=>lhs;whnf)<;>exact rfl;(with_reducible assumption); decide;intro _ _)|(apply OKx_pickT;exact rfl;(conv=>lhs;whnf)<;>exact rfl)|(apply OKx_pickF;exact rfl;(conv=>lhs;whnf)<;>exact rfl)|(apply OKx_guardT;exact rfl;exact rfl)|(apply OKx_guardF;exact rfl;exact rfl)|(apply OKx_guardU;exact rfl;exact rfl)|(apply OKx_boxA;exact rfl;intro _)|(apply OKx_ldBA;exact rfl;(first | exact at0|exact at1|exact at2|exact at3|exact at4|exact at5|exact at6|exact at7);exact rfl)|(apply OKx_ldRA;(conv=>lhs;whnf)<;>exact rfl;(with_reducible assumption)))
  all_goals
    refine bodyQ_r1 (by ((conv=>lhs;whnf)<;>exact rfl)) ?_
    exact ⟨_, Ent.nil, int_eq (by unfold chkI; split <;> (try split) <;> omega), rfl⟩
def extE (s : Stem) (c p : Int) : Int :=
  if stCheck s ≠ 0 then 1 else if c < 0 ∨ (s.names.length : Int) ≤ c ∨ p < 0 ∨ (s.names.length : Int) ≤ p then 6 else if c ≤ p then 10 else if hasI (s.par.getD c.toNat []) p = true then 7 else 0
def extP (s : Stem) (c p : Int) : List Int := srtK (p :: s.par.getD c.toNat []) 64
def extS (s : Stem) (c p : Int) : Stem := ⟨s.names, s.ext, s.par.set c.toNat (extP s c p)⟩
def ExtR (s : Stem) (c p : Int) (w0 : World) (u : Value) (L : List Res) : Prop :=
  (extE s c p ≠ 0 ∧ u = .tuple #[.agg #[.slice none 0 0, .slice none 0 0, .slice none 0 0], .int .i64 (extE s c p)] ∧ L = []) ∨
  (extE s c p = 0 ∧ ∃ na nc ea ec pa pc, u = .tuple #[.agg #[.slice na s.names.length nc, .slice ea s.ext.length ec, .slice pa s.par.length pc], .int .i64 0] ∧ ∀ w, Hp w0.heap.size w0 w L → Stm w (.agg #[.slice na s.names.length nc, .slice ea s.ext.length ec, .slice pa s.par.length pc]) (extS s c p))
theorem tabs_set {w0 w : World} {L : List Res} {vs : List Value} {par : List (List Int)} {v own : Value} {xs : List Int} {T T2 : TypeId} {nx : Nat} (c i j : Nat) (hp : Hp w0.heap.size w0 w L) (hl : vs.length = par.length) (hn : par.length ≤ 1000000)
    (hi : L[i]? = some (.row T 1 v par.length (vs.set c own))) (hj : L[j]? = some (.row T2 1 own nx (ints xs))) (hx : nx ≤ 1000000) (hv : ∀ k, (h : k < par.length) → Ints w0 (vs.getD k undef) par[k]) (hc : c < par.length) : Tabs w v (par.set c xs) := by
  refine ⟨vs.set c own, ?_, by simp [hl], fun k hk => ?_⟩
  · rw [List.length_set]
    refine hp.sl i hi (by omega) fun k hk => ?_
    rw [Nat.mul_one] at hk
    rw [List.getD_eq_getElem?_getD, List.getElem?_eq_getElem (by rw [List.length_set];omega)]
    rfl
  · rw [List.length_set] at hk
    by_cases h : c = k
    · subst h
      have := hp.ints j hj (by omega)
      rw [List.getElem_set_self]
      simpa [hl, hc] using this
    · rw [List.getElem_set_ne h]
      have := (hv k hk).below hp.below
      simpa [List.getD_eq_getElem?_getD, List.getElem?_set_ne h] using this
theorem srt_eq (xs : List Int) (p : Int) (hx : xs.Pairwise (· < ·)) (h0 : ∀ x ∈ xs, 0 ≤ x ∧ x < 64) (hp : 0 ≤ p ∧ p < 64) (hn : p ∉ xs) : srtL (xs ++ [p]) = srtK (p :: xs) 64 := by
  refine asc_ext _ _ (asc_of_le _ (srtL_le _) ?_) (srtK_asc _ _) fun x => ?_
  · refine (srtL_perm _).nodup_iff.2 ?_
    rw [List.nodup_append]
    refine ⟨hx.imp (fun h => by omega), by simp, ?_⟩
    intro a ha b hb e
    subst e
    rw [List.mem_singleton] at hb
    subst hb
    exact hn ha
  · rw [srtL_mem, srtK_mem, List.mem_append, List.mem_singleton, List.mem_cons]
    constructor
    · rintro (h | rfl)
      · exact ⟨.inr h, h0 x h⟩
      · exact ⟨.inl rfl, hp⟩
    · rintro ⟨rfl | h, _⟩
      · exact .inr rfl
      · exact .inl h
set_option maxRecDepth 100000 in
set_option maxHeartbeats 4000000 in
theorem clone_row_sat (v : Value) (N : Nat) (vs : List Value) (w : World) (hl : vs.length = N) (h : Sl w v 1 N (fun j => vs.getD j undef)) (h1 : ∀ u ∈ vs, u.oneCell' = true) (h0 : 0 < N) (h8 : N ≤ 1000000) :
    Sat Tryz.prog 49 [v] w (fun u L => ∃ g c, u = .slice (some ⟨g, 0, none⟩) N c ∧ L = [.row 32 1 u N vs]) := by
  obtain ⟨_, ⟨a, cap, rfl, hc⟩, _⟩ := h
  rcases hc with hc | ⟨b, off, rfl, hc⟩
  · omega
  refine SatL.of 8 [2] Tryz.func49 (by kernel_rfl) (by kernel_rfl) rfl rfl rfl rfl ?_
  repeat' (first|(apply OK_seq)|(apply thenQ_n)|(apply OK_region)|(apply OKx_eqNilF; (focus exact rfl); (focus exact rfl))|(apply OKx_gb; refine OKx_append 0 (M := N) (ys := vs) rfl rfl rfl (by omega) (fun w1 hp j u hj => ?_) h1 (by omega) (by omega) h0 ?_; rotate_left; intro g c)|(apply OKx_nilK)|(apply OK_block)|(apply blockQ_n)|(apply blockQ_s)|(apply thenQ_e)|(apply blockQ_e;exact rfl)|(apply thenQ_r)|(apply blockQ_r)|(apply OK_condT;exact rfl)|(apply OK_condF;exact rfl)|(apply OK_skip)|(apply OK_exit)|(apply OK_ret)|(apply OKx_move;(conv=>lhs;whnf)<;>exact rfl)|(apply OKx_assign;(conv=>lhs;whnf)<;>exact rfl)|(apply OKx_eql;exact rfl;exact rfl;all_goals (intro _; try (exfalso;omega)))|(apply OKx_slit0;intro _))
  · refine bodyQ_r1 (by ((conv=>lhs;whnf)<;>exact rfl)) ?_
    refine ⟨_, Ent.refl _ _, g, c, by rw [Nat.zero_add], ?_⟩
    rw [Nat.zero_add]
    rfl
  · have hj2 : j < vs.length := (List.getElem?_eq_some_iff.1 hj).1
    have h2 := hc j (by omega)
    rw [hp.below.cell (World.block_lt_of_cell? w _ h2), h2]
    simp [hj]
theorem chkI_zero {s : Stem} {i : Int} (h : chkI s i = 0) : stCheck s = 0 ∧ 0 ≤ i ∧ i < s.names.length := by
  unfold chkI at h
  split at h
  · omega
  · split at h
    · omega
    · omega
theorem extE_chk {s : Stem} {c p e : Int} (k : Nat) (hk : k < 2) (h : ∀ j, j < k → chkI s ([c, p].getD j 0) = 0) (he : chkI s ([c, p].getD k 0) = e) (h0 : e ≠ 0) : extE s c p = e := by
  subst he
  have hk2 : k = 0 ∨ k = 1 := by omega
  rcases hk2 with rfl | rfl
  · simp only [List.getD_cons_zero] at *
    unfold chkI at *
    unfold extE
    split at h0
    · rename_i h1; rw [if_pos h1, if_pos h1]
    · rename_i h1
      split at h0
      · rename_i h2; rw [if_neg h1, if_neg h1, if_pos h2, if_pos (by omega)]
      · omega
  · have h1 := chkI_zero (h 0 (by omega))
    simp only [List.getD_cons_zero, List.getD_cons_succ] at *
    unfold chkI at *
    unfold extE
    have h2 : ¬ stCheck s ≠ 0 := by rw [h1.1]; simp
    rw [if_neg h2] at h0 ⊢
    rw [if_neg h2]
    split at h0
    · rename_i h3; rw [if_pos h3, if_pos (by omega)]
    · omega
theorem one_of_ints {w : World} {u : Value} {xs : List Int} (h : Ints w u xs) : u.oneCell' = true ∧ u.cells = #[u] := by
  obtain ⟨a, c, rfl, _⟩ := h.at
  exact ⟨rfl, rfl⟩
set_option maxRecDepth 100000 in
set_option maxHeartbeats 4000000 in
theorem Extend_sat (v : Value) (s : Stem) (c p : Int) (wb w : World) (hb : Below wb.heap.size wb w) (h : Stm wb v s) : Sat Tryz.prog 20 [v, .int .i64 c, .int .i64 p] w (ExtR s c p wb) := by
  have hst := h.below hb
  obtain ⟨nv, ev, pv, rfl, hS, hE, hP⟩ := h
  obtain ⟨na, nc, rfl, _⟩ := hS.at
  obtain ⟨ea, ec, rfl, _⟩ := hE.at
  obtain ⟨pa, pc, rfl, _⟩ := hP.at
  have hP' := hP.below hb
  obtain ⟨vs, hsl0, hvl, hint⟩ := hP
  have hsl := hsl0.below hb
  obtain ⟨fv, hpv, hrow⟩ := hP'.rows
  have hone : ∀ u ∈ vs, u.oneCell' = true := fun u hu => by
    obtain ⟨j, hj, rfl⟩ := List.getElem_of_mem hu
    have := (one_of_ints (hint j (by omega))).1
    rwa [getD_lt _ _ _ hj] at this
  refine SatL.ofR 65 [.cell 6 26, .tmp 7] Tryz.func20 (by kernel_rfl) (by kernel_rfl) rfl rfl rfl ?_
  repeat' (first|(apply OK_seq)|(apply thenQ_n)|(apply OK_region)|(apply OKx_nilK)|(apply OK_block)|(apply blockQ_n)|(apply blockQ_s)|(apply thenQ_e)|(apply blockQ_e;exact rfl)|(apply thenQ_r)|(apply blockQ_r)|(apply OK_condT;exact rfl)|(apply OK_condF;exact rfl)|(apply OK_skip)|(apply OK_exit)|(apply OK_ret)|(apply OKx_move;(conv=>lhs;whnf)<;>exact rfl)|(apply OKx_assign;(conv=>lhs;whnf)<;>exact rfl)|(apply OKx_ldB;exact rfl;(first | exact at0|exact at1|exact at2|exact at3|exact at4|exact at5|exact at6|exact at7);exact rfl)|(apply OKx_ldR;(conv=>lhs;whnf)<;>exact rfl;(with_reducible assumption))|(apply OKx_ldI;exact rfl;(first | exact at0|exact at1|exact at2|exact at3|exact at4|exact at5|exact at6|exact at7);omega)|(apply OKx_len;exact rfl)|(apply OKx_lenR;(conv=>lhs;whnf)<;>exact rfl;(with_reducible assumption))|(apply OKx_lenR2;(conv=>lhs;whnf)<;>exact rfl;(with_reducible assumption))|(apply OKx_lenO;(conv=>lhs;whnf)<;>exact rfl;(first | exact at0|exact at1|exact at2|exact at3|exact at4|exact at5|exact at6|exact at7))|(apply OKx_lss;exact rfl;exact rfl;all_goals (intro _; try (exfalso;omega)))|(apply OKx_geq;exact rfl;exact rfl;all_goals (intro _; try (exfalso;omega)))|(apply OKx_neq;exact rfl;exact rfl;all_goals (intro _; try (exfalso;omega)))|(apply OKx_idxO;exact rfl;exact rfl;omega)|(apply OKx_idxR;(conv=>lhs;whnf)<;>exact rfl;(with_reducible assumption);exact rfl;omega;intro _ _)|(apply OKx_idxOz;exact rfl;exact rfl;omega;omega)|(apply OKx_idxRz;(conv=>lhs;whnf)<;>exact rfl;(with_reducible assumption);exact rfl;omega;omega;intro _ _)|(apply OKx_fldO;exact rfl;exact rfl)|(apply OKx_fldR;(conv=>lhs;whnf)<;>exact rfl;(with_reducible assumption); decide;intro _ _)|(apply OKx_inc;exact rfl;exact rfl;omega)|(apply OKx_addN;exact rfl;exact rfl;omega)|(apply OKx_add;exact rfl;exact rfl;omega;omega)|(apply OKx_boxA;exact rfl;intro _)|(apply OKx_allocA;intro _)|(apply OKx_ldBA;exact rfl;(first | exact at0|exact at1|exact at2|exact at3|exact at4|exact at5|exact at6|exact at7);exact rfl)|(apply OKx_ldRA;(conv=>lhs;whnf)<;>exact rfl;(with_reducible assumption))|(apply OKx_stB;exact rfl;(conv=>lhs;whnf)<;>exact rfl;exact rfl;exact rfl;(first | exact at0|exact at1|exact at2|exact at3|exact at4|exact at5|exact at6|exact at7);exact rfl;exact rfl;exact rfl)|(apply OKx_slit1;(conv=>lhs;whnf)<;>exact rfl;exact rfl;intro _)|(apply OKx_slit2;(conv=>lhs;whnf)<;>exact rfl;(conv=>lhs;whnf)<;>exact rfl;exact rfl;exact rfl;intro _)|(apply OKx_stBA; kernel_rfl;exact rfl;exact rfl;exact rfl;(first | exact at0|exact at1|exact at2|exact at3|exact at4|exact at5|exact at6|exact at7);exact rfl;exact rfl;exact rfl))
  rename_i g3 g6 gl
  refine OK_loop1 17 [7, 9, 10, 17, 18, 19, 20, 21, 22, 23, 24, 25, 26, 27, 28] (fun m v L => ∃ k : Nat, k + m = 2 ∧ v = .int .i64 (k : Int) ∧ (∀ j, j < k → chkI s ([c, p].getD j 0) = 0) ∧ L = [.row 3 1 (.slice (some ⟨gl, 0, none⟩) 2 2) 2 (ints [c, p]), .box 26 g6 [.slice none 0 0, .slice none 0 0, .slice none 0 0], .box 26 g3 [.slice na s.names.length nc, .slice ea s.ext.length ec, .slice pa s.par.length pc]]) 2 _ (Ent.refl _ _) ⟨0, by omega, rfl, fun j hj => absurd hj (by omega), rfl⟩ ?_
  rintro m v L G ⟨k, hm, rfl, H, rfl⟩
  have hA : 2 ≤ k → stCheck s = 0 ∧ 0 ≤ c ∧ c < s.par.length ∧ 0 ≤ p ∧ p < s.par.length ∧ s.par.length = s.names.length ∧ s.par.length ≤ 64 := fun hk => by
    have h1 := chkI_zero (H 0 (by omega))
    have h2 := chkI_zero (H 1 (by omega))
    obtain ⟨_, h3, _, h4, _⟩ := stCheck_len s h1.1
    simp only [List.getD_cons_zero, List.getD_cons_succ] at h1 h2
    exact ⟨h1.1, by omega, by omega, by omega, by omega, h4, by omega⟩
  have hB : 2 ≤ k → 0 ≤ c ∧ c < s.par.length ∧ 0 ≤ p ∧ p < s.par.length ∧ s.par.length ≤ 64 := fun hk => by
    have := hA hk;omega
  have hC : 2 ≤ k → ∀ i, (s.par.getD i []).length ≤ 64 := fun hk i => by
    obtain ⟨h1, _, _, _, _, h2, h3⟩ := hA hk
    by_cases hi : i < s.par.length
    · have hok := stCheck_okPar s h1 i hi
      have hinc := stCheck_inc s h1 i hi
      have := asc_len (s.par.getD i []) hinc 64 (fun x hx => by
        have := hok x (by rwa [getD_lt _ _ _ hi] at hx)
        omega)
      omega
    · rw [getD_ge _ _ _ (by omega)]; simp
  repeat' (first|(apply OK_seq)|(apply thenQ_n)|(apply OK_region)|(apply OKx_gc 40;exact rfl; refine OKx_callV (f := 40) rfl rfl rfl (fun w1 hp => chk36_sat _ s _ w1 (hst.below hp.below)) ?_)|(apply OKx_gc 48;exact rfl; refine OKx_callB (f := 48) (b := hasI (s.par.getD c.toNat []) p) rfl rfl rfl (fun w1 hp => contains_int_sat _ _ _ w1 ((hrow c.toNat).below hp.below)) ?_ ?_ <;> intro hq)|(apply OKx_gc 49;exact rfl; refine OKx_call (f := 49) rfl rfl (fun w1 hp => clone_row_sat _ s.par.length vs w1 hvl (hsl.below hp.below) hone (by omega) (by omega)) ?_; rintro _ _ ⟨gc, cc, rfl, rfl⟩)|(apply OKx_gc 50;exact rfl; refine OKx_call (f := 50) rfl rfl (fun w1 hp => clone_int_sat _ (s.par.getD c.toNat []) w1 ((hrow c.toNat).below hp.below) (by have := hC (by omega) c.toNat;omega)) ?_; rintro vo _ rfl)|(apply OKx_gb; refine OKx_appI 1 0 rfl rfl rfl rfl (by have := hC (by omega) c.toNat;omega) (by have := hC (by omega) c.toNat;omega) ?_; intro g2 c2)|(apply OKx_gc 44;exact rfl; refine OKx_callL (f := 44) rfl rfl (sort_int_sat g2 c2 _ (s.par.getD c.toNat [] ++ [p]) _ _ 1 (by simp) rfl (by have := hC (by omega) c.toNat;omega)) ?_; rintro _ _ ⟨rfl, rfl⟩)|(apply OKx_gs; refine OKx_stW 2 rfl rfl rfl rfl rfl (by omega) rfl rfl ?_)|(apply OKx_nilK)|(apply OK_block)|(apply blockQ_n)|(apply blockQ_s)|(apply thenQ_e)|(apply blockQ_e;exact rfl)|(apply thenQ_r)|(apply blockQ_r)|(apply OK_condT;exact rfl)|(apply OK_condF;exact rfl)|(apply OK_skip)|(apply OK_exit)|(apply OK_ret)|(apply OKx_move;(conv=>lhs;whnf)<;>exact rfl)|(apply OKx_assign;(conv=>lhs;whnf)<;>exact rfl)|(apply OKx_ldB;exact rfl;(first | exact at0|exact at1|exact at2|exact at3|exact at4|exact at5|exact at6|exact at7);exact rfl)|(apply OKx_ldR;(conv=>lhs;whnf)<;>exact rfl;(with_reducible assumption))|(apply OKx_ldI;exact rfl;(first | exact at0|exact at1|exact at2|exact at3|exact at4|exact at5|exact at6|exact at7);omega)|(apply OKx_len;exact rfl)|(apply OKx_lenR;(conv=>lhs;whnf)<;>exact rfl;(with_reducible assumption))|(apply OKx_lenR2;(conv=>lhs;whnf)<;>exact rfl;(with_reducible assumption))|(apply OKx_lenO;(conv=>lhs;whnf)<;>exact rfl;(first | exact at0|exact at1|exact at2|exact at3|exact at4|exact at5|exact at6|exact at7))|(apply OKx_lss;exact rfl;exact rfl;all_goals (intro _; try (exfalso;omega)))|(apply OKx_geq;exact rfl;exact rfl;all_goals (intro _; try (exfalso;omega)))|(apply OKx_neq;exact rfl;exact rfl;all_goals (intro _; try (exfalso;omega)))|(apply OKx_idxO;exact rfl;exact rfl;omega)|(apply OKx_idxR;(conv=>lhs;whnf)<;>exact rfl;(with_reducible assumption);exact rfl;omega;intro _ _)|(apply OKx_idxOz;exact rfl;exact rfl;omega;omega)|(apply OKx_idxRz;(conv=>lhs;whnf)<;>exact rfl;(with_reducible assumption);exact rfl;omega;omega;intro _ _)|(apply OKx_fldO;exact rfl;exact rfl)|(apply OKx_fldR;(conv=>lhs;whnf)<;>exact rfl;(with_reducible assumption); decide;intro _ _)|(apply OKx_inc;exact rfl;exact rfl;omega)|(apply OKx_addN;exact rfl;exact rfl;omega)|(apply OKx_add;exact rfl;exact rfl;omega;omega)|(apply OKx_boxA;exact rfl;intro _)|(apply OKx_allocA;intro _)|(apply OKx_ldBA;exact rfl;(first | exact at0|exact at1|exact at2|exact at3|exact at4|exact at5|exact at6|exact at7);exact rfl)|(apply OKx_ldRA;(conv=>lhs;whnf)<;>exact rfl;(with_reducible assumption))|(apply OKx_stB;exact rfl;(conv=>lhs;whnf)<;>exact rfl;exact rfl;exact rfl;(first | exact at0|exact at1|exact at2|exact at3|exact at4|exact at5|exact at6|exact at7);exact rfl;exact rfl;exact rfl)|(apply OKx_slit1;(conv=>lhs;whnf)<;>exact rfl;exact rfl;intro _)|(apply OKx_slit2;(conv=>lhs;whnf)<;>exact rfl;(conv=>lhs;whnf)<;>exact rfl;exact rfl;exact rfl;intro _)|(apply OKx_stBA; kernel_rfl;exact rfl;exact rfl;exact rfl;(first | exact at0|exact at1|exact at2|exact at3|exact at4|exact at5|exact at6|exact at7);exact rfl;exact rfl;exact rfl)|(apply OKx_build0))
  · rename_i hne
    refine bodyR_r2 (by first | exact resIs_tmp (by ((conv=>lhs;whnf)<;>exact rfl)) | exact resIs_cellA 0 rfl rfl rfl | exact resIs_cellA 1 rfl rfl rfl | exact resIs_cellA 2 rfl rfl rfl | exact resIs_cellA 3 rfl rfl rfl | exact resIs_cellA 4 rfl rfl rfl | exact resIs_cellA 5 rfl rfl rfl | exact resIs_cellA 6 rfl rfl rfl | exact resIs_cellA 7 rfl rfl rfl | exact resIs_cellA 8 rfl rfl rfl | exact resIs_cellA 9 rfl rfl rfl) (by first | exact resIs_tmp (by ((conv=>lhs;whnf)<;>exact rfl)) | exact resIs_cellA 0 rfl rfl rfl | exact resIs_cellA 1 rfl rfl rfl | exact resIs_cellA 2 rfl rfl rfl | exact resIs_cellA 3 rfl rfl rfl | exact resIs_cellA 4 rfl rfl rfl | exact resIs_cellA 5 rfl rfl rfl | exact resIs_cellA 6 rfl rfl rfl | exact resIs_cellA 7 rfl rfl rfl | exact resIs_cellA 8 rfl rfl rfl | exact resIs_cellA 9 rfl rfl rfl) ?_
    have he := extE_chk k (by omega) H rfl hne
    exact ⟨_, Ent.nil, .inl ⟨by rw [he]; exact hne, by rw [he], rfl⟩⟩
  · rename_i hz
    refine ⟨by (repeat' (first | refine agree_upd rfl ?_ | exact agree_over | exact agree_refl _ _ | refine agree_over2 rfl ?_)), m - 1, _, by omega, Ent.refl _ _, ?_⟩
    refine ⟨k + 1, by omega, rfl, fun j hj => ?_, rfl⟩
    by_cases hjk : j < k
    · exact H j hjk
    · obtain rfl : j = k := by omega
      exact hz
  · refine bodyR_r2 (by first | exact resIs_tmp (by ((conv=>lhs;whnf)<;>exact rfl)) | exact resIs_cellA 0 rfl rfl rfl | exact resIs_cellA 1 rfl rfl rfl | exact resIs_cellA 2 rfl rfl rfl | exact resIs_cellA 3 rfl rfl rfl | exact resIs_cellA 4 rfl rfl rfl | exact resIs_cellA 5 rfl rfl rfl | exact resIs_cellA 6 rfl rfl rfl | exact resIs_cellA 7 rfl rfl rfl | exact resIs_cellA 8 rfl rfl rfl | exact resIs_cellA 9 rfl rfl rfl) (by first | exact resIs_tmp (by ((conv=>lhs;whnf)<;>exact rfl)) | exact resIs_cellA 0 rfl rfl rfl | exact resIs_cellA 1 rfl rfl rfl | exact resIs_cellA 2 rfl rfl rfl | exact resIs_cellA 3 rfl rfl rfl | exact resIs_cellA 4 rfl rfl rfl | exact resIs_cellA 5 rfl rfl rfl | exact resIs_cellA 6 rfl rfl rfl | exact resIs_cellA 7 rfl rfl rfl | exact resIs_cellA 8 rfl rfl rfl | exact resIs_cellA 9 rfl rfl rfl) ?_
    have h2 := hA (by omega)
    have he : extE s c p = 10 := by unfold extE; rw [if_neg (by rw [h2.1]; simp), if_neg (by omega), if_pos (by omega)]
    exact ⟨_, Ent.nil, .inl ⟨by rw [he]; decide, by rw [he], rfl⟩⟩
  · refine bodyR_r2 (by first | exact resIs_tmp (by ((conv=>lhs;whnf)<;>exact rfl)) | exact resIs_cellA 0 rfl rfl rfl | exact resIs_cellA 1 rfl rfl rfl | exact resIs_cellA 2 rfl rfl rfl | exact resIs_cellA 3 rfl rfl rfl | exact resIs_cellA 4 rfl rfl rfl | exact resIs_cellA 5 rfl rfl rfl | exact resIs_cellA 6 rfl rfl rfl | exact resIs_cellA 7 rfl rfl rfl | exact resIs_cellA 8 rfl rfl rfl | exact resIs_cellA 9 rfl rfl rfl) (by first | exact resIs_tmp (by ((conv=>lhs;whnf)<;>exact rfl)) | exact resIs_cellA 0 rfl rfl rfl | exact resIs_cellA 1 rfl rfl rfl | exact resIs_cellA 2 rfl rfl rfl | exact resIs_cellA 3 rfl rfl rfl | exact resIs_cellA 4 rfl rfl rfl | exact resIs_cellA 5 rfl rfl rfl | exact resIs_cellA 6 rfl rfl rfl | exact resIs_cellA 7 rfl rfl rfl | exact resIs_cellA 8 rfl rfl rfl | exact resIs_cellA 9 rfl rfl rfl) ?_
    have h2 := hA (by omega)
    have he : extE s c p = 7 := by unfold extE; rw [if_neg (by rw [h2.1]; simp), if_neg (by omega), if_neg (by omega), if_pos hq]
    exact ⟨_, Ent.nil, .inl ⟨by rw [he]; decide, by rw [he], rfl⟩⟩
  · have h2 := hA (by omega)
    have he : extE s c p = 0 := by unfold extE; rw [if_neg (by rw [h2.1]; simp), if_neg (by omega), if_neg (by omega), if_neg (by rw [hq]; simp)]
    have hcl : c.toNat < s.par.length := by omega
    have hcn := hC (by omega) c.toNat
    have hsr : srtL (s.par.getD c.toNat [] ++ [p]) = extP s c p := srt_eq _ _ (stCheck_inc s h2.1 _ hcl) (fun x hx => by
      have := stCheck_okPar s h2.1 c.toNat hcl x (by rwa [getD_lt _ _ _ hcl] at hx)
      omega) (by omega) (fun h => by rw [show hasI (s.par.getD c.toNat []) p = true by simpa [hasI] using h] at hq; cases hq)
    refine bodyR_r2 (by first | exact resIs_tmp (by ((conv=>lhs;whnf)<;>exact rfl)) | exact resIs_cellA 0 rfl rfl rfl | exact resIs_cellA 1 rfl rfl rfl | exact resIs_cellA 2 rfl rfl rfl | exact resIs_cellA 3 rfl rfl rfl | exact resIs_cellA 4 rfl rfl rfl | exact resIs_cellA 5 rfl rfl rfl | exact resIs_cellA 6 rfl rfl rfl | exact resIs_cellA 7 rfl rfl rfl | exact resIs_cellA 8 rfl rfl rfl | exact resIs_cellA 9 rfl rfl rfl) (by first | exact resIs_tmp (by ((conv=>lhs;whnf)<;>exact rfl)) | exact resIs_cellA 0 rfl rfl rfl | exact resIs_cellA 1 rfl rfl rfl | exact resIs_cellA 2 rfl rfl rfl | exact resIs_cellA 3 rfl rfl rfl | exact resIs_cellA 4 rfl rfl rfl | exact resIs_cellA 5 rfl rfl rfl | exact resIs_cellA 6 rfl rfl rfl | exact resIs_cellA 7 rfl rfl rfl | exact resIs_cellA 8 rfl rfl rfl | exact resIs_cellA 9 rfl rfl rfl) ?_
    rw [hsr]
    exact ⟨_, Ent.refl _ _, .inr ⟨he, _, _, _, _, _, _, rfl, fun w1 hp => ⟨_, _, _, rfl, hS.below hp.below, hE.below hp.below, tabs_set c.toNat 2 1 hp hvl (by omega) rfl rfl (by omega) hint hcl⟩⟩⟩
end Go.Proofs.YtpfemholpigdeaaGreatDoor
namespace Go.Proofs.YtpfemholpigdeaaGreatDoor
open Go.RowKit
theorem Ent.pickT {w0 : World} (A X : List Res) (is : List Nat) (hn : nodupB is = true) : Ent w0 (A ++ X) (pickL A is ++ X) := Ent.mk fun w hp => by
  induction is with
  | nil => exact hp.sub (List.sublist_append_right A X)
  | cons i is ih =>
    have hm : memN i is = false := by
      cases hb : memN i is with
      | false => rfl
      | true => simp [nodupB, hb] at hn
    have ih := ih (by simpa [nodupB, hm] using hn)
    unfold pickL at ih ⊢
    rw [List.filterMap_cons]
    cases hi : A[i]? with
    | none => exact ih
    | some r =>
      have hil := (List.getElem?_eq_some_iff.1 hi).1
      have hi' : (A ++ X)[i]? = some r := by rw [List.getElem?_append_left hil]; exact hi
      refine ih.cons (hp.ok r (List.mem_of_getElem? hi')) fun s hs => ?_
      rcases List.mem_append.1 hs with hs | hs
      · obtain ⟨j, hj, hjs⟩ := List.mem_filterMap.1 hs
        have hjl := (List.getElem?_eq_some_iff.1 hjs).1
        have hij : i ≠ j := by
          rintro rfl
          have := (memN_iff i is).2 hj
          rw [hm] at this; cases this
        exact hp.apart hij hi' (j := j) (by rw [List.getElem?_append_left hjl]; exact hjs)
      · obtain ⟨j, hj, rfl⟩ := List.getElem_of_mem hs
        exact hp.apart (i := i) (j := A.length + j) (by omega) hi' (by rw [List.getElem?_append_right (by omega)]; simp [hj])
end Go.Proofs.YtpfemholpigdeaaGreatDoor
namespace Go.Proofs.YtpfemholpigdeaaGreatDoor
open Go.RowKit
def maskS (n : Nat) (S : List Nat) : Array Bool := ((List.range n).map fun i => memN i S).toArray
section
variable {P : Program} {n : Nat} {w0 : World} {Q : Exit → Fm → List Res → Prop} {K : Fm → List Res → Prop} {F : Fm} {L : List Res} {l : List Oper} {N f : Nat} {S : List Nat}
def OKa (P : Program) (n : Nat) (w0 : World) (K : Fm → List Res → Prop) (l : List Oper) (N f : Nat) (S : List Nat) (F : Fm) (L : List Res) : Prop :=
  ∀ w a, Fr n a F → Hp w0.heap.size w0 w L → wpAny P .any l.toArray (liftN n w0 K) f (maskS N S) a w
theorem OKa.use (h : OKa P n w0 K l N f S F L) : ∀ w a, Fr n a F → Hp w0.heap.size w0 w L → wpAny P .any l.toArray (liftN n w0 K) f (maskS N S) a w := h
theorem OKa_end (hr : (Region.ready .any l.toArray (maskS N S)).isEmpty = true) (h : K F L) : OKa P n w0 K l N 0 S F L :=
  fun w a hf hp => ⟨List.isEmpty_iff.1 hr, rfl, F, L, hf, hp, h⟩
def kidOk (l : List Oper) (N : Nat) (S : List Nat) (i : Nat) (S' : List Nat) : Bool := (maskS N S').toList == ((maskS N S).setIfInBounds i true).toList
theorem kidOk_eq {i : Nat} {S' : List Nat} (h : kidOk l N S i S' = true) : maskS N S' = (maskS N S).setIfInBounds i true := by
  unfold kidOk at h
  exact Array.toList_inj.1 (beq_iff_eq.1 h)
end
attribute [irreducible] OKa
end Go.Proofs.YtpfemholpigdeaaGreatDoor
namespace Go.Proofs.YtpfemholpigdeaaGreatDoor
open Go.RowKit
theorem SatY.mono {P : Program} {l : Nat} {args : List Value} {w0 : World} {L : List Res} {R R' : Value → List Res → Prop} (h : SatY P l args w0 L R) (hr : ∀ v L, R v L → R' v L) : SatY P l args w0 L R' :=
  fun w hp => let ⟨fn, t, as2, b, h1, h2⟩ := h w hp; ⟨fn, t, as2, b, h1, h2.mono fun e w' ⟨v, L', a, b, c⟩ => ⟨v, L', a, b, hr _ _ c⟩⟩
end Go.Proofs.YtpfemholpigdeaaGreatDoor
namespace Go.Proofs.YtpfemholpigdeaaGreatDoor
theorem getD_mem {α : Type} (l : List α) (i : Nat) (d : α) (h : i < l.length) : l.getD i d ∈ l := by
  rw [getD_lt _ _ _ h]
  exact List.getElem_mem h
end Go.Proofs.YtpfemholpigdeaaGreatDoor
namespace Go.Proofs.YtpfemholpigdeaaGreatDoor
open Go.RowKit
theorem Fr.yieldU {n : Nat} {F : Fm} {ops : Array Oper} {a : Act} (hf : Fr n a F) {j t : Nat} (hj : (ops[j]?).bind (·.dst) = some t) (hb : rv n F (.tmp t) = undef) : yielded ops a.tmps j = none := by
  have he := hf.eval
  have h1 : a.eval (.tmp t) = undef := by rw [he]; exact hb
  unfold yielded
  rw [hj]
  simp only [Option.bind_some]
  simp only [Act.eval, Frame.eval] at h1
  split
  · rename_i b h2
    simp [h2, undef] at h1
  · rfl
theorem OKx_guardU {P : Program} {n : Nat} {w0 : World} {K : Fm → List Res → Prop} {F : Fm} {L : List Res} {m : Md} {ops : Array Oper} {rest : List Oper} {d : Option Nat} {o : Op} {ty : TypeId} {pos : String} {aft : Array Edge} {j t : Nat} {b : Bool} (hj : (ops[j]?).bind (·.dst) = some t) (hb : rv n F (.tmp t) = undef)
    (h : OKx P n w0 m ops K rest (updo F d undef) L) : OKx P n w0 m ops K (⟨d, o, ty, pos, aft, some (j, b)⟩ :: rest) F L := by
  have key : ∀ a : Act, Fr n a F → Region.wanted (⟨d, o, ty, pos, aft, some (j, b)⟩ : Oper) (yielded ops a.tmps) = false := by
    intro a hf
    simp only [Region.wanted, Fr.yieldU hf hj hb]
    cases b <;> rfl
  unfold OKx at h ⊢
  cases m with
  | seq Lw =>
    intro w a hf hp
    have h1 := h w _ (hf.put d undef) hp
    refine ⟨h1.cls, ?_⟩
    rw [key a hf]
    exact h1
  | quiet =>
    intro a hf
    unfold wpQuiet
    rw [key a hf]
    exact h _ (hf.put d undef)
  | pure =>
    intro a hf
    unfold wpPure
    rw [key a hf]
    exact h _ (hf.put d undef)
theorem OKx_bneq {P : Program} {n : Nat} {w0 : World} {K : Fm → List Res → Prop} {F : Fm} {L : List Res} {m : Md} {ops : Array Oper} {rest : List Oper} {d : Option Nat} {ty : TypeId} {pos : String} {aft : Array Edge} {t ut : TypeId} {x y : Operand} {a b : Bool}
    (ht : P.underlying t = some .bool) (hx : rv n F x = .bool a) (hy : rv n F y = .bool b) (kk : OKx P n w0 m ops K rest (updo F d (.bool (!(a == b)))) L) : OKx P n w0 m ops K (⟨d, .binOp .neq t x y ut, ty, pos, aft, none⟩ :: rest) F L :=
  OKx_still (fun w _ _ _ _ _ => by
    have hg : (eqGuard .neq t x y (.bool a) (.bool b)).run P w = .ok () w := by simp [eqGuard]
    have h := run_neq_bool (P := P) (w := w) t a b ht
    simp [execOp, hx, hy, Sem.run_bind, hg, h, Result.andThen]) kk
theorem OKx_beq {P : Program} {n : Nat} {w0 : World} {K : Fm → List Res → Prop} {F : Fm} {L : List Res} {m : Md} {ops : Array Oper} {rest : List Oper} {d : Option Nat} {ty : TypeId} {pos : String} {aft : Array Edge} {t ut : TypeId} {x y : Operand} {a b : Bool}
    (ht : P.underlying t = some .bool) (hx : rv n F x = .bool a) (hy : rv n F y = .bool b) (kk : OKx P n w0 m ops K rest (updo F d (.bool (a == b))) L) : OKx P n w0 m ops K (⟨d, .binOp .eql t x y ut, ty, pos, aft, none⟩ :: rest) F L :=
  OKx_still (fun w _ _ _ _ _ => by
    have hg : (eqGuard .eql t x y (.bool a) (.bool b)).run P w = .ok () w := by simp [eqGuard]
    have h := run_eql_bool (P := P) (w := w) t a b ht
    simp [execOp, hx, hy, Sem.run_bind, hg, h, Result.andThen]) kk
end Go.Proofs.YtpfemholpigdeaaGreatDoor
namespace Go.Proofs.YtpfemholpigdeaaGreatDoor
open Go.RowKit
theorem SatL.post {P : Program} {f : FuncId} {args : List Value} {w0 : World} {L : List Res} {R R' : Value → List Res → Prop} (h : SatL P f args w0 L R) (hr : ∀ v L', R v L' → ∃ L'', Ent w0 L' L'' ∧ R' v L'') : SatL P f args w0 L R' :=
  ⟨h.enters, fun w hp => (h.calls w hp).mono fun e w' ⟨v, L', h1, h2, h3⟩ => by
    obtain ⟨L'', e', h4⟩ := hr v L' h3
    exact ⟨v, L'', h1, e'.use _ h2, h4⟩⟩
end Go.Proofs.YtpfemholpigdeaaGreatDoor
namespace Go.Proofs.YtpfemholpigdeaaGreatDoor
open Go.RowKit
section
variable {P : Program} {n : Nat} {w0 : World} {K : Fm → List Res → Prop} {F : Fm} {L : List Res} {m : Md} {Lw : List Res} {ops : Array Oper} {rest : List Oper}
  {d : Option Nat} {ty : TypeId} {pos : String} {aft : Array Edge}
theorem OKx_idxA {t len e : Nat} {z : Value} [T : TOne P e z] (hu : P.underlying t = some (.array len e)) {x ix : Operand} {g o : Nat} {k : IntKind} {i : Nat} (hx : rv n F x = .pointer (some ⟨g, o, none⟩)) (hix : rv n F ix = .int k (i : Int)) (h1 : i < len)
    (kk : OKx P n w0 m ops K rest (updo F d (.pointer (some ⟨g, o + i, none⟩))) L) : OKx P n w0 m ops K (⟨d, .indexAddr t x ix, ty, pos, aft, none⟩ :: rest) F L :=
  OKx_still (fun w _ _ _ _ _ => by
    have hu' : (underlying t).run P w = .ok (.array len e) w := by simp [underlying, program, Sem.run_bind, Sem.run, hu, Result.andThen]
    simp [execOp, Instr.indexAt, hx, hix, asIntOf, Sem.run_bind, hu', T.size, Result.andThen, Instr.sureAddr, h1, add_at]) kk
theorem OKx_idxAz {t len e : Nat} {z : Value} [T : TOne P e z] (hu : P.underlying t = some (.array len e)) {x ix : Operand} {g o : Nat} {k : IntKind} {i : Int} (hx : rv n F x = .pointer (some ⟨g, o, none⟩)) (hix : rv n F ix = .int k i) (h0 : 0 ≤ i) (h1 : i < len)
    (kk : OKx P n w0 m ops K rest (updo F d (.pointer (some ⟨g, o + i.toNat, none⟩))) L) : OKx P n w0 m ops K (⟨d, .indexAddr t x ix, ty, pos, aft, none⟩ :: rest) F L := by
  obtain ⟨j, rfl⟩ := Int.eq_ofNat_of_zero_le h0
  exact OKx_idxA hu hx hix (by omega) kk
end
end Go.Proofs.YtpfemholpigdeaaGreatDoor
namespace Go.Proofs.YtpfemholpigdeaaGreatDoor
open Go.RowKit
theorem getD_snoc {α : Type} (l : List α) (a d : α) (j : Nat) : (l ++ [a]).getD j d = if j < l.length then l.getD j d else if j = l.length then a else d := by
  by_cases h : j < l.length
  · rw [if_pos h]; simp [List.getD_eq_getElem?_getD, List.getElem?_append_left h]
  · rw [if_neg h]
    by_cases h2 : j = l.length
    · subst h2; simp
    · rw [if_neg h2, getD_ge _ _ _ (by simp;omega)]
end Go.Proofs.YtpfemholpigdeaaGreatDoor
