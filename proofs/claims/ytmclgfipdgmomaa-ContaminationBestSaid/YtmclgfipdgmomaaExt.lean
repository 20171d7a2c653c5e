/-
  A stemma with a further exemplar: stemma.Extend and its reference. No statement of the seat is proved here.
-/
import Derived.Test.YtmclgfipdgmomaaFx
import Derived.Test.YtmclgfipdgmomaaStp
import Derived.Test.YtmclgfipdgmomaaStemR
namespace Go.Proofs.Ytmclgfipdgmomaa
open Go.RowKit

set_option maxRecDepth 100000 in
set_option maxHeartbeats 4000000 in
theorem stCheck_sat (v : Value) (s : Stem) (w : World) (h : Stm w v s) : SatV Try.prog 48 [v] w (.int .i64 (stCheck s)) :=
  Sat.lib ⟨_, _, Try.func48, by kernel_rfl, rfl⟩ fun w1 hb => (stCheck_any v s w1 (h.below hb)).mono fun e w' ⟨h1, h2⟩ => ⟨_, [], h1, h2, rfl, rfl⟩
set_option maxRecDepth 100000 in
set_option maxHeartbeats 4000000 in
theorem rstCheck_sat (v : Value) (s : Stem) (w : World) (h : Stm w v s) : SatV Try.prog 36 [v] w (.int .i64 (stCheck s)) :=
  Sat.lib ⟨_, _, Try.func36, by kernel_rfl, rfl⟩ fun w1 hb => (rstCheck_any v s w1 (h.below hb)).mono fun e w' ⟨h1, h2⟩ => ⟨_, [], h1, h2, rfl, rfl⟩
set_option maxRecDepth 100000 in
set_option maxHeartbeats 4000000 in
theorem has36_sat (v : Value) (xs : List Int) (n : Int) (w : World) (h : Ints w v xs) : SatV Try.prog 100 [v, .int .i64 n] w (.bool (hasI xs n)) :=
  Sat.lib ⟨_, _, Try.func100, by kernel_rfl, rfl⟩ fun w1 hb => (has36_any v xs n w1 (h.below hb)).mono fun e w' ⟨h1, h2⟩ => ⟨_, [], h1, by subst h2; exact Hp.refl _, rfl, rfl⟩

set_option maxRecDepth 100000 in
set_option maxHeartbeats 4000000 in
theorem sorted_sat (v : Value) (xs : List Int) (w : World) (h : Ints w v xs) : Sat Try.prog 101 [v] w (fun u L => L = [irow u (srtK xs 64)]) := by
  refine SatL.of 18 [2] Try.func101 (by kernel_rfl) (by kernel_rfl) rfl rfl rfl rfl ?_
  repeat' (first | (apply OK_seq) | (apply thenQ_n) | (apply OK_region) | (apply OKx_nilK) | (apply OK_block) | (apply blockQ_n) | (apply blockQ_s) | (apply thenQ_e) | (apply blockQ_e; (focus exact rfl)) | (apply thenQ_r) | (apply blockQ_r) | (apply OK_condT; (focus exact rfl)) | (apply OK_condF; (focus exact rfl)) | (apply OK_skip) | (apply OK_exit) | (apply OK_ret) | (apply OKx_move; (focus ((conv => lhs; whnf) <;> exact rfl))) | (apply OKx_assign; (focus ((conv => lhs; whnf) <;> exact rfl))) | (apply OKx_lss; (focus exact rfl); (focus exact rfl); all_goals (intro _; try (exfalso; omega))) | (apply OKx_inc; (focus exact rfl); (focus exact rfl); (focus omega)) | (apply OKx_addN; (focus exact rfl); (focus exact rfl); (focus omega)) | (apply OKx_add; (focus exact rfl); (focus exact rfl); (focus omega); (focus omega)) | (apply OKx_slit1; (focus ((conv => lhs; whnf) <;> exact rfl)); (focus exact rfl); intro _) | (apply OKx_slit0; intro _))
  rename_i g0
  refine OK_loop2 3 4 [3, 4, 6, 7, 8, 9, 10, 11, 12, 13, 14, 15, 16] (fun m u v L => ∃ (k g c : Nat), k + m = 64 ∧ u = .slice (some ⟨g, 0, none⟩) (srtK xs k).length c ∧ v = .int .i64 (k : Int) ∧ L = [irow (.slice (some ⟨g, 0, none⟩) (srtK xs k).length c) (srtK xs k)]) 64 _ (Ent.refl _ _) ⟨0, g0, 0, by omega, rfl, rfl, rfl⟩ ?_
  rintro m u v L G ⟨k, g, c, hm, rfl, rfl, rfl⟩
  have hs := srtK_step xs k
  have hl := srtK_len xs k
  generalize hys : srtK xs k = ys at *
  repeat' (first | (apply OK_seq) | (apply thenQ_n) | (apply OK_region) | (refine OKx_callB (f := 100) rfl rfl rfl (fun w1 hp => has36_sat _ xs _ w1 (h.below hp.below)) ?_ ?_ <;> intro hq) | (refine OKx_appI 1 0 rfl rfl rfl rfl (by omega) (by omega) ?_; intro g2 c2) | (apply OKx_nilK) | (apply OK_block) | (apply blockQ_n) | (apply blockQ_s) | (apply thenQ_e) | (apply blockQ_e; (focus exact rfl)) | (apply thenQ_r) | (apply blockQ_r) | (apply OK_condT; (focus exact rfl)) | (apply OK_condF; (focus exact rfl)) | (apply OK_skip) | (apply OK_exit) | (apply OK_ret) | (apply OKx_move; (focus ((conv => lhs; whnf) <;> exact rfl))) | (apply OKx_assign; (focus ((conv => lhs; whnf) <;> exact rfl))) | (apply OKx_lss; (focus exact rfl); (focus exact rfl); all_goals (intro _; try (exfalso; omega))) | (apply OKx_inc; (focus exact rfl); (focus exact rfl); (focus omega)) | (apply OKx_addN; (focus exact rfl); (focus exact rfl); (focus omega)) | (apply OKx_add; (focus exact rfl); (focus exact rfl); (focus omega); (focus omega)) | (apply OKx_slit1; (focus ((conv => lhs; whnf) <;> exact rfl)); (focus exact rfl); intro _) | (apply OKx_slit0; intro _))
  · rw [if_pos hq] at hs
    refine ⟨by (repeat' (first | refine agree_upd rfl ?_ | exact agree_over | exact agree_refl _ _ | refine agree_over2 rfl ?_)), m - 1, _, by omega, Ent.pick [1] rfl, ?_⟩
    exact ⟨k + 1, g2, c2, by omega, by rw [hs, List.length_append]; rfl, rfl, by rw [hs]; simp [pickL, irow]⟩
  · rw [if_neg (by rw [hq]; simp), List.append_nil] at hs
    refine ⟨by (repeat' (first | refine agree_upd rfl ?_ | exact agree_over | exact agree_refl _ _ | refine agree_over2 rfl ?_)), m - 1, _, by omega, Ent.refl _ _, ?_⟩
    exact ⟨k + 1, g, c, by omega, by rw [hs]; rfl, rfl, by rw [hs]⟩
  · obtain rfl : k = 64 := by omega
    first | refine bodyQ_r1 (by ((conv => lhs; whnf) <;> exact rfl)) ?_ | refine bodyQ_r2 (by ((conv => lhs; whnf) <;> exact rfl)) (by ((conv => lhs; whnf) <;> exact rfl)) ?_ | refine bodyQ_r3 (by ((conv => lhs; whnf) <;> exact rfl)) (by ((conv => lhs; whnf) <;> exact rfl)) (by ((conv => lhs; whnf) <;> exact rfl)) ?_ | refine bodyQ_r0 ?_ | refine bodyQ_n0 ?_
    exact ⟨_, Ent.refl _ _, by rw [hys]⟩

def chkI (s : Stem) (i : Int) : Int := if stCheck s ≠ 0 then 1 else if i < 0 ∨ (s.names.length : Int) ≤ i then 6 else 0
set_option maxRecDepth 100000 in
set_option maxHeartbeats 4000000 in
theorem chk36_sat (v : Value) (s : Stem) (i : Int) (w : World) (h : Stm w v s) : SatV Try.prog 73 [v, .int .i64 i] w (.int .i64 (chkI s i)) := by
  have hst := h
  obtain ⟨nv, ev, pv, rfl, hS, _, hP⟩ := h
  have hnv := hS.sl
  refine SatL.of 19 [4] Try.func73 (by kernel_rfl) (by kernel_rfl) rfl rfl rfl rfl ?_
  repeat' (first | (apply OK_seq) | (apply thenQ_n) | (apply OK_region) | refine OKx_callV (f := 48) rfl rfl rfl (fun w hp => stCheck_sat _ s w (hst.below hp.below)) ?_ | (apply OKx_nilK) | (apply OK_block) | (apply blockQ_n) | (apply blockQ_s) | (apply thenQ_e) | (apply blockQ_e; (focus exact rfl)) | (apply thenQ_r) | (apply blockQ_r) | (apply OK_condT; (focus exact rfl)) | (apply OK_condF; (focus exact rfl)) | (apply OK_skip) | (apply OK_exit) | (apply OK_ret) | (apply OKx_move; (focus ((conv => lhs; whnf) <;> exact rfl))) | (apply OKx_assign; (focus ((conv => lhs; whnf) <;> exact rfl))) | (apply OKx_ldB; (focus exact rfl); (focus first | exact at0 | exact at1 | exact at2 | exact at3 | exact at4 | exact at5 | exact at6 | exact at7); (focus exact rfl)) | (apply OKx_ldR; (focus ((conv => lhs; whnf) <;> exact rfl)); (focus with_reducible assumption)) | (apply OKx_len; (focus exact rfl)) | (apply OKx_lenR; (focus ((conv => lhs; whnf) <;> exact rfl)); (focus with_reducible assumption)) | (apply OKx_lenR2; (focus ((conv => lhs; whnf) <;> exact rfl)); (focus with_reducible assumption)) | (apply OKx_lenO; (focus ((conv => lhs; whnf) <;> exact rfl)); (focus first | exact at0 | exact at1 | exact at2 | exact at3 | exact at4 | exact at5 | exact at6 | exact at7)) | (apply OKx_lss; (focus exact rfl); (focus exact rfl); all_goals (intro _; try (exfalso; omega))) | (apply OKx_geq; (focus exact rfl); (focus exact rfl); all_goals (intro _; try (exfalso; omega))) | (apply OKx_neq; (focus exact rfl); (focus exact rfl); all_goals (intro _; try (exfalso; omega))) | (apply OKx_fldO; (focus exact rfl); (focus exact rfl)) | (apply OKx_fldR; (focus ((conv => lhs; whnf) <;> exact rfl)); (focus with_reducible assumption); (focus decide); intro _ _) | (apply OKx_pickT; (focus exact rfl); (focus ((conv => lhs; whnf) <;> exact rfl))) | (apply OKx_pickF; (focus exact rfl); (focus ((conv => lhs; whnf) <;> exact rfl))) | (apply OKx_guardT; (focus exact rfl); (focus exact rfl)) | (apply OKx_guardF; (focus exact rfl); (focus exact rfl)) | (apply OKx_guardU; (focus exact rfl); (focus exact rfl)) | (apply OKx_boxA; (focus exact rfl); intro _) | (apply OKx_ldBA; (focus exact rfl); (focus first | exact at0 | exact at1 | exact at2 | exact at3 | exact at4 | exact at5 | exact at6 | exact at7); (focus exact rfl)) | (apply OKx_ldRA; (focus ((conv => lhs; whnf) <;> exact rfl)); (focus with_reducible assumption)))
  all_goals
    first | refine bodyQ_r1 (by ((conv => lhs; whnf) <;> exact rfl)) ?_ | refine bodyQ_r2 (by ((conv => lhs; whnf) <;> exact rfl)) (by ((conv => lhs; whnf) <;> exact rfl)) ?_ | refine bodyQ_r3 (by ((conv => lhs; whnf) <;> exact rfl)) (by ((conv => lhs; whnf) <;> exact rfl)) (by ((conv => lhs; whnf) <;> exact rfl)) ?_ | refine bodyQ_r0 ?_ | refine bodyQ_n0 ?_
    exact ⟨_, Ent.nil, int_eq (by unfold chkI; split <;> (try split) <;> omega), rfl⟩

/-- Why a further exemplar is none. -/
def extE (s : Stem) (c p : Int) : Int :=
  if stCheck s ≠ 0 then 1 else if c < 0 ∨ (s.names.length : Int) ≤ c ∨ p < 0 ∨ (s.names.length : Int) ≤ p then 6 else if c ≤ p then 10 else if hasI (s.par.getD c.toNat []) p = true then 7 else 0
def extP (s : Stem) (c p : Int) : List Int := srtK (p :: s.par.getD c.toNat []) 64
def extS (s : Stem) (c p : Int) : Stem := ⟨s.names, s.ext, s.par.set c.toNat (extP s c p)⟩
def ExtR (s : Stem) (c p : Int) (w0 : World) (u : Value) (L : List Res) : Prop :=
  (extE s c p ≠ 0 ∧ u = .tuple #[.agg #[.slice none 0 0, .slice none 0 0, .slice none 0 0], .int .i64 (extE s c p)] ∧ L = []) ∨
  (extE s c p = 0 ∧ ∃ na nc ea ec pa pc, u = .tuple #[.agg #[.slice na s.names.length nc, .slice ea s.ext.length ec, .slice pa s.par.length pc], .int .i64 0] ∧ ∀ w, Hp w0.heap.size w0 w L → Stm w (.agg #[.slice na s.names.length nc, .slice ea s.ext.length ec, .slice pa s.par.length pc]) (extS s c p))

theorem tabs_set {w0 w : World} {L : List Res} {vs : List Value} {par : List (List Int)} {v own : Value} {xs : List Int} {T T2 : TypeId} {nx : Nat} (c i j : Nat) (hp : Hp w0.heap.size w0 w L) (hl : vs.length = par.length) (hn : par.length ≤ 1000000)
    (hi : L[i]? = some (.row T 1 v par.length (vs.set c own))) (hj : L[j]? = some (.row T2 1 own nx (ints xs))) (hx : nx ≤ 1000000) (hv : ∀ k, (h : k < par.length) → Ints w0 (vs.getD k undef) par[k]) (hc : c < par.length) : Tabs w v (par.set c xs) := by
  refine ⟨vs.set c own, ?_, by simp [hl], fun k hk => ?_⟩
  · rw [List.length_set]
    refine hp.sl i hi (by omega) fun k hk => ?_
    rw [Nat.mul_one] at hk
    rw [List.getD_eq_getElem?_getD, List.getElem?_eq_getElem (by rw [List.length_set]; omega)]
    rfl
  · rw [List.length_set] at hk
    by_cases h : c = k
    · subst h
      have := hp.ints j hj (by omega)
      rw [List.getElem_set_self]
      simpa [hl, hc] using this
    · rw [List.getElem_set_ne h]
      have := (hv k hk).below hp.below
      simpa [List.getD_eq_getElem?_getD, List.getElem?_set_ne h] using this
theorem srt_eq (xs : List Int) (p : Int) (hx : xs.Pairwise (· < ·)) (h0 : ∀ x ∈ xs, 0 ≤ x ∧ x < 64) (hp : 0 ≤ p ∧ p < 64) (hn : p ∉ xs) : srtL (xs ++ [p]) = srtK (p :: xs) 64 := by
  refine asc_ext _ _ (asc_of_le _ (srtL_le _) ?_) (srtK_asc _ _) fun x => ?_
  · refine (srtL_perm _).nodup_iff.2 ?_
    rw [List.nodup_append]
    refine ⟨hx.imp (fun h => by omega), by simp, ?_⟩
    intro a ha b hb e
    subst e
    rw [List.mem_singleton] at hb
    subst hb
    exact hn ha
  · rw [srtL_mem, srtK_mem, List.mem_append, List.mem_singleton, List.mem_cons]
    constructor
    · rintro (h | rfl)
      · exact ⟨.inr h, h0 x h⟩
      · exact ⟨.inl rfl, hp⟩
    · rintro ⟨rfl | h, _⟩
      · exact .inr rfl
      · exact .inl h
set_option maxRecDepth 100000 in
set_option maxHeartbeats 4000000 in
theorem clone_row_sat (v : Value) (N : Nat) (vs : List Value) (w : World) (hl : vs.length = N) (h : Sl w v 1 N (fun j => vs.getD j undef)) (h1 : ∀ u ∈ vs, u.oneCell' = true) (h0 : 0 < N) (h8 : N ≤ 1000000) :
    Sat Try.prog 33 [v] w (fun u L => ∃ g c, u = .slice (some ⟨g, 0, none⟩) N c ∧ L = [.row 27 1 u N vs]) := by
  obtain ⟨_, ⟨a, cap, rfl, hc⟩, _⟩ := h
  rcases hc with hc | ⟨b, off, rfl, hc⟩
  · omega
  refine SatL.of 8 [2] Try.func33 (by kernel_rfl) (by kernel_rfl) rfl rfl rfl rfl ?_
  repeat' (first | (apply OK_seq) | (apply thenQ_n) | (apply OK_region) | (apply OKx_eqNilF; (focus exact rfl); (focus exact rfl)) | (refine OKx_append 0 (M := N) (ys := vs) rfl rfl rfl (by omega) (fun w1 hp j u hj => ?_) h1 (by omega) (by omega) h0 ?_; rotate_left; intro g c) | (apply OKx_nilK) | (apply OK_block) | (apply blockQ_n) | (apply blockQ_s) | (apply thenQ_e) | (apply blockQ_e; (focus exact rfl)) | (apply thenQ_r) | (apply blockQ_r) | (apply OK_condT; (focus exact rfl)) | (apply OK_condF; (focus exact rfl)) | (apply OK_skip) | (apply OK_exit) | (apply OK_ret) | (apply OKx_move; (focus ((conv => lhs; whnf) <;> exact rfl))) | (apply OKx_assign; (focus ((conv => lhs; whnf) <;> exact rfl))) | (apply OKx_eql; (focus exact rfl); (focus exact rfl); all_goals (intro _; try (exfalso; omega))) | (apply OKx_slit0; intro _))
  · first | refine bodyQ_r1 (by ((conv => lhs; whnf) <;> exact rfl)) ?_ | refine bodyQ_r2 (by ((conv => lhs; whnf) <;> exact rfl)) (by ((conv => lhs; whnf) <;> exact rfl)) ?_ | refine bodyQ_r3 (by ((conv => lhs; whnf) <;> exact rfl)) (by ((conv => lhs; whnf) <;> exact rfl)) (by ((conv => lhs; whnf) <;> exact rfl)) ?_ | refine bodyQ_r0 ?_ | refine bodyQ_n0 ?_
    refine ⟨_, Ent.refl _ _, g, c, by rw [Nat.zero_add], ?_⟩
    rw [Nat.zero_add]
    rfl
  · have hj2 : j < vs.length := (List.getElem?_eq_some_iff.1 hj).1
    have h2 := hc j (by omega)
    rw [hp.below.cell (World.block_lt_of_cell? w _ h2), h2]
    simp [hj]
theorem chkI_zero {s : Stem} {i : Int} (h : chkI s i = 0) : stCheck s = 0 ∧ 0 ≤ i ∧ i < s.names.length := by
  unfold chkI at h
  split at h
  · omega
  · split at h
    · omega
    · omega
theorem extE_chk {s : Stem} {c p e : Int} (k : Nat) (hk : k < 2) (h : ∀ j, j < k → chkI s ([c, p].getD j 0) = 0) (he : chkI s ([c, p].getD k 0) = e) (h0 : e ≠ 0) : extE s c p = e := by
  subst he
  have hk2 : k = 0 ∨ k = 1 := by omega
  rcases hk2 with rfl | rfl
  · simp only [List.getD_cons_zero] at *
    unfold chkI at *
    unfold extE
    split at h0
    · rename_i h1; rw [if_pos h1, if_pos h1]
    · rename_i h1
      split at h0
      · rename_i h2; rw [if_neg h1, if_neg h1, if_pos h2, if_pos (by omega)]
      · omega
  · have h1 := chkI_zero (h 0 (by omega))
    simp only [List.getD_cons_zero, List.getD_cons_succ] at *
    unfold chkI at *
    unfold extE
    have h2 : ¬ stCheck s ≠ 0 := by rw [h1.1]; simp
    rw [if_neg h2] at h0 ⊢
    rw [if_neg h2]
    split at h0
    · rename_i h3; rw [if_pos h3, if_pos (by omega)]
    · omega
theorem one_of_ints {w : World} {u : Value} {xs : List Int} (h : Ints w u xs) : u.oneCell' = true ∧ u.cells = #[u] := by
  obtain ⟨a, c, rfl, _⟩ := h.at
  exact ⟨rfl, rfl⟩
set_option maxRecDepth 100000 in
set_option maxHeartbeats 4000000 in
theorem Extend_sat (v : Value) (s : Stem) (c p : Int) (wb w : World) (hb : Below wb.heap.size wb w) (h : Stm wb v s) : Sat Try.prog 42 [v, .int .i64 c, .int .i64 p] w (ExtR s c p wb) := by
  have hst := h.below hb
  obtain ⟨nv, ev, pv, rfl, hS, hE, hP⟩ := h
  obtain ⟨na, nc, rfl, _⟩ := hS.at
  obtain ⟨ea, ec, rfl, _⟩ := hE.at
  obtain ⟨pa, pc, rfl, _⟩ := hP.at
  have hP' := hP.below hb
  obtain ⟨vs, hsl0, hvl, hint⟩ := hP
  have hsl := hsl0.below hb
  obtain ⟨fv, hpv, hrow⟩ := hP'.rows
  have hone : ∀ u ∈ vs, u.oneCell' = true := fun u hu => by
    obtain ⟨j, hj, rfl⟩ := List.getElem_of_mem hu
    have := (one_of_ints (hint j (by omega))).1
    rwa [getD_lt _ _ _ hj] at this
  refine SatL.ofR 65 [.cell 6 26, .tmp 7] Try.func42 (by kernel_rfl) (by kernel_rfl) rfl rfl rfl ?_
  repeat' (first | (apply OK_seq) | (apply thenQ_n) | (apply OK_region) | (apply OKx_nilK) | (apply OK_block) | (apply blockQ_n) | (apply blockQ_s) | (apply thenQ_e) | (apply blockQ_e; (focus exact rfl)) | (apply thenQ_r) | (apply blockQ_r) | (apply OK_condT; (focus exact rfl)) | (apply OK_condF; (focus exact rfl)) | (apply OK_skip) | (apply OK_exit) | (apply OK_ret) | (apply OKx_move; (focus ((conv => lhs; whnf) <;> exact rfl))) | (apply OKx_assign; (focus ((conv => lhs; whnf) <;> exact rfl))) | (apply OKx_ldB; (focus exact rfl); (focus first | exact at0 | exact at1 | exact at2 | exact at3 | exact at4 | exact at5 | exact at6 | exact at7); (focus exact rfl)) | (apply OKx_ldR; (focus ((conv => lhs; whnf) <;> exact rfl)); (focus with_reducible assumption)) | (apply OKx_ldI; (focus exact rfl); (focus first | exact at0 | exact at1 | exact at2 | exact at3 | exact at4 | exact at5 | exact at6 | exact at7); (focus omega)) | (apply OKx_len; (focus exact rfl)) | (apply OKx_lenR; (focus ((conv => lhs; whnf) <;> exact rfl)); (focus with_reducible assumption)) | (apply OKx_lenR2; (focus ((conv => lhs; whnf) <;> exact rfl)); (focus with_reducible assumption)) | (apply OKx_lenO; (focus ((conv => lhs; whnf) <;> exact rfl)); (focus first | exact at0 | exact at1 | exact at2 | exact at3 | exact at4 | exact at5 | exact at6 | exact at7)) | (apply OKx_lss; (focus exact rfl); (focus exact rfl); all_goals (intro _; try (exfalso; omega))) | (apply OKx_geq; (focus exact rfl); (focus exact rfl); all_goals (intro _; try (exfalso; omega))) | (apply OKx_neq; (focus exact rfl); (focus exact rfl); all_goals (intro _; try (exfalso; omega))) | (apply OKx_idxO; (focus exact rfl); (focus exact rfl); (focus omega)) | (apply OKx_idxR; (focus ((conv => lhs; whnf) <;> exact rfl)); (focus with_reducible assumption); (focus exact rfl); (focus omega); intro _ _) | (apply OKx_idxOz; (focus exact rfl); (focus exact rfl); (focus omega); (focus omega)) | (apply OKx_idxRz; (focus ((conv => lhs; whnf) <;> exact rfl)); (focus with_reducible assumption); (focus exact rfl); (focus omega); (focus omega); intro _ _) | (apply OKx_fldO; (focus exact rfl); (focus exact rfl)) | (apply OKx_fldR; (focus ((conv => lhs; whnf) <;> exact rfl)); (focus with_reducible assumption); (focus decide); intro _ _) | (apply OKx_inc; (focus exact rfl); (focus exact rfl); (focus omega)) | (apply OKx_addN; (focus exact rfl); (focus exact rfl); (focus omega)) | (apply OKx_add; (focus exact rfl); (focus exact rfl); (focus omega); (focus omega)) | (apply OKx_boxA; (focus exact rfl); intro _) | (apply OKx_allocA; intro _) | (apply OKx_ldBA; (focus exact rfl); (focus first | exact at0 | exact at1 | exact at2 | exact at3 | exact at4 | exact at5 | exact at6 | exact at7); (focus exact rfl)) | (apply OKx_ldRA; (focus ((conv => lhs; whnf) <;> exact rfl)); (focus with_reducible assumption)) | (apply OKx_stB; (focus exact rfl); (focus ((conv => lhs; whnf) <;> exact rfl)); (focus exact rfl); (focus exact rfl); (focus first | exact at0 | exact at1 | exact at2 | exact at3 | exact at4 | exact at5 | exact at6 | exact at7); (focus exact rfl); (focus exact rfl); (focus exact rfl)) | (apply OKx_slit1; (focus ((conv => lhs; whnf) <;> exact rfl)); (focus exact rfl); intro _) | (apply OKx_slit2; (focus ((conv => lhs; whnf) <;> exact rfl)); (focus ((conv => lhs; whnf) <;> exact rfl)); (focus exact rfl); (focus exact rfl); intro _) | (apply OKx_stBA; (focus kernel_rfl); (focus exact rfl); (focus exact rfl); (focus exact rfl); (focus first | exact at0 | exact at1 | exact at2 | exact at3 | exact at4 | exact at5 | exact at6 | exact at7); (focus exact rfl); (focus exact rfl); (focus exact rfl)))
  rename_i g3 g6 gl
  refine OK_loop1 17 [7, 9, 10, 17, 18, 19, 20, 21, 22, 23, 24, 25, 26, 27, 28] (fun m v L => ∃ k : Nat, k + m = 2 ∧ v = .int .i64 (k : Int) ∧ (∀ j, j < k → chkI s ([c, p].getD j 0) = 0) ∧ L = [.row 3 1 (.slice (some ⟨gl, 0, none⟩) 2 2) 2 (ints [c, p]), .box 26 g6 [.slice none 0 0, .slice none 0 0, .slice none 0 0], .box 26 g3 [.slice na s.names.length nc, .slice ea s.ext.length ec, .slice pa s.par.length pc]]) 2 _ (Ent.refl _ _) ⟨0, by omega, rfl, fun j hj => absurd hj (by omega), rfl⟩ ?_
  rintro m v L G ⟨k, hm, rfl, H, rfl⟩
  have hA : 2 ≤ k → stCheck s = 0 ∧ 0 ≤ c ∧ c < s.par.length ∧ 0 ≤ p ∧ p < s.par.length ∧ s.par.length = s.names.length ∧ s.par.length ≤ 64 := fun hk => by
    have h1 := chkI_zero (H 0 (by omega))
    have h2 := chkI_zero (H 1 (by omega))
    obtain ⟨_, h3, _, h4, _⟩ := stCheck_len s h1.1
    simp only [List.getD_cons_zero, List.getD_cons_succ] at h1 h2
    exact ⟨h1.1, by omega, by omega, by omega, by omega, h4, by omega⟩
  have hB : 2 ≤ k → 0 ≤ c ∧ c < s.par.length ∧ 0 ≤ p ∧ p < s.par.length ∧ s.par.length ≤ 64 := fun hk => by
    have := hA hk; omega
  have hC : 2 ≤ k → ∀ i, (s.par.getD i []).length ≤ 64 := fun hk i => by
    obtain ⟨h1, _, _, _, _, h2, h3⟩ := hA hk
    by_cases hi : i < s.par.length
    · have hok := stCheck_okPar s h1 i hi
      have hinc := stCheck_inc s h1 i hi
      have := asc_len (s.par.getD i []) hinc 64 (fun x hx => by
        have := hok x (by rwa [getD_lt _ _ _ hi] at hx)
        omega)
      omega
    · rw [getD_ge _ _ _ (by omega)]; simp
  repeat' (first | (apply OK_seq) | (apply thenQ_n) | (apply OK_region) | (refine OKx_callV (f := 73) rfl rfl rfl (fun w1 hp => chk36_sat _ s _ w1 (hst.below hp.below)) ?_) | (refine OKx_callB (f := 28) (b := hasI (s.par.getD c.toNat []) p) rfl rfl rfl (fun w1 hp => contains_int_sat _ _ _ w1 ((hrow c.toNat).below hp.below)) ?_ ?_ <;> intro hq) | (refine OKx_call (f := 33) rfl rfl (fun w1 hp => clone_row_sat _ s.par.length vs w1 hvl (hsl.below hp.below) hone (by omega) (by omega)) ?_; rintro _ _ ⟨gc, cc, rfl, rfl⟩) | (refine OKx_call (f := 30) rfl rfl (fun w1 hp => clone_int_sat _ (s.par.getD c.toNat []) w1 ((hrow c.toNat).below hp.below) (by have := hC (by omega) c.toNat; omega)) ?_; rintro vo _ rfl) | (refine OKx_appI 1 0 rfl rfl rfl rfl (by have := hC (by omega) c.toNat; omega) (by have := hC (by omega) c.toNat; omega) ?_; intro g2 c2) | (refine OKx_callL (f := 74) rfl rfl (sort_int_sat g2 c2 _ (s.par.getD c.toNat [] ++ [p]) _ _ 1 (by simp) rfl (by have := hC (by omega) c.toNat; omega)) ?_; rintro _ _ ⟨rfl, rfl⟩) | (refine OKx_stW 2 rfl rfl rfl rfl rfl (by omega) rfl rfl ?_) | (apply OKx_nilK) | (apply OK_block) | (apply blockQ_n) | (apply blockQ_s) | (apply thenQ_e) | (apply blockQ_e; (focus exact rfl)) | (apply thenQ_r) | (apply blockQ_r) | (apply OK_condT; (focus exact rfl)) | (apply OK_condF; (focus exact rfl)) | (apply OK_skip) | (apply OK_exit) | (apply OK_ret) | (apply OKx_move; (focus ((conv => lhs; whnf) <;> exact rfl))) | (apply OKx_assign; (focus ((conv => lhs; whnf) <;> exact rfl))) | (apply OKx_ldB; (focus exact rfl); (focus first | exact at0 | exact at1 | exact at2 | exact at3 | exact at4 | exact at5 | exact at6 | exact at7); (focus exact rfl)) | (apply OKx_ldR; (focus ((conv => lhs; whnf) <;> exact rfl)); (focus with_reducible assumption)) | (apply OKx_ldI; (focus exact rfl); (focus first | exact at0 | exact at1 | exact at2 | exact at3 | exact at4 | exact at5 | exact at6 | exact at7); (focus omega)) | (apply OKx_len; (focus exact rfl)) | (apply OKx_lenR; (focus ((conv => lhs; whnf) <;> exact rfl)); (focus with_reducible assumption)) | (apply OKx_lenR2; (focus ((conv => lhs; whnf) <;> exact rfl)); (focus with_reducible assumption)) | (apply OKx_lenO; (focus ((conv => lhs; whnf) <;> exact rfl)); (focus first | exact at0 | exact at1 | exact at2 | exact at3 | exact at4 | exact at5 | exact at6 | exact at7)) | (apply OKx_lss; (focus exact rfl); (focus exact rfl); all_goals (intro _; try (exfalso; omega))) | (apply OKx_geq; (focus exact rfl); (focus exact rfl); all_goals (intro _; try (exfalso; omega))) | (apply OKx_neq; (focus exact rfl); (focus exact rfl); all_goals (intro _; try (exfalso; omega))) | (apply OKx_idxO; (focus exact rfl); (focus exact rfl); (focus omega)) | (apply OKx_idxR; (focus ((conv => lhs; whnf) <;> exact rfl)); (focus with_reducible assumption); (focus exact rfl); (focus omega); intro _ _) | (apply OKx_idxOz; (focus exact rfl); (focus exact rfl); (focus omega); (focus omega)) | (apply OKx_idxRz; (focus ((conv => lhs; whnf) <;> exact rfl)); (focus with_reducible assumption); (focus exact rfl); (focus omega); (focus omega); intro _ _) | (apply OKx_fldO; (focus exact rfl); (focus exact rfl)) | (apply OKx_fldR; (focus ((conv => lhs; whnf) <;> exact rfl)); (focus with_reducible assumption); (focus decide); intro _ _) | (apply OKx_inc; (focus exact rfl); (focus exact rfl); (focus omega)) | (apply OKx_addN; (focus exact rfl); (focus exact rfl); (focus omega)) | (apply OKx_add; (focus exact rfl); (focus exact rfl); (focus omega); (focus omega)) | (apply OKx_boxA; (focus exact rfl); intro _) | (apply OKx_allocA; intro _) | (apply OKx_ldBA; (focus exact rfl); (focus first | exact at0 | exact at1 | exact at2 | exact at3 | exact at4 | exact at5 | exact at6 | exact at7); (focus exact rfl)) | (apply OKx_ldRA; (focus ((conv => lhs; whnf) <;> exact rfl)); (focus with_reducible assumption)) | (apply OKx_stB; (focus exact rfl); (focus ((conv => lhs; whnf) <;> exact rfl)); (focus exact rfl); (focus exact rfl); (focus first | exact at0 | exact at1 | exact at2 | exact at3 | exact at4 | exact at5 | exact at6 | exact at7); (focus exact rfl); (focus exact rfl); (focus exact rfl)) | (apply OKx_slit1; (focus ((conv => lhs; whnf) <;> exact rfl)); (focus exact rfl); intro _) | (apply OKx_slit2; (focus ((conv => lhs; whnf) <;> exact rfl)); (focus ((conv => lhs; whnf) <;> exact rfl)); (focus exact rfl); (focus exact rfl); intro _) | (apply OKx_stBA; (focus kernel_rfl); (focus exact rfl); (focus exact rfl); (focus exact rfl); (focus first | exact at0 | exact at1 | exact at2 | exact at3 | exact at4 | exact at5 | exact at6 | exact at7); (focus exact rfl); (focus exact rfl); (focus exact rfl)) | (apply OKx_build0))
  · rename_i hne
    first | refine bodyR_r1 (by first | exact resIs_tmp (by ((conv => lhs; whnf) <;> exact rfl)) | exact resIs_cellA 0 rfl rfl rfl | exact resIs_cellA 1 rfl rfl rfl | exact resIs_cellA 2 rfl rfl rfl | exact resIs_cellA 3 rfl rfl rfl | exact resIs_cellA 4 rfl rfl rfl | exact resIs_cellA 5 rfl rfl rfl | exact resIs_cellA 6 rfl rfl rfl | exact resIs_cellA 7 rfl rfl rfl | exact resIs_cellA 8 rfl rfl rfl | exact resIs_cellA 9 rfl rfl rfl) ?_ | refine bodyR_r2 (by first | exact resIs_tmp (by ((conv => lhs; whnf) <;> exact rfl)) | exact resIs_cellA 0 rfl rfl rfl | exact resIs_cellA 1 rfl rfl rfl | exact resIs_cellA 2 rfl rfl rfl | exact resIs_cellA 3 rfl rfl rfl | exact resIs_cellA 4 rfl rfl rfl | exact resIs_cellA 5 rfl rfl rfl | exact resIs_cellA 6 rfl rfl rfl | exact resIs_cellA 7 rfl rfl rfl | exact resIs_cellA 8 rfl rfl rfl | exact resIs_cellA 9 rfl rfl rfl) (by first | exact resIs_tmp (by ((conv => lhs; whnf) <;> exact rfl)) | exact resIs_cellA 0 rfl rfl rfl | exact resIs_cellA 1 rfl rfl rfl | exact resIs_cellA 2 rfl rfl rfl | exact resIs_cellA 3 rfl rfl rfl | exact resIs_cellA 4 rfl rfl rfl | exact resIs_cellA 5 rfl rfl rfl | exact resIs_cellA 6 rfl rfl rfl | exact resIs_cellA 7 rfl rfl rfl | exact resIs_cellA 8 rfl rfl rfl | exact resIs_cellA 9 rfl rfl rfl) ?_ | refine bodyR_r3 (by first | exact resIs_tmp (by ((conv => lhs; whnf) <;> exact rfl)) | exact resIs_cellA 0 rfl rfl rfl | exact resIs_cellA 1 rfl rfl rfl | exact resIs_cellA 2 rfl rfl rfl | exact resIs_cellA 3 rfl rfl rfl | exact resIs_cellA 4 rfl rfl rfl | exact resIs_cellA 5 rfl rfl rfl | exact resIs_cellA 6 rfl rfl rfl | exact resIs_cellA 7 rfl rfl rfl | exact resIs_cellA 8 rfl rfl rfl | exact resIs_cellA 9 rfl rfl rfl) (by first | exact resIs_tmp (by ((conv => lhs; whnf) <;> exact rfl)) | exact resIs_cellA 0 rfl rfl rfl | exact resIs_cellA 1 rfl rfl rfl | exact resIs_cellA 2 rfl rfl rfl | exact resIs_cellA 3 rfl rfl rfl | exact resIs_cellA 4 rfl rfl rfl | exact resIs_cellA 5 rfl rfl rfl | exact resIs_cellA 6 rfl rfl rfl | exact resIs_cellA 7 rfl rfl rfl | exact resIs_cellA 8 rfl rfl rfl | exact resIs_cellA 9 rfl rfl rfl) (by first | exact resIs_tmp (by ((conv => lhs; whnf) <;> exact rfl)) | exact resIs_cellA 0 rfl rfl rfl | exact resIs_cellA 1 rfl rfl rfl | exact resIs_cellA 2 rfl rfl rfl | exact resIs_cellA 3 rfl rfl rfl | exact resIs_cellA 4 rfl rfl rfl | exact resIs_cellA 5 rfl rfl rfl | exact resIs_cellA 6 rfl rfl rfl | exact resIs_cellA 7 rfl rfl rfl | exact resIs_cellA 8 rfl rfl rfl | exact resIs_cellA 9 rfl rfl rfl) ?_ | refine bodyR_r4 (by first | exact resIs_tmp (by ((conv => lhs; whnf) <;> exact rfl)) | exact resIs_cellA 0 rfl rfl rfl | exact resIs_cellA 1 rfl rfl rfl | exact resIs_cellA 2 rfl rfl rfl | exact resIs_cellA 3 rfl rfl rfl | exact resIs_cellA 4 rfl rfl rfl | exact resIs_cellA 5 rfl rfl rfl | exact resIs_cellA 6 rfl rfl rfl | exact resIs_cellA 7 rfl rfl rfl | exact resIs_cellA 8 rfl rfl rfl | exact resIs_cellA 9 rfl rfl rfl) (by first | exact resIs_tmp (by ((conv => lhs; whnf) <;> exact rfl)) | exact resIs_cellA 0 rfl rfl rfl | exact resIs_cellA 1 rfl rfl rfl | exact resIs_cellA 2 rfl rfl rfl | exact resIs_cellA 3 rfl rfl rfl | exact resIs_cellA 4 rfl rfl rfl | exact resIs_cellA 5 rfl rfl rfl | exact resIs_cellA 6 rfl rfl rfl | exact resIs_cellA 7 rfl rfl rfl | exact resIs_cellA 8 rfl rfl rfl | exact resIs_cellA 9 rfl rfl rfl) (by first | exact resIs_tmp (by ((conv => lhs; whnf) <;> exact rfl)) | exact resIs_cellA 0 rfl rfl rfl | exact resIs_cellA 1 rfl rfl rfl | exact resIs_cellA 2 rfl rfl rfl | exact resIs_cellA 3 rfl rfl rfl | exact resIs_cellA 4 rfl rfl rfl | exact resIs_cellA 5 rfl rfl rfl | exact resIs_cellA 6 rfl rfl rfl | exact resIs_cellA 7 rfl rfl rfl | exact resIs_cellA 8 rfl rfl rfl | exact resIs_cellA 9 rfl rfl rfl) (by first | exact resIs_tmp (by ((conv => lhs; whnf) <;> exact rfl)) | exact resIs_cellA 0 rfl rfl rfl | exact resIs_cellA 1 rfl rfl rfl | exact resIs_cellA 2 rfl rfl rfl | exact resIs_cellA 3 rfl rfl rfl | exact resIs_cellA 4 rfl rfl rfl | exact resIs_cellA 5 rfl rfl rfl | exact resIs_cellA 6 rfl rfl rfl | exact resIs_cellA 7 rfl rfl rfl | exact resIs_cellA 8 rfl rfl rfl | exact resIs_cellA 9 rfl rfl rfl) ?_
    have he := extE_chk k (by omega) H rfl hne
    exact ⟨_, Ent.nil, .inl ⟨by rw [he]; exact hne, by rw [he], rfl⟩⟩
  · rename_i hz
    refine ⟨by (repeat' (first | refine agree_upd rfl ?_ | exact agree_over | exact agree_refl _ _ | refine agree_over2 rfl ?_)), m - 1, _, by omega, Ent.refl _ _, ?_⟩
    refine ⟨k + 1, by omega, rfl, fun j hj => ?_, rfl⟩
    by_cases hjk : j < k
    · exact H j hjk
    · obtain rfl : j = k := by omega
      exact hz
  · first | refine bodyR_r1 (by first | exact resIs_tmp (by ((conv => lhs; whnf) <;> exact rfl)) | exact resIs_cellA 0 rfl rfl rfl | exact resIs_cellA 1 rfl rfl rfl | exact resIs_cellA 2 rfl rfl rfl | exact resIs_cellA 3 rfl rfl rfl | exact resIs_cellA 4 rfl rfl rfl | exact resIs_cellA 5 rfl rfl rfl | exact resIs_cellA 6 rfl rfl rfl | exact resIs_cellA 7 rfl rfl rfl | exact resIs_cellA 8 rfl rfl rfl | exact resIs_cellA 9 rfl rfl rfl) ?_ | refine bodyR_r2 (by first | exact resIs_tmp (by ((conv => lhs; whnf) <;> exact rfl)) | exact resIs_cellA 0 rfl rfl rfl | exact resIs_cellA 1 rfl rfl rfl | exact resIs_cellA 2 rfl rfl rfl | exact resIs_cellA 3 rfl rfl rfl | exact resIs_cellA 4 rfl rfl rfl | exact resIs_cellA 5 rfl rfl rfl | exact resIs_cellA 6 rfl rfl rfl | exact resIs_cellA 7 rfl rfl rfl | exact resIs_cellA 8 rfl rfl rfl | exact resIs_cellA 9 rfl rfl rfl) (by first | exact resIs_tmp (by ((conv => lhs; whnf) <;> exact rfl)) | exact resIs_cellA 0 rfl rfl rfl | exact resIs_cellA 1 rfl rfl rfl | exact resIs_cellA 2 rfl rfl rfl | exact resIs_cellA 3 rfl rfl rfl | exact resIs_cellA 4 rfl rfl rfl | exact resIs_cellA 5 rfl rfl rfl | exact resIs_cellA 6 rfl rfl rfl | exact resIs_cellA 7 rfl rfl rfl | exact resIs_cellA 8 rfl rfl rfl | exact resIs_cellA 9 rfl rfl rfl) ?_ | refine bodyR_r3 (by first | exact resIs_tmp (by ((conv => lhs; whnf) <;> exact rfl)) | exact resIs_cellA 0 rfl rfl rfl | exact resIs_cellA 1 rfl rfl rfl | exact resIs_cellA 2 rfl rfl rfl | exact resIs_cellA 3 rfl rfl rfl | exact resIs_cellA 4 rfl rfl rfl | exact resIs_cellA 5 rfl rfl rfl | exact resIs_cellA 6 rfl rfl rfl | exact resIs_cellA 7 rfl rfl rfl | exact resIs_cellA 8 rfl rfl rfl | exact resIs_cellA 9 rfl rfl rfl) (by first | exact resIs_tmp (by ((conv => lhs; whnf) <;> exact rfl)) | exact resIs_cellA 0 rfl rfl rfl | exact resIs_cellA 1 rfl rfl rfl | exact resIs_cellA 2 rfl rfl rfl | exact resIs_cellA 3 rfl rfl rfl | exact resIs_cellA 4 rfl rfl rfl | exact resIs_cellA 5 rfl rfl rfl | exact resIs_cellA 6 rfl rfl rfl | exact resIs_cellA 7 rfl rfl rfl | exact resIs_cellA 8 rfl rfl rfl | exact resIs_cellA 9 rfl rfl rfl) (by first | exact resIs_tmp (by ((conv => lhs; whnf) <;> exact rfl)) | exact resIs_cellA 0 rfl rfl rfl | exact resIs_cellA 1 rfl rfl rfl | exact resIs_cellA 2 rfl rfl rfl | exact resIs_cellA 3 rfl rfl rfl | exact resIs_cellA 4 rfl rfl rfl | exact resIs_cellA 5 rfl rfl rfl | exact resIs_cellA 6 rfl rfl rfl | exact resIs_cellA 7 rfl rfl rfl | exact resIs_cellA 8 rfl rfl rfl | exact resIs_cellA 9 rfl rfl rfl) ?_ | refine bodyR_r4 (by first | exact resIs_tmp (by ((conv => lhs; whnf) <;> exact rfl)) | exact resIs_cellA 0 rfl rfl rfl | exact resIs_cellA 1 rfl rfl rfl | exact resIs_cellA 2 rfl rfl rfl | exact resIs_cellA 3 rfl rfl rfl | exact resIs_cellA 4 rfl rfl rfl | exact resIs_cellA 5 rfl rfl rfl | exact resIs_cellA 6 rfl rfl rfl | exact resIs_cellA 7 rfl rfl rfl | exact resIs_cellA 8 rfl rfl rfl | exact resIs_cellA 9 rfl rfl rfl) (by first | exact resIs_tmp (by ((conv => lhs; whnf) <;> exact rfl)) | exact resIs_cellA 0 rfl rfl rfl | exact resIs_cellA 1 rfl rfl rfl | exact resIs_cellA 2 rfl rfl rfl | exact resIs_cellA 3 rfl rfl rfl | exact resIs_cellA 4 rfl rfl rfl | exact resIs_cellA 5 rfl rfl rfl | exact resIs_cellA 6 rfl rfl rfl | exact resIs_cellA 7 rfl rfl rfl | exact resIs_cellA 8 rfl rfl rfl | exact resIs_cellA 9 rfl rfl rfl) (by first | exact resIs_tmp (by ((conv => lhs; whnf) <;> exact rfl)) | exact resIs_cellA 0 rfl rfl rfl | exact resIs_cellA 1 rfl rfl rfl | exact resIs_cellA 2 rfl rfl rfl | exact resIs_cellA 3 rfl rfl rfl | exact resIs_cellA 4 rfl rfl rfl | exact resIs_cellA 5 rfl rfl rfl | exact resIs_cellA 6 rfl rfl rfl | exact resIs_cellA 7 rfl rfl rfl | exact resIs_cellA 8 rfl rfl rfl | exact resIs_cellA 9 rfl rfl rfl) (by first | exact resIs_tmp (by ((conv => lhs; whnf) <;> exact rfl)) | exact resIs_cellA 0 rfl rfl rfl | exact resIs_cellA 1 rfl rfl rfl | exact resIs_cellA 2 rfl rfl rfl | exact resIs_cellA 3 rfl rfl rfl | exact resIs_cellA 4 rfl rfl rfl | exact resIs_cellA 5 rfl rfl rfl | exact resIs_cellA 6 rfl rfl rfl | exact resIs_cellA 7 rfl rfl rfl | exact resIs_cellA 8 rfl rfl rfl | exact resIs_cellA 9 rfl rfl rfl) ?_
    have h2 := hA (by omega)
    have he : extE s c p = 10 := by unfold extE; rw [if_neg (by rw [h2.1]; simp), if_neg (by omega), if_pos (by omega)]
    exact ⟨_, Ent.nil, .inl ⟨by rw [he]; decide, by rw [he], rfl⟩⟩
  · first | refine bodyR_r1 (by first | exact resIs_tmp (by ((conv => lhs; whnf) <;> exact rfl)) | exact resIs_cellA 0 rfl rfl rfl | exact resIs_cellA 1 rfl rfl rfl | exact resIs_cellA 2 rfl rfl rfl | exact resIs_cellA 3 rfl rfl rfl | exact resIs_cellA 4 rfl rfl rfl | exact resIs_cellA 5 rfl rfl rfl | exact resIs_cellA 6 rfl rfl rfl | exact resIs_cellA 7 rfl rfl rfl | exact resIs_cellA 8 rfl rfl rfl | exact resIs_cellA 9 rfl rfl rfl) ?_ | refine bodyR_r2 (by first | exact resIs_tmp (by ((conv => lhs; whnf) <;> exact rfl)) | exact resIs_cellA 0 rfl rfl rfl | exact resIs_cellA 1 rfl rfl rfl | exact resIs_cellA 2 rfl rfl rfl | exact resIs_cellA 3 rfl rfl rfl | exact resIs_cellA 4 rfl rfl rfl | exact resIs_cellA 5 rfl rfl rfl | exact resIs_cellA 6 rfl rfl rfl | exact resIs_cellA 7 rfl rfl rfl | exact resIs_cellA 8 rfl rfl rfl | exact resIs_cellA 9 rfl rfl rfl) (by first | exact resIs_tmp (by ((conv => lhs; whnf) <;> exact rfl)) | exact resIs_cellA 0 rfl rfl rfl | exact resIs_cellA 1 rfl rfl rfl | exact resIs_cellA 2 rfl rfl rfl | exact resIs_cellA 3 rfl rfl rfl | exact resIs_cellA 4 rfl rfl rfl | exact resIs_cellA 5 rfl rfl rfl | exact resIs_cellA 6 rfl rfl rfl | exact resIs_cellA 7 rfl rfl rfl | exact resIs_cellA 8 rfl rfl rfl | exact resIs_cellA 9 rfl rfl rfl) ?_ | refine bodyR_r3 (by first | exact resIs_tmp (by ((conv => lhs; whnf) <;> exact rfl)) | exact resIs_cellA 0 rfl rfl rfl | exact resIs_cellA 1 rfl rfl rfl | exact resIs_cellA 2 rfl rfl rfl | exact resIs_cellA 3 rfl rfl rfl | exact resIs_cellA 4 rfl rfl rfl | exact resIs_cellA 5 rfl rfl rfl | exact resIs_cellA 6 rfl rfl rfl | exact resIs_cellA 7 rfl rfl rfl | exact resIs_cellA 8 rfl rfl rfl | exact resIs_cellA 9 rfl rfl rfl) (by first | exact resIs_tmp (by ((conv => lhs; whnf) <;> exact rfl)) | exact resIs_cellA 0 rfl rfl rfl | exact resIs_cellA 1 rfl rfl rfl | exact resIs_cellA 2 rfl rfl rfl | exact resIs_cellA 3 rfl rfl rfl | exact resIs_cellA 4 rfl rfl rfl | exact resIs_cellA 5 rfl rfl rfl | exact resIs_cellA 6 rfl rfl rfl | exact resIs_cellA 7 rfl rfl rfl | exact resIs_cellA 8 rfl rfl rfl | exact resIs_cellA 9 rfl rfl rfl) (by first | exact resIs_tmp (by ((conv => lhs; whnf) <;> exact rfl)) | exact resIs_cellA 0 rfl rfl rfl | exact resIs_cellA 1 rfl rfl rfl | exact resIs_cellA 2 rfl rfl rfl | exact resIs_cellA 3 rfl rfl rfl | exact resIs_cellA 4 rfl rfl rfl | exact resIs_cellA 5 rfl rfl rfl | exact resIs_cellA 6 rfl rfl rfl | exact resIs_cellA 7 rfl rfl rfl | exact resIs_cellA 8 rfl rfl rfl | exact resIs_cellA 9 rfl rfl rfl) ?_ | refine bodyR_r4 (by first | exact resIs_tmp (by ((conv => lhs; whnf) <;> exact rfl)) | exact resIs_cellA 0 rfl rfl rfl | exact resIs_cellA 1 rfl rfl rfl | exact resIs_cellA 2 rfl rfl rfl | exact resIs_cellA 3 rfl rfl rfl | exact resIs_cellA 4 rfl rfl rfl | exact resIs_cellA 5 rfl rfl rfl | exact resIs_cellA 6 rfl rfl rfl | exact resIs_cellA 7 rfl rfl rfl | exact resIs_cellA 8 rfl rfl rfl | exact resIs_cellA 9 rfl rfl rfl) (by first | exact resIs_tmp (by ((conv => lhs; whnf) <;> exact rfl)) | exact resIs_cellA 0 rfl rfl rfl | exact resIs_cellA 1 rfl rfl rfl | exact resIs_cellA 2 rfl rfl rfl | exact resIs_cellA 3 rfl rfl rfl | exact resIs_cellA 4 rfl rfl rfl | exact resIs_cellA 5 rfl rfl rfl | exact resIs_cellA 6 rfl rfl rfl | exact resIs_cellA 7 rfl rfl rfl | exact resIs_cellA 8 rfl rfl rfl | exact resIs_cellA 9 rfl rfl rfl) (by first | exact resIs_tmp (by ((conv => lhs; whnf) <;> exact rfl)) | exact resIs_cellA 0 rfl rfl rfl | exact resIs_cellA 1 rfl rfl rfl | exact resIs_cellA 2 rfl rfl rfl | exact resIs_cellA 3 rfl rfl rfl | exact resIs_cellA 4 rfl rfl rfl | exact resIs_cellA 5 rfl rfl rfl | exact resIs_cellA 6 rfl rfl rfl | exact resIs_cellA 7 rfl rfl rfl | exact resIs_cellA 8 rfl rfl rfl | exact resIs_cellA 9 rfl rfl rfl) (by first | exact resIs_tmp (by ((conv => lhs; whnf) <;> exact rfl)) | exact resIs_cellA 0 rfl rfl rfl | exact resIs_cellA 1 rfl rfl rfl | exact resIs_cellA 2 rfl rfl rfl | exact resIs_cellA 3 rfl rfl rfl | exact resIs_cellA 4 rfl rfl rfl | exact resIs_cellA 5 rfl rfl rfl | exact resIs_cellA 6 rfl rfl rfl | exact resIs_cellA 7 rfl rfl rfl | exact resIs_cellA 8 rfl rfl rfl | exact resIs_cellA 9 rfl rfl rfl) ?_
    have h2 := hA (by omega)
    have he : extE s c p = 7 := by unfold extE; rw [if_neg (by rw [h2.1]; simp), if_neg (by omega), if_neg (by omega), if_pos hq]
    exact ⟨_, Ent.nil, .inl ⟨by rw [he]; decide, by rw [he], rfl⟩⟩
  · have h2 := hA (by omega)
    have he : extE s c p = 0 := by unfold extE; rw [if_neg (by rw [h2.1]; simp), if_neg (by omega), if_neg (by omega), if_neg (by rw [hq]; simp)]
    have hcl : c.toNat < s.par.length := by omega
    have hcn := hC (by omega) c.toNat
    have hsr : srtL (s.par.getD c.toNat [] ++ [p]) = extP s c p := srt_eq _ _ (stCheck_inc s h2.1 _ hcl) (fun x hx => by
      have := stCheck_okPar s h2.1 c.toNat hcl x (by rwa [getD_lt _ _ _ hcl] at hx)
      omega) (by omega) (fun h => by rw [show hasI (s.par.getD c.toNat []) p = true by simpa [hasI] using h] at hq; cases hq)
    first | refine bodyR_r1 (by first | exact resIs_tmp (by ((conv => lhs; whnf) <;> exact rfl)) | exact resIs_cellA 0 rfl rfl rfl | exact resIs_cellA 1 rfl rfl rfl | exact resIs_cellA 2 rfl rfl rfl | exact resIs_cellA 3 rfl rfl rfl | exact resIs_cellA 4 rfl rfl rfl | exact resIs_cellA 5 rfl rfl rfl | exact resIs_cellA 6 rfl rfl rfl | exact resIs_cellA 7 rfl rfl rfl | exact resIs_cellA 8 rfl rfl rfl | exact resIs_cellA 9 rfl rfl rfl) ?_ | refine bodyR_r2 (by first | exact resIs_tmp (by ((conv => lhs; whnf) <;> exact rfl)) | exact resIs_cellA 0 rfl rfl rfl | exact resIs_cellA 1 rfl rfl rfl | exact resIs_cellA 2 rfl rfl rfl | exact resIs_cellA 3 rfl rfl rfl | exact resIs_cellA 4 rfl rfl rfl | exact resIs_cellA 5 rfl rfl rfl | exact resIs_cellA 6 rfl rfl rfl | exact resIs_cellA 7 rfl rfl rfl | exact resIs_cellA 8 rfl rfl rfl | exact resIs_cellA 9 rfl rfl rfl) (by first | exact resIs_tmp (by ((conv => lhs; whnf) <;> exact rfl)) | exact resIs_cellA 0 rfl rfl rfl | exact resIs_cellA 1 rfl rfl rfl | exact resIs_cellA 2 rfl rfl rfl | exact resIs_cellA 3 rfl rfl rfl | exact resIs_cellA 4 rfl rfl rfl | exact resIs_cellA 5 rfl rfl rfl | exact resIs_cellA 6 rfl rfl rfl | exact resIs_cellA 7 rfl rfl rfl | exact resIs_cellA 8 rfl rfl rfl | exact resIs_cellA 9 rfl rfl rfl) ?_ | refine bodyR_r3 (by first | exact resIs_tmp (by ((conv => lhs; whnf) <;> exact rfl)) | exact resIs_cellA 0 rfl rfl rfl | exact resIs_cellA 1 rfl rfl rfl | exact resIs_cellA 2 rfl rfl rfl | exact resIs_cellA 3 rfl rfl rfl | exact resIs_cellA 4 rfl rfl rfl | exact resIs_cellA 5 rfl rfl rfl | exact resIs_cellA 6 rfl rfl rfl | exact resIs_cellA 7 rfl rfl rfl | exact resIs_cellA 8 rfl rfl rfl | exact resIs_cellA 9 rfl rfl rfl) (by first | exact resIs_tmp (by ((conv => lhs; whnf) <;> exact rfl)) | exact resIs_cellA 0 rfl rfl rfl | exact resIs_cellA 1 rfl rfl rfl | exact resIs_cellA 2 rfl rfl rfl | exact resIs_cellA 3 rfl rfl rfl | exact resIs_cellA 4 rfl rfl rfl | exact resIs_cellA 5 rfl rfl rfl | exact resIs_cellA 6 rfl rfl rfl | exact resIs_cellA 7 rfl rfl rfl | exact resIs_cellA 8 rfl rfl rfl | exact resIs_cellA 9 rfl rfl rfl) (by first | exact resIs_tmp (by ((conv => lhs; whnf) <;> exact rfl)) | exact resIs_cellA 0 rfl rfl rfl | exact resIs_cellA 1 rfl rfl rfl | exact resIs_cellA 2 rfl rfl rfl | exact resIs_cellA 3 rfl rfl rfl | exact resIs_cellA 4 rfl rfl rfl | exact resIs_cellA 5 rfl rfl rfl | exact resIs_cellA 6 rfl rfl rfl | exact resIs_cellA 7 rfl rfl rfl | exact resIs_cellA 8 rfl rfl rfl | exact resIs_cellA 9 rfl rfl rfl) ?_ | refine bodyR_r4 (by first | exact resIs_tmp (by ((conv => lhs; whnf) <;> exact rfl)) | exact resIs_cellA 0 rfl rfl rfl | exact resIs_cellA 1 rfl rfl rfl | exact resIs_cellA 2 rfl rfl rfl | exact resIs_cellA 3 rfl rfl rfl | exact resIs_cellA 4 rfl rfl rfl | exact resIs_cellA 5 rfl rfl rfl | exact resIs_cellA 6 rfl rfl rfl | exact resIs_cellA 7 rfl rfl rfl | exact resIs_cellA 8 rfl rfl rfl | exact resIs_cellA 9 rfl rfl rfl) (by first | exact resIs_tmp (by ((conv => lhs; whnf) <;> exact rfl)) | exact resIs_cellA 0 rfl rfl rfl | exact resIs_cellA 1 rfl rfl rfl | exact resIs_cellA 2 rfl rfl rfl | exact resIs_cellA 3 rfl rfl rfl | exact resIs_cellA 4 rfl rfl rfl | exact resIs_cellA 5 rfl rfl rfl | exact resIs_cellA 6 rfl rfl rfl | exact resIs_cellA 7 rfl rfl rfl | exact resIs_cellA 8 rfl rfl rfl | exact resIs_cellA 9 rfl rfl rfl) (by first | exact resIs_tmp (by ((conv => lhs; whnf) <;> exact rfl)) | exact resIs_cellA 0 rfl rfl rfl | exact resIs_cellA 1 rfl rfl rfl | exact resIs_cellA 2 rfl rfl rfl | exact resIs_cellA 3 rfl rfl rfl | exact resIs_cellA 4 rfl rfl rfl | exact resIs_cellA 5 rfl rfl rfl | exact resIs_cellA 6 rfl rfl rfl | exact resIs_cellA 7 rfl rfl rfl | exact resIs_cellA 8 rfl rfl rfl | exact resIs_cellA 9 rfl rfl rfl) (by first | exact resIs_tmp (by ((conv => lhs; whnf) <;> exact rfl)) | exact resIs_cellA 0 rfl rfl rfl | exact resIs_cellA 1 rfl rfl rfl | exact resIs_cellA 2 rfl rfl rfl | exact resIs_cellA 3 rfl rfl rfl | exact resIs_cellA 4 rfl rfl rfl | exact resIs_cellA 5 rfl rfl rfl | exact resIs_cellA 6 rfl rfl rfl | exact resIs_cellA 7 rfl rfl rfl | exact resIs_cellA 8 rfl rfl rfl | exact resIs_cellA 9 rfl rfl rfl) ?_
    rw [hsr]
    exact ⟨_, Ent.refl _ _, .inr ⟨he, _, _, _, _, _, _, rfl, fun w1 hp => ⟨_, _, _, rfl, hS.below hp.below, hE.below hp.below, tabs_set c.toNat 2 1 hp hvl (by omega) rfl rfl (by omega) hint hcl⟩⟩⟩
theorem extE_zero {s : Stem} {c p : Int} (h : extE s c p = 0) : stCheck s = 0 ∧ 0 ≤ p ∧ p < c ∧ c < s.names.length ∧ hasI (s.par.getD c.toNat []) p = false := by
  unfold extE at h
  split at h
  · omega
  split at h
  · omega
  split at h
  · omega
  split at h
  · omega
  · rename_i h1 h2 h3 h4
    exact ⟨by simpa using h1, by omega, by omega, by omega, by simpa using h4⟩
theorem extS_ok {s : Stem} {c p : Int} (h : extE s c p = 0) : okPar (extS s c p).par ∧ (extS s c p).par.length = s.names.length := by
  obtain ⟨h0, h1, h2, h3, _⟩ := extE_zero h
  obtain ⟨_, _, _, hpl, _⟩ := stCheck_len s h0
  have hok := stCheck_okPar s h0
  refine ⟨fun k hk x hx => ?_, by rw [extS, List.length_set]; exact hpl⟩
  simp only [extS] at hk hx
  rw [List.length_set] at hk
  by_cases e : c.toNat = k
  · subst e
    rw [List.getElem_set_self] at hx
    obtain ⟨hx, _⟩ := (srtK_mem _ _ _).1 hx
    rcases List.mem_cons.1 hx with rfl | hx
    · omega
    · rw [getD_lt _ _ _ hk] at hx
      exact hok _ hk x hx
  · rw [List.getElem_set_ne e] at hx
    exact hok k hk x hx
theorem firstErr_all (f : Nat → Int) : ∀ n, (∀ k, k < n → f k = 0) → firstErr f n = 0
  | 0, _ => rfl
  | n + 1, h => firstErr_step f n (firstErr_all f n (fun k hk => h k (by omega))) (h n (by omega))
/-- A stemma with a further exemplar is valid. -/
theorem extS_valid {s : Stem} {c p : Int} (h : extE s c p = 0) : stCheck (extS s c p) = 0 := by
  obtain ⟨h0, _⟩ := extE_zero h
  obtain ⟨hn0, hn64, hel, hpl, hf⟩ := stCheck_len s h0
  obtain ⟨hok, hpl'⟩ := extS_ok h
  have hinc := stCheck_inc s h0
  unfold stCheck
  have e1 : (extS s c p).names = s.names := rfl
  have e2 : (extS s c p).ext = s.ext := rfl
  rw [e1, if_neg hn0, if_neg (by omega), if_neg (by rw [e2, hpl']; omega)]
  refine firstErr_all _ _ fun k hk => ?_
  have hz := firstErr_zero _ _ hf k hk
  unfold stAt at hz ⊢
  rw [e1]
  split at hz
  · omega
  · rename_i h1
    rw [if_neg h1]
    split at hz
    · omega
    · rename_i h2
      rw [if_neg h2]
      have hr : rngB ((extS s c p).par.getD k []) k = false := by
        rw [rngB, List.any_eq_false]
        intro x hx
        rw [getD_lt _ _ _ (by omega)] at hx
        have := hok k (by omega) x hx
        simp
        omega
      have hi : incB ((extS s c p).par.getD k []) = true := by
        unfold incB
        rw [decide_eq_true_eq]
        simp only [extS]
        by_cases e : c.toNat = k
        · subst e
          rw [getD_lt _ _ _ (by rw [List.length_set]; omega), List.getElem_set_self]
          exact srtK_asc _ _
        · have := hinc k (by omega)
          rw [List.getD_eq_getElem?_getD, List.getElem?_set_ne e, ← List.getD_eq_getElem?_getD]
          exact this
      rw [if_neg (by rw [hr]; simp), if_neg (by rw [hi]; simp)]
#print axioms Extend_sat
end Go.Proofs.Ytmclgfipdgmomaa
