/-
  Part 26 of the proof: Pp39, Lj39, Open. No statement of the seat is proved here.
-/
import Derived.Test.YtmclgfipdgmomaaMHPossible25
import Derived.ProofKit
import Derived.SizedLaws
import Derived.Deep.Strs
namespace Go.Proofs.Ytmclgfipdgmomaa
theorem posL_mem (s : Stem) (st : List Int) (i : Nat) (x : Int) : x ∈ posL s st i ↔ 0 ≤ x ∧ x < 16 ∧ ∃ a ∈ asgs (occ st) st, (costN s.par a : Int) = (best1 s st).2 ∧ a.getD i 0 = x := by
  unfold posL
  simp only [List.mem_map, List.mem_filter, List.mem_range]
  unfold seenB
  simp only [List.any_eq_true, Bool.and_eq_true, decide_eq_true_eq, beq_iff_eq]
  constructor
  · rintro ⟨y, ⟨h1, a, ha, hc, hy⟩, rfl⟩
    exact ⟨by omega, by omega, a, ha, hc, hy⟩
  · rintro ⟨h0, h1, a, ha, hc, hy⟩
    obtain ⟨y, rfl⟩ := Int.eq_ofNat_of_zero_le h0
    exact ⟨y, ⟨by omega, a, ha, hc, hy⟩, rfl⟩
theorem posL_asc (s : Stem) (st : List Int) (i : Nat) : (posL s st i).Pairwise (· < ·) := by
  unfold posL
  rw [List.pairwise_map]
  refine (List.Pairwise.filter _ (List.pairwise_lt_range (n := 16))).imp ?_
  intro a b h
  omega
theorem asgs_rng (st a : List Int) (hr : ∀ x ∈ st, x < 16) (ha : a ∈ asgs (occ st) st) (i : Nat) (hi : i < st.length) : 0 ≤ a.getD i 0 ∧ a.getD i 0 < 16 := by
  have h := ((asgs_mem _ _ _).1 ha).2 i hi
  by_cases hs : st.getD i 0 < 0
  · rw [if_pos hs] at h
    exact occ_range st _ h
  · rw [if_neg hs] at h
    have := hr _ (getD_mem st i 0 hi)
    omega
theorem pos_best (s : Stem) (st : List Int) (hr : ∀ x ∈ st, x < 16) (i : Nat) (hi : i < st.length) : (best1 s st).1.getD i 0 ∈ posL s st i := by
  obtain ⟨h1, h2, _⟩ := best1_spec s st
  have h3 := asgs_rng st _ hr h1 i hi
  exact (posL_mem s st i _).2 ⟨h3.1, h3.2, _, h1, h2.symm, rfl⟩
theorem pos_known (s : Stem) (st : List Int) (hr : ∀ x ∈ st, x < 16) (i : Nat) (hi : i < st.length) (hk : 0 ≤ st.getD i 0) : posL s st i = [st.getD i 0] := by
  refine asc_ext _ _ (posL_asc s st i) (List.pairwise_singleton _ _) fun x => ?_
  rw [List.mem_singleton, posL_mem]
  constructor
  · rintro ⟨_, _, a, ha, _, rfl⟩
    have h := ((asgs_mem _ _ _).1 ha).2 i hi
    rwa [if_neg (by omega)] at h
  · rintro rfl
    have hb := pos_best s st hr i hi
    have h := ((asgs_mem _ _ _).1 (best1_spec s st).1).2 i hi
    rw [if_neg (by omega)] at h
    rw [h] at hb
    exact (posL_mem s st i _).1 hb
end Go.Proofs.Ytmclgfipdgmomaa
namespace Go.Proofs.Ytmclgfipdgmomaa
open Go.RowKit
set_option maxRecDepth 100000 in
set_option maxHeartbeats 4000000 in
theorem less_int_sat (x y : Int) (w : World) : SatV Try.prog 92 [.int .i64 x, .int .i64 y] w (.bool (decide (x < y))) :=
  Sat.lib ⟨_, _, Try.func92, by kernel_rfl, rfl⟩ fun w1 _ => (Try.cmp_Less_int2 x y w1).mono fun e w' ⟨h1, h2⟩ => ⟨_, [], h1, h2 ▸ Hp.refl _, rfl, rfl⟩
set_option maxRecDepth 100000 in
set_option maxHeartbeats 4000000 in
theorem isSorted_sat (v : Value) (xs : List Int) (w : World) (h : Ints w v xs) (ha : xs.Pairwise (· < ·)) : SatV Try.prog 56 [v] w (.bool true) := by
  have hv := h.sl
  have hvb := hv.bound
  refine SatL.of 21 [2] Try.func56 (by kernel_rfl) (by kernel_rfl) rfl rfl rfl rfl ?_
  repeat' (first | (apply OK_seq) | (apply thenQ_n) | (apply OK_region) | (refine OK_rid 4 ?_; refine OK_quiet (id := 4) (by kernel_rfl) (by kernel_rfl) ?_) | (apply OKx_nilK) | (apply OK_block) | (apply blockQ_n) | (apply blockQ_s) | (apply thenQ_e) | (apply blockQ_e; exact rfl) | (apply thenQ_r) | (apply blockQ_r) | (apply OK_condT; exact rfl) | (apply OK_condF; exact rfl) | (apply OK_skip) | (apply OK_exit) | (apply OK_ret) | (apply OKx_move; ((conv => lhs; whnf) <;> exact rfl)) | (apply OKx_assign; ((conv => lhs; whnf) <;> exact rfl)) | (apply OKx_ldB; exact rfl; (first | exact at0 | exact at1 | exact at2 | exact at3 | exact at4 | exact at5 | exact at6 | exact at7); exact rfl) | (apply OKx_ldR; ((conv => lhs; whnf) <;> exact rfl); (with_reducible assumption)) | (apply OKx_ldI; exact rfl; (first | exact at0 | exact at1 | exact at2 | exact at3 | exact at4 | exact at5 | exact at6 | exact at7); omega) | (apply OKx_len; exact rfl) | (apply OKx_lenR; ((conv => lhs; whnf) <;> exact rfl); (with_reducible assumption)) | (apply OKx_lenR2; ((conv => lhs; whnf) <;> exact rfl); (with_reducible assumption)) | (apply OKx_lenO; ((conv => lhs; whnf) <;> exact rfl); (first | exact at0 | exact at1 | exact at2 | exact at3 | exact at4 | exact at5 | exact at6 | exact at7)) | (apply OKx_gtr; exact rfl; exact rfl; all_goals (intro _; try (exfalso; omega))) | (apply OKx_idxO; exact rfl; exact rfl; omega) | (apply OKx_idxR; ((conv => lhs; whnf) <;> exact rfl); (with_reducible assumption); exact rfl; omega; intro _ _) | (apply OKx_idxOz; exact rfl; exact rfl; omega; omega) | (apply OKx_idxRz; ((conv => lhs; whnf) <;> exact rfl); (with_reducible assumption); exact rfl; omega; omega; intro _ _) | (apply OKx_dec; exact rfl; exact rfl; omega; omega) | (apply OKx_subN; exact rfl; exact rfl; omega; omega) | (apply OKx_sub; exact rfl; exact rfl; omega; omega))
  refine OK_loop1 3 [2, 3, 7, 8, 9, 10, 11, 12, 13, 14, 15, 16, 17, 18, 19, 20] (fun m v L => (∃ z : Int, v = .int .i64 z ∧ z < (xs.length : Int) ∧ -1 ≤ z ∧ m = (z + 1).toNat) ∧ L = []) xs.length _ (Ent.refl _ _) ⟨⟨(xs.length : Int) - 1, rfl, by omega, by omega, by omega⟩, rfl⟩ ?_
  rintro m v' L G ⟨⟨z, rfl, hz, hz1, rfl⟩, rfl⟩
  by_cases hz0 : 0 < z
  · obtain ⟨k, rfl⟩ : ∃ k : Nat, z = ((k + 1 : Nat) : Int) := ⟨(z - 1).toNat, by omega⟩
    have hlt : xs.getD k 0 < xs.getD (k + 1) 0 := by
      rw [getD_lt _ _ _ (show k < xs.length by omega), getD_lt _ _ _ (show k + 1 < xs.length by omega)]
      exact List.pairwise_iff_getElem.1 ha k (k + 1) (by omega) (by omega) (by omega)
    repeat' (first | (apply OK_seq) | (apply thenQ_n) | (apply OK_region) | (apply OKx_gi; refine OKx_idxR (i := k + 1) (by ((conv => lhs; whnf) <;> exact rfl)) (by with_reducible assumption) rfl (by omega) ?_; intro _ _) | (apply OKx_gi; refine OKx_idxR (i := k) (by ((conv => lhs; whnf) <;> exact rfl)) (by with_reducible assumption) rfl (by omega) ?_; intro _ _) | (apply OKx_gc 92; exact rfl; refine OKx_callV (f := 92) (v := .bool false) rfl rfl rfl (fun w1 hp => by have := less_int_sat (xs.getD (k + 1) 0) (xs.getD k 0) w1; rwa [decide_eq_false (by omega)] at this) ?_) | (refine OK_rid 4 ?_; refine OK_quiet (id := 4) (by kernel_rfl) (by kernel_rfl) ?_) | (apply OKx_nilK) | (apply OK_block) | (apply blockQ_n) | (apply blockQ_s) | (apply thenQ_e) | (apply blockQ_e; exact rfl) | (apply thenQ_r) | (apply blockQ_r) | (apply OK_condT; exact rfl) | (apply OK_condF; exact rfl) | (apply OK_skip) | (apply OK_exit) | (apply OK_ret) | (apply OKx_move; ((conv => lhs; whnf) <;> exact rfl)) | (apply OKx_assign; ((conv => lhs; whnf) <;> exact rfl)) | (apply OKx_ldB; exact rfl; (first | exact at0 | exact at1 | exact at2 | exact at3 | exact at4 | exact at5 | exact at6 | exact at7); exact rfl) | (apply OKx_ldR; ((conv => lhs; whnf) <;> exact rfl); (with_reducible assumption)) | (apply OKx_ldI; exact rfl; (first | exact at0 | exact at1 | exact at2 | exact at3 | exact at4 | exact at5 | exact at6 | exact at7); omega) | (apply OKx_len; exact rfl) | (apply OKx_lenR; ((conv => lhs; whnf) <;> exact rfl); (with_reducible assumption)) | (apply OKx_lenR2; ((conv => lhs; whnf) <;> exact rfl); (with_reducible assumption)) | (apply OKx_lenO; ((conv => lhs; whnf) <;> exact rfl); (first | exact at0 | exact at1 | exact at2 | exact at3 | exact at4 | exact at5 | exact at6 | exact at7)) | (apply OKx_gtr; exact rfl; exact rfl; all_goals (intro _; try (exfalso; omega))) | (apply OKx_idxO; exact rfl; exact rfl; omega) | (apply OKx_idxR; ((conv => lhs; whnf) <;> exact rfl); (with_reducible assumption); exact rfl; omega; intro _ _) | (apply OKx_idxOz; exact rfl; exact rfl; omega; omega) | (apply OKx_idxRz; ((conv => lhs; whnf) <;> exact rfl); (with_reducible assumption); exact rfl; omega; omega; intro _ _) | (apply OKx_dec; exact rfl; exact rfl; omega; omega) | (apply OKx_subN; exact rfl; exact rfl; omega; omega) | (apply OKx_sub; exact rfl; exact rfl; omega; omega))
    refine ⟨by (repeat' (first | refine agree_upd rfl ?_ | exact agree_over | exact agree_refl _ _ | refine agree_over2 rfl ?_)), k + 1, _, by omega, Ent.refl _ _, ?_⟩
    exact ⟨⟨(k : Int), rfl, by omega, by omega, by omega⟩, rfl⟩
  · repeat' (first | (apply OK_seq) | (apply thenQ_n) | (apply OK_region) | (refine OK_rid 4 ?_; refine OK_quiet (id := 4) (by kernel_rfl) (by kernel_rfl) ?_) | (apply OKx_nilK) | (apply OK_block) | (apply blockQ_n) | (apply blockQ_s) | (apply thenQ_e) | (apply blockQ_e; exact rfl) | (apply thenQ_r) | (apply blockQ_r) | (apply OK_condT; exact rfl) | (apply OK_condF; exact rfl) | (apply OK_skip) | (apply OK_exit) | (apply OK_ret) | (apply OKx_move; ((conv => lhs; whnf) <;> exact rfl)) | (apply OKx_assign; ((conv => lhs; whnf) <;> exact rfl)) | (apply OKx_ldB; exact rfl; (first | exact at0 | exact at1 | exact at2 | exact at3 | exact at4 | exact at5 | exact at6 | exact at7); exact rfl) | (apply OKx_ldR; ((conv => lhs; whnf) <;> exact rfl); (with_reducible assumption)) | (apply OKx_ldI; exact rfl; (first | exact at0 | exact at1 | exact at2 | exact at3 | exact at4 | exact at5 | exact at6 | exact at7); omega) | (apply OKx_len; exact rfl) | (apply OKx_lenR; ((conv => lhs; whnf) <;> exact rfl); (with_reducible assumption)) | (apply OKx_lenR2; ((conv => lhs; whnf) <;> exact rfl); (with_reducible assumption)) | (apply OKx_lenO; ((conv => lhs; whnf) <;> exact rfl); (first | exact at0 | exact at1 | exact at2 | exact at3 | exact at4 | exact at5 | exact at6 | exact at7)) | (apply OKx_gtr; exact rfl; exact rfl; all_goals (intro _; try (exfalso; omega))) | (apply OKx_idxO; exact rfl; exact rfl; omega) | (apply OKx_idxR; ((conv => lhs; whnf) <;> exact rfl); (with_reducible assumption); exact rfl; omega; intro _ _) | (apply OKx_idxOz; exact rfl; exact rfl; omega; omega) | (apply OKx_idxRz; ((conv => lhs; whnf) <;> exact rfl); (with_reducible assumption); exact rfl; omega; omega; intro _ _) | (apply OKx_dec; exact rfl; exact rfl; omega; omega) | (apply OKx_subN; exact rfl; exact rfl; omega; omega) | (apply OKx_sub; exact rfl; exact rfl; omega; omega))
    first | refine bodyQ_r1 (by ((conv => lhs; whnf) <;> exact rfl)) ?_ | refine bodyQ_r2 (by ((conv => lhs; whnf) <;> exact rfl)) (by ((conv => lhs; whnf) <;> exact rfl)) ?_ | refine bodyQ_r3 (by ((conv => lhs; whnf) <;> exact rfl)) (by ((conv => lhs; whnf) <;> exact rfl)) (by ((conv => lhs; whnf) <;> exact rfl)) ?_ | refine bodyQ_r0 ?_ | refine bodyQ_n0 ?_
    exact ⟨_, Ent.nil, rfl, rfl⟩
theorem compact_of_asc (xs : List Int) (h : xs.Pairwise (· < ·)) : Lib.compact xs = xs :=
  asc_ext _ _ (compact_asc xs (h.imp fun h => by omega)) h (fun x => compact_mem xs x)
set_option maxRecDepth 100000 in
set_option maxHeartbeats 4000000 in
theorem ArchetypePossible_sat (v sv : Value) (s : Stem) (st : List Int) (w : World) (h : Stm w v s) (hs : Ints w sv st) : SatV Try.prog 12 [v, sv] w (.bool true) := by
  have hst := h
  obtain ⟨nv, ev, pv, rfl, _, _, _⟩ := h
  have hsv := hs.sl
  have hsb := hsv.bound
  by_cases hb : psB s st = true
  rotate_left
  · refine SatL.of 96 [4] Try.func12 (by kernel_rfl) (by kernel_rfl) rfl rfl rfl rfl ?_
    repeat' (first | (apply OK_seq) | (apply thenQ_n) | (apply OK_region) | (apply OKx_gc 43; exact rfl; refine OKx_call (f := 43) rfl rfl (fun w1 hp => possible39_sat _ _ s st w1 (hst.below hp.below) (hs.below hp.below)) ?_; rintro _ _ (⟨_, ⟨pv', pn, rfl⟩, rfl⟩ | ⟨h1, _⟩) <;> first | exact absurd h1 hb | skip) | (apply OKx_gc 44; exact rfl; refine OKx_callV (f := 44) rfl rfl rfl (fun w1 hp => awake39_sat w1) ?_) | (apply OKx_nilK) | (apply OK_block) | (apply blockQ_n) | (apply blockQ_s) | (apply thenQ_e) | (apply blockQ_e; exact rfl) | (apply thenQ_r) | (apply blockQ_r) | (apply OK_condT; exact rfl) | (apply OK_condF; exact rfl) | (apply OK_skip) | (apply OK_exit) | (apply OK_ret) | (apply OKx_move; ((conv => lhs; whnf) <;> exact rfl)) | (apply OKx_assign; ((conv => lhs; whnf) <;> exact rfl)) | (apply OKx_ldB; exact rfl; (first | exact at0 | exact at1 | exact at2 | exact at3 | exact at4 | exact at5 | exact at6 | exact at7); exact rfl) | (apply OKx_ldR; ((conv => lhs; whnf) <;> exact rfl); (with_reducible assumption)) | (apply OKx_ldI; exact rfl; (first | exact at0 | exact at1 | exact at2 | exact at3 | exact at4 | exact at5 | exact at6 | exact at7); omega) | (apply OKx_len; exact rfl) | (apply OKx_lenR; ((conv => lhs; whnf) <;> exact rfl); (with_reducible assumption)) | (apply OKx_lenR2; ((conv => lhs; whnf) <;> exact rfl); (with_reducible assumption)) | (apply OKx_lenO; ((conv => lhs; whnf) <;> exact rfl); (first | exact at0 | exact at1 | exact at2 | exact at3 | exact at4 | exact at5 | exact at6 | exact at7)) | (apply OKx_lss; exact rfl; exact rfl; all_goals (intro _; try (exfalso; omega))) | (apply OKx_geq; exact rfl; exact rfl; all_goals (intro _; try (exfalso; omega))) | (apply OKx_eql; exact rfl; exact rfl; all_goals (intro _; try (exfalso; omega))) | (apply OKx_neq; exact rfl; exact rfl; all_goals (intro _; try (exfalso; omega))) | (apply OKx_idxO; exact rfl; exact rfl; omega) | (apply OKx_idxR; ((conv => lhs; whnf) <;> exact rfl); (with_reducible assumption); exact rfl; omega; intro _ _) | (apply OKx_idxOz; exact rfl; exact rfl; omega; omega) | (apply OKx_idxRz; ((conv => lhs; whnf) <;> exact rfl); (with_reducible assumption); exact rfl; omega; omega; intro _ _) | (apply OKx_inc; exact rfl; exact rfl; omega) | (apply OKx_addN; exact rfl; exact rfl; omega) | (apply OKx_add; exact rfl; exact rfl; omega; omega) | (apply OKx_pickT; exact rfl; ((conv => lhs; whnf) <;> exact rfl)) | (apply OKx_pickF; exact rfl; ((conv => lhs; whnf) <;> exact rfl)) | (apply OKx_guardT; exact rfl; exact rfl) | (apply OKx_guardF; exact rfl; exact rfl) | (apply OKx_guardU; exact rfl; exact rfl) | (apply OKx_notT; exact rfl) | (apply OKx_notF; exact rfl) | (apply OKx_extract; exact rfl; ((conv => lhs; whnf) <;> exact rfl)) | (apply OKx_boxA; exact rfl; intro _) | (apply OKx_ldBA; exact rfl; (first | exact at0 | exact at1 | exact at2 | exact at3 | exact at4 | exact at5 | exact at6 | exact at7); exact rfl) | (apply OKx_ldRA; ((conv => lhs; whnf) <;> exact rfl); (with_reducible assumption)) | (apply OKx_slit1; ((conv => lhs; whnf) <;> exact rfl); exact rfl; intro _))
    first | refine bodyQ_r1 (by ((conv => lhs; whnf) <;> exact rfl)) ?_ | refine bodyQ_r2 (by ((conv => lhs; whnf) <;> exact rfl)) (by ((conv => lhs; whnf) <;> exact rfl)) ?_ | refine bodyQ_r3 (by ((conv => lhs; whnf) <;> exact rfl)) (by ((conv => lhs; whnf) <;> exact rfl)) (by ((conv => lhs; whnf) <;> exact rfl)) ?_ | refine bodyQ_r0 ?_ | refine bodyQ_n0 ?_
    exact ⟨_, Ent.nil, rfl, rfl⟩
  have hbn : psB s st ≠ false := by rw [hb]; simp
  have h0 : scE s st = 0 := by
    unfold psB at hb
    rw [Bool.and_eq_true, decide_eq_true_eq] at hb
    exact hb.2
  have hc := (scE_inv h0).1
  obtain ⟨hc1, hc2, hc3⟩ := chkC_zero hc
  have hlen := stCheck_len s hc1
  have hr : ∀ x ∈ st, x < 16 := fun x hx => (hc3 x hx).2
  have hsl := scL_ok h0
  have hbl := best1_len s st
  have hpb := pos_best s st hr
  have hpk := pos_known s st hr
  have hpa := posL_asc s st
  generalize hbs : (best1 s st).1 = bs at *
  refine SatL.of 96 [4] Try.func12 (by kernel_rfl) (by kernel_rfl) rfl rfl rfl rfl ?_
  repeat' (first | (apply OK_seq) | (apply thenQ_n) | (apply OK_region) | (apply OKx_gc 43; exact rfl; refine OKx_call (f := 43) rfl rfl (fun w1 hp => possible39_sat _ _ s st w1 (hst.below hp.below) (hs.below hp.below)) ?_; rintro _ _ (⟨h1, _⟩ | ⟨h1, g, c, rfl, vs, Z, hvs, hZ, rfl⟩) <;> first | exact absurd h1 hbn | skip; refine OKx_ent (Ent.perm List.perm_append_comm) ?_; rw [List.cons_append, List.nil_append]) | (apply OKx_gc 19; exact rfl; refine OKx_call (f := 19) rfl rfl (fun w1 hp => Assign_sat _ _ s st w1 (hst.below hp.below) (hs.below hp.below)) ?_; rintro _ _ ⟨ba, bn, bc, rfl, hbn2, rfl⟩; rw [hsl, hbl] at hbn2; subst hbn2; rw [List.cons_append, List.nil_append, h0, hsl]) | (apply OKx_nilK) | (apply OK_block) | (apply blockQ_n) | (apply blockQ_s) | (apply thenQ_e) | (apply blockQ_e; exact rfl) | (apply thenQ_r) | (apply blockQ_r) | (apply OK_condT; exact rfl) | (apply OK_condF; exact rfl) | (apply OK_skip) | (apply OK_exit) | (apply OK_ret) | (apply OKx_move; ((conv => lhs; whnf) <;> exact rfl)) | (apply OKx_assign; ((conv => lhs; whnf) <;> exact rfl)) | (apply OKx_ldB; exact rfl; (first | exact at0 | exact at1 | exact at2 | exact at3 | exact at4 | exact at5 | exact at6 | exact at7); exact rfl) | (apply OKx_ldR; ((conv => lhs; whnf) <;> exact rfl); (with_reducible assumption)) | (apply OKx_ldI; exact rfl; (first | exact at0 | exact at1 | exact at2 | exact at3 | exact at4 | exact at5 | exact at6 | exact at7); omega) | (apply OKx_len; exact rfl) | (apply OKx_lenR; ((conv => lhs; whnf) <;> exact rfl); (with_reducible assumption)) | (apply OKx_lenR2; ((conv => lhs; whnf) <;> exact rfl); (with_reducible assumption)) | (apply OKx_lenO; ((conv => lhs; whnf) <;> exact rfl); (first | exact at0 | exact at1 | exact at2 | exact at3 | exact at4 | exact at5 | exact at6 | exact at7)) | (apply OKx_lss; exact rfl; exact rfl; all_goals (intro _; try (exfalso; omega))) | (apply OKx_geq; exact rfl; exact rfl; all_goals (intro _; try (exfalso; omega))) | (apply OKx_eql; exact rfl; exact rfl; all_goals (intro _; try (exfalso; omega))) | (apply OKx_neq; exact rfl; exact rfl; all_goals (intro _; try (exfalso; omega))) | (apply OKx_idxO; exact rfl; exact rfl; omega) | (apply OKx_idxR; ((conv => lhs; whnf) <;> exact rfl); (with_reducible assumption); exact rfl; omega; intro _ _) | (apply OKx_idxOz; exact rfl; exact rfl; omega; omega) | (apply OKx_idxRz; ((conv => lhs; whnf) <;> exact rfl); (with_reducible assumption); exact rfl; omega; omega; intro _ _) | (apply OKx_inc; exact rfl; exact rfl; omega) | (apply OKx_addN; exact rfl; exact rfl; omega) | (apply OKx_add; exact rfl; exact rfl; omega; omega) | (apply OKx_pickT; exact rfl; ((conv => lhs; whnf) <;> exact rfl)) | (apply OKx_pickF; exact rfl; ((conv => lhs; whnf) <;> exact rfl)) | (apply OKx_guardT; exact rfl; exact rfl) | (apply OKx_guardF; exact rfl; exact rfl) | (apply OKx_guardU; exact rfl; exact rfl) | (apply OKx_notT; exact rfl) | (apply OKx_notF; exact rfl) | (apply OKx_extract; exact rfl; ((conv => lhs; whnf) <;> exact rfl)) | (apply OKx_boxA; exact rfl; intro _) | (apply OKx_ldBA; exact rfl; (first | exact at0 | exact at1 | exact at2 | exact at3 | exact at4 | exact at5 | exact at6 | exact at7); exact rfl) | (apply OKx_ldRA; ((conv => lhs; whnf) <;> exact rfl); (with_reducible assumption)) | (apply OKx_slit1; ((conv => lhs; whnf) <;> exact rfl); exact rfl; intro _))
  rename_i g2 _ _ _
  have hst0 : 0 < st.length := by omega
  refine OK_world fun w0 hp0 => ?_
  obtain ⟨ga, gc, hbv⟩ := hp0.rowForm 0 rfl hst0
  simp only [Value.slice.injEq] at hbv
  obtain ⟨rfl, _, rfl⟩ := hbv
  refine OK_loop1 46 [4, 10, 11, 46, 47, 48, 49, 50, 51, 52, 53, 54, 55, 56, 57, 58, 59, 60, 61, 62, 63, 64, 65, 66, 67, 68, 69, 70, 71, 72, 73, 74, 75, 76, 77, 78, 79, 80, 81, 82, 83, 84, 85, 86, 87, 88, 89, 90, 91, 92, 93, 94] (fun m v L => ∃ k : Nat, k + m = st.length ∧ v = .int .i64 (k : Int) ∧
    L = .row 3 1 (.slice (some ⟨ga, 0, none⟩) st.length bc) st.length (ints bs) :: .box 26 g2 [nv, ev, pv] :: .row 27 1 (.slice (some ⟨g, 0, none⟩) st.length c) st.length vs :: Z) st.length _
    (Ent.refl _ _) ⟨0, by omega, rfl, rfl⟩ ?_
  rintro m v L G ⟨k, hm, rfl, rfl⟩
  by_cases hk : k < st.length
  rotate_left
  · repeat' (first | (apply OK_seq) | (apply thenQ_n) | (apply OK_region) | (apply OKx_gc 44; exact rfl; refine OKx_callV (f := 44) rfl rfl rfl (fun w1 hp => awake39_sat w1) ?_) | (apply OKx_nilK) | (apply OK_block) | (apply blockQ_n) | (apply blockQ_s) | (apply thenQ_e) | (apply blockQ_e; exact rfl) | (apply thenQ_r) | (apply blockQ_r) | (apply OK_condT; exact rfl) | (apply OK_condF; exact rfl) | (apply OK_skip) | (apply OK_exit) | (apply OK_ret) | (apply OKx_move; ((conv => lhs; whnf) <;> exact rfl)) | (apply OKx_assign; ((conv => lhs; whnf) <;> exact rfl)) | (apply OKx_ldB; exact rfl; (first | exact at0 | exact at1 | exact at2 | exact at3 | exact at4 | exact at5 | exact at6 | exact at7); exact rfl) | (apply OKx_ldR; ((conv => lhs; whnf) <;> exact rfl); (with_reducible assumption)) | (apply OKx_ldI; exact rfl; (first | exact at0 | exact at1 | exact at2 | exact at3 | exact at4 | exact at5 | exact at6 | exact at7); omega) | (apply OKx_len; exact rfl) | (apply OKx_lenR; ((conv => lhs; whnf) <;> exact rfl); (with_reducible assumption)) | (apply OKx_lenR2; ((conv => lhs; whnf) <;> exact rfl); (with_reducible assumption)) | (apply OKx_lenO; ((conv => lhs; whnf) <;> exact rfl); (first | exact at0 | exact at1 | exact at2 | exact at3 | exact at4 | exact at5 | exact at6 | exact at7)) | (apply OKx_lss; exact rfl; exact rfl; all_goals (intro _; try (exfalso; omega))) | (apply OKx_geq; exact rfl; exact rfl; all_goals (intro _; try (exfalso; omega))) | (apply OKx_eql; exact rfl; exact rfl; all_goals (intro _; try (exfalso; omega))) | (apply OKx_neq; exact rfl; exact rfl; all_goals (intro _; try (exfalso; omega))) | (apply OKx_idxO; exact rfl; exact rfl; omega) | (apply OKx_idxR; ((conv => lhs; whnf) <;> exact rfl); (with_reducible assumption); exact rfl; omega; intro _ _) | (apply OKx_idxOz; exact rfl; exact rfl; omega; omega) | (apply OKx_idxRz; ((conv => lhs; whnf) <;> exact rfl); (with_reducible assumption); exact rfl; omega; omega; intro _ _) | (apply OKx_inc; exact rfl; exact rfl; omega) | (apply OKx_addN; exact rfl; exact rfl; omega) | (apply OKx_add; exact rfl; exact rfl; omega; omega) | (apply OKx_pickT; exact rfl; ((conv => lhs; whnf) <;> exact rfl)) | (apply OKx_pickF; exact rfl; ((conv => lhs; whnf) <;> exact rfl)) | (apply OKx_guardT; exact rfl; exact rfl) | (apply OKx_guardF; exact rfl; exact rfl) | (apply OKx_guardU; exact rfl; exact rfl) | (apply OKx_notT; exact rfl) | (apply OKx_notF; exact rfl) | (apply OKx_extract; exact rfl; ((conv => lhs; whnf) <;> exact rfl)) | (apply OKx_boxA; exact rfl; intro _) | (apply OKx_ldBA; exact rfl; (first | exact at0 | exact at1 | exact at2 | exact at3 | exact at4 | exact at5 | exact at6 | exact at7); exact rfl) | (apply OKx_ldRA; ((conv => lhs; whnf) <;> exact rfl); (with_reducible assumption)) | (apply OKx_slit1; ((conv => lhs; whnf) <;> exact rfl); exact rfl; intro _))
    first | refine bodyQ_r1 (by ((conv => lhs; whnf) <;> exact rfl)) ?_ | refine bodyQ_r2 (by ((conv => lhs; whnf) <;> exact rfl)) (by ((conv => lhs; whnf) <;> exact rfl)) ?_ | refine bodyQ_r3 (by ((conv => lhs; whnf) <;> exact rfl)) (by ((conv => lhs; whnf) <;> exact rfl)) (by ((conv => lhs; whnf) <;> exact rfl)) ?_ | refine bodyQ_r0 ?_ | refine bodyQ_n0 ?_
    exact ⟨_, Ent.nil, rfl, rfl⟩
  have hpl := posL_len s st k
  have hpb := hpb k hk
  have hpk := hpk k hk
  have hpa := hpa k
  have hZ' : ∀ w2, Hp w.heap.size w w2 Z → Ints w2 (vs.getD k undef) (posL s st k) := fun w2 hp2 => hZ _ w2 hp2 k hk
  refine OK_world fun w1 hp1 => ?_
  obtain ⟨xa, xc, hxv, hxc⟩ := Sl.form (C := fun w1 => Hp w.heap.size w w1 Z) (fun w2 hp2 => (hZ' w2 hp2).sl) w1 hp1.drop1.drop1.drop1
  rw [hxv] at hZ'
  have hgk : vs[k]? = some (.slice xa (posL s st k).length xc) := by rw [← hxv]; exact List.getElem?_eq_getElem (by omega) |>.trans (by rw [getD_lt _ _ _ (show k < vs.length by omega)])
  generalize posL s st k = xs at *
  have hx0 : 0 < xs.length := List.length_pos_of_mem hpb
  have hcmp := compact_of_asc xs hpa
  have hhas : hasI xs (bs.getD k 0) = true := by unfold hasI; exact List.contains_iff_mem.2 hpb
  have hZs : ∀ w2 L', Hp w.heap.size w w2 L' → Z.Sublist L' → Ints w2 (.slice xa xs.length xc) xs := fun w2 L' hp hsub => hZ' w2 (hp.sub hsub)
  repeat' (first | (apply OK_seq) | (apply thenQ_n) | (apply OK_region) | (apply OKx_gi; refine OKx_idxO (i := k) rfl rfl (by omega) ?_) | (apply OKx_gl; refine OKx_ldW 2 rfl rfl (by omega) hgk ?_) | (apply OKx_gc 56; exact rfl; refine OKx_callV (f := 56) (v := .bool true) rfl rfl rfl (fun w1 hp => isSorted_sat _ xs w1 (hZs w1 _ hp (by repeat (first | exact List.Sublist.refl _ | apply List.Sublist.cons))) hpa) ?_) | (apply OKx_gc 30; exact rfl; refine OKx_call (f := 30) rfl rfl (fun w1 hp => clone_int_sat _ xs w1 (hZs w1 _ hp (by repeat (first | exact List.Sublist.refl _ | apply List.Sublist.cons))) (by omega)) ?_; rintro u1 _ rfl; rw [List.cons_append, List.nil_append]; refine OKx_world fun w9 hp9 => ?_; obtain ⟨gu, cu, rfl⟩ := hp9.rowForm 0 rfl hx0) | (apply OKx_gc 57; exact rfl; refine OKx_callL (f := 57) rfl rfl (compact_int_sat gu cu xs.length xs _ _ 0 rfl rfl (by omega)) ?_; rintro _ _ ⟨kk, hkk, rfl, rfl⟩; rw [hcmp] at hkk; subst hkk; rw [List.set_cons_zero, hcmp]) | (apply OKx_gl; refine OKx_ldI 1 rfl rfl (by omega) ?_) | (apply OKx_gc 28; exact rfl; refine OKx_callV (f := 28) (v := .bool true) rfl rfl rfl (fun w1 hp => by have := contains_int_sat _ xs (bs.getD k 0) w1 (hZs w1 _ hp (by repeat (first | exact List.Sublist.refl _ | apply List.Sublist.cons))); rwa [hhas] at this) ?_) | (apply OKx_gc 25; exact rfl; refine OKx_callV (f := 25) (v := .bool true) rfl rfl rfl (fun w1 hp => equalT_sat _ _ xs [st.getD k 0] w1 (hZs w1 _ hp (by repeat (first | exact List.Sublist.refl _ | apply List.Sublist.cons))) (hp.ints 0 rfl (by decide)) (hpk (by omega))) ?_) | (apply OKx_nilK) | (apply OK_block) | (apply blockQ_n) | (apply blockQ_s) | (apply thenQ_e) | (apply blockQ_e; exact rfl) | (apply thenQ_r) | (apply blockQ_r) | (apply OK_condT; exact rfl) | (apply OK_condF; exact rfl) | (apply OK_skip) | (apply OK_exit) | (apply OK_ret) | (apply OKx_move; ((conv => lhs; whnf) <;> exact rfl)) | (apply OKx_assign; ((conv => lhs; whnf) <;> exact rfl)) | (apply OKx_ldB; exact rfl; (first | exact at0 | exact at1 | exact at2 | exact at3 | exact at4 | exact at5 | exact at6 | exact at7); exact rfl) | (apply OKx_ldR; ((conv => lhs; whnf) <;> exact rfl); (with_reducible assumption)) | (apply OKx_ldI; exact rfl; (first | exact at0 | exact at1 | exact at2 | exact at3 | exact at4 | exact at5 | exact at6 | exact at7); omega) | (apply OKx_len; exact rfl) | (apply OKx_lenR; ((conv => lhs; whnf) <;> exact rfl); (with_reducible assumption)) | (apply OKx_lenR2; ((conv => lhs; whnf) <;> exact rfl); (with_reducible assumption)) | (apply OKx_lenO; ((conv => lhs; whnf) <;> exact rfl); (first | exact at0 | exact at1 | exact at2 | exact at3 | exact at4 | exact at5 | exact at6 | exact at7)) | (apply OKx_lss; exact rfl; exact rfl; all_goals (intro _; try (exfalso; omega))) | (apply OKx_geq; exact rfl; exact rfl; all_goals (intro _; try (exfalso; omega))) | (apply OKx_eql; exact rfl; exact rfl; all_goals (intro _; try (exfalso; omega))) | (apply OKx_neq; exact rfl; exact rfl; all_goals (intro _; try (exfalso; omega))) | (apply OKx_idxO; exact rfl; exact rfl; omega) | (apply OKx_idxR; ((conv => lhs; whnf) <;> exact rfl); (with_reducible assumption); exact rfl; omega; intro _ _) | (apply OKx_idxOz; exact rfl; exact rfl; omega; omega) | (apply OKx_idxRz; ((conv => lhs; whnf) <;> exact rfl); (with_reducible assumption); exact rfl; omega; omega; intro _ _) | (apply OKx_inc; exact rfl; exact rfl; omega) | (apply OKx_addN; exact rfl; exact rfl; omega) | (apply OKx_add; exact rfl; exact rfl; omega; omega) | (apply OKx_pickT; exact rfl; ((conv => lhs; whnf) <;> exact rfl)) | (apply OKx_pickF; exact rfl; ((conv => lhs; whnf) <;> exact rfl)) | (apply OKx_guardT; exact rfl; exact rfl) | (apply OKx_guardF; exact rfl; exact rfl) | (apply OKx_guardU; exact rfl; exact rfl) | (apply OKx_notT; exact rfl) | (apply OKx_notF; exact rfl) | (apply OKx_extract; exact rfl; ((conv => lhs; whnf) <;> exact rfl)) | (apply OKx_boxA; exact rfl; intro _) | (apply OKx_ldBA; exact rfl; (first | exact at0 | exact at1 | exact at2 | exact at3 | exact at4 | exact at5 | exact at6 | exact at7); exact rfl) | (apply OKx_ldRA; ((conv => lhs; whnf) <;> exact rfl); (with_reducible assumption)) | (apply OKx_slit1; ((conv => lhs; whnf) <;> exact rfl); exact rfl; intro _))
  · refine ⟨by (repeat' (first | refine agree_upd rfl ?_ | exact agree_over | exact agree_refl _ _ | refine agree_over2 rfl ?_)), m - 1, _, by omega, Ent.sub (((List.Sublist.refl _).cons _).cons _), ?_⟩
    exact ⟨k + 1, by omega, rfl, rfl⟩
  · refine ⟨by (repeat' (first | refine agree_upd rfl ?_ | exact agree_over | exact agree_refl _ _ | refine agree_over2 rfl ?_)), m - 1, _, by omega, Ent.sub ((List.Sublist.refl _).cons _), ?_⟩
    exact ⟨k + 1, by omega, rfl, rfl⟩
end Go.Proofs.Ytmclgfipdgmomaa
namespace Go.Proofs.Ytmclgfipdgmomaa
open Go.RowKit Go.Deep Go.WideShapes
section
variable {H : Type} {enc : TypeId × Value → H} {W : World}
def Light (t : TypeId) (d : DataW H) : Prop := ∀ n ∈ d.weights Try.prog t, n ≤ 140737488355328
theorem light_all {e : TypeId} {els : List (DataW H)} {d : DataW H} (hd : d ∈ els) {n : Nat} (hn : n ∈ d.weights Try.prog e) : n ∈ DataW.weightsAll Try.prog e els := by
  induction els with
  | nil => simp at hd
  | cons a r ih =>
    simp only [DataW.weightsAll, List.mem_append]
    rcases List.mem_cons.1 hd with rfl | h
    · exact .inl hn
    · exact .inr (ih h)
theorem light_slice {t e : TypeId} {els sp : List (DataW H)} (hu : Try.prog.underlying t = some (.slice e)) (h : Light t (.slice els sp)) : (els.length + sp.length) * Try.prog.bytesOf e ≤ 140737488355328 ∧ ∀ d ∈ els, Light e d := by
  unfold Light at *
  simp only [DataW.weights, hu] at h
  exact ⟨h _ (by simp), fun d hd n hn => h n (by simp [light_all hd hn])⟩
theorem light_agg {t : TypeId} {fs : Array Field} {parts : List (DataW H)} (hu : Try.prog.underlying t = some (.struct fs)) (h : Light t (.agg parts)) (j : Nat) {ty : TypeId} {d : DataW H} (h1 : (fs.toList.map (·.type))[j]? = some ty) (h2 : parts[j]? = some d) : Light ty d := by
  intro n hn
  refine h n ?_
  simp only [DataW.weights, hu]
  exact DataW.weights_mem_each h1 h2 n hn
theorem light_each {ts : List TypeId} {ds : List (DataW H)} (h : (DataW.weightsEach Try.prog ts ds).all (· ≤ reachBytes) = true) (j : Nat) {t : TypeId} {d : DataW H} (h1 : ts[j]? = some t) (h2 : ds[j]? = some d) : Light t d := by
  intro n hn
  have : n ≤ reachBytes := by simpa using List.all_eq_true.1 h _ (DataW.weights_mem_each h1 h2 n hn)
  have r : reachBytes = 140737488351232 := rfl
  omega
theorem light_string {t : TypeId} {b : List UInt8} (h : Light t (.lit (.string b) : DataW H)) : b.length ≤ 140737488355328 := h _ (by simp [DataW.weights])
theorem wf_range {z : Int} (h : (Lit.int .i64 z).wf = true) : -9223372036854775808 ≤ z ∧ z ≤ 9223372036854775807 := by
  have e1 : IntKind.i64.min = -9223372036854775808 := rfl
  have e2 : IntKind.i64.max = 9223372036854775807 := rfl
  simp only [Lit.wf, Bool.and_eq_true, decide_eq_true_eq] at h
  omega
theorem open_sl2 {t e : TypeId} {fuel sz : Nat} {v : Value} {x : DataW H × List MemPlace} (ht : Try.prog.underlying t = some (.slice e)) (hc : Try.prog.cellsOf e = sz) (hsz : 0 < sz) (hb : 0 < Try.prog.bytesOf e)
    (h : DataW.trod enc Try.prog W 0 (fun _ => true) true fuel t [v] = some x) (hw : Light t x.1) :
    ∃ (n m : Nat) (C : Nat → List Value) (D : Nat → DataW H) (Q : Nat → List MemPlace), Sl2 W v sz n (fun j c => (C j).getD c undef) ∧ (∀ a k c, v = .slice a k c → k ≤ c) ∧
      ∀ i, i < n → (C i).length = sz ∧ DataW.trod enc Try.prog W 0 (fun _ => true) true m e (C i) = some (D i, Q i) ∧ Light e (D i) := by
  rcases open_slice ht h with ⟨h1, h2⟩ | ⟨a, len, cap, m, n, D, Q, h1, _, hl, hm, hmm, rfl, hx⟩
  · simp only [List.cons.injEq, and_true] at h1
    subst h1; subst h2
    refine ⟨0, 0, fun _ => [], fun _ => .nil, fun _ => [], ⟨by omega, none, 0, rfl, .inl rfl⟩, ?_, fun i hi => absurd hi (by omega)⟩
    intro a k c e
    cases e; exact Nat.le_refl _
  · simp only [List.cons.injEq, and_true] at h1
    subst h1
    simp only [if_true] at hmm
    subst hmm
    obtain ⟨hw1, hw2⟩ := light_slice ht hw
    rw [hc] at hx
    have hx' : ∀ i, i < len → ∃ cs', W.cells? 0 (a.add (i * sz)) sz = some cs' ∧ DataW.trod enc Try.prog W 0 (fun _ => true) true n e cs' = some (D i, Q i) := fun i hi => hx i (by omega)
    obtain ⟨C, hC⟩ := choose_lt (α := List Value) hx'
    have hlen : len ≤ 140737488355328 := by
      have : len * 1 ≤ len * Try.prog.bytesOf e := Nat.mul_le_mul_left _ hb
      simp only [List.length_map, List.length_range] at hw1
      have h3 : len * Try.prog.bytesOf e ≤ (len + (m - len)) * Try.prog.bytesOf e := Nat.mul_le_mul_right _ (by omega)
      omega
    refine ⟨len, n, C, D, Q, ⟨hlen, some a, m, rfl, ?_⟩, ?_, fun i hi => ?_⟩
    · by_cases h0 : len = 0
      · exact .inl h0
      right
      obtain ⟨b, off, spot⟩ := a
      have hs : spot = none := by
        obtain ⟨_, h4, h5⟩ := World.cells?_some (hC 0 (by omega)).1
        have h6 := h5 0 hsz
        obtain ⟨u, hu⟩ : ∃ u, (C 0)[0]? = some u := ⟨_, List.getElem?_eq_getElem (by omega)⟩
        rw [hu] at h6
        simpa [Addr.add] using World.cell?_spot h6
      subst hs
      refine ⟨b, off, rfl, fun j hj c hcs => ?_⟩
      obtain ⟨_, h4, h5⟩ := World.cells?_some (hC j hj).1
      have h6 := h5 c hcs
      rw [add_plain, add_plain] at h6
      rw [h6]
      simp [h4, hcs]
    · intro a' k c e
      cases e; exact hl
    · obtain ⟨_, h4, h5⟩ := World.cells?_some (hC i hi).1
      refine ⟨h4, (hC i hi).2, hw2 _ ?_⟩
      exact List.mem_map.2 ⟨i, List.mem_range.2 hi, rfl⟩
theorem Sl2.flat {v : Value} {sz n : Nat} {g : Nat → Nat → Value} (h : Sl2 W v sz n g) (hr : ∀ a k c, v = .slice a k c → k ≤ c) (f : Nat → Value) (hf : ∀ j, j < n → ∀ c, c < sz → f (j * sz + c) = g j c) (hsz : 0 < sz) : Sl W v sz n f := by
  obtain ⟨h1, a, cap, rfl, h2⟩ := h
  refine ⟨h1, ⟨a, cap, rfl, ?_⟩, hr⟩
  rcases h2 with h0 | ⟨b, off, ha, hc⟩
  · exact .inl h0
  refine .inr ⟨b, off, ha, fun j hj => ?_⟩
  have h3 := Nat.div_add_mod j sz
  have h4 := Nat.mod_lt j hsz
  have h5 : j / sz < n := (Nat.div_lt_iff_lt_mul hsz).2 hj
  have h6 := hc (j / sz) h5 (j % sz) h4
  have h7 := hf (j / sz) h5 (j % sz) h4
  have h8 : j / sz * sz + j % sz = j := by rw [Nat.mul_comm]; exact h3
  rw [Nat.add_assoc, h8] at h6
  rw [h8] at h7
  rw [h6, h7]
theorem open_sl {t e : TypeId} {fuel : Nat} {v : Value} {x : DataW H × List MemPlace} (ht : Try.prog.underlying t = some (.slice e)) (hc : Try.prog.cellsOf e = 1) (hb : 0 < Try.prog.bytesOf e)
    (h : DataW.trod enc Try.prog W 0 (fun _ => true) true fuel t [v] = some x) (hw : Light t x.1) :
    ∃ (n m : Nat) (V : Nat → Value) (D : Nat → DataW H) (Q : Nat → List MemPlace), Sl W v 1 n V ∧
      ∀ i, i < n → DataW.trod enc Try.prog W 0 (fun _ => true) true m e [V i] = some (D i, Q i) ∧ Light e (D i) := by
  obtain ⟨n, m, C, D, Q, h1, h2, h3⟩ := open_sl2 ht hc (by decide) hb h hw
  refine ⟨n, m, fun j => (C j).getD 0 undef, D, Q, h1.flat h2 _ (fun j hj c hcs => ?_) (by decide), fun i hi => ?_⟩
  · obtain rfl : c = 0 := by omega
    simp
  · obtain ⟨h4, h5, h6⟩ := h3 i hi
    refine ⟨?_, h6⟩
    match hCi : C i, h4 with
    | [u], _ => rw [hCi] at h5; simpa [hCi] using h5
theorem range_getD {α : Type} (n : Nat) (f : Nat → α) (d : α) (j : Nat) (h : j < n) : ((List.range n).map f).getD j d = f j := by simp [h]
theorem Ints.open {fuel : Nat} {v : Value} {x : DataW H × List MemPlace} (h : DataW.trod enc Try.prog W 0 (fun _ => true) true fuel 27 [v] = some x) (hw : Light 27 x.1) :
    ∃ xs : List Int, Ints W v xs ∧ ∀ i ∈ xs, -9223372036854775808 ≤ i ∧ i ≤ 9223372036854775807 := by
  obtain ⟨n, m, V, D, Q, h1, h2⟩ := open_sl Try.underlying27 (by kernel_rfl) (of_decide_eq_true (by kernel_rfl)) h hw
  obtain ⟨Z, hZ⟩ := choose_lt (α := Int) (p := fun i z => V i = .int .i64 z ∧ -9223372036854775808 ≤ z ∧ z ≤ 9223372036854775807) (fun i hi => by
    obtain ⟨z, h4, _, h5⟩ := DataW.trod_int Try.underlying3 (h2 i hi).1
    refine ⟨z, by simpa using h4, ?_⟩
    have e1 : IntKind.i64.min = -9223372036854775808 := rfl
    have e2 : IntKind.i64.max = 9223372036854775807 := rfl
    simp only [Lit.wf, Bool.and_eq_true, decide_eq_true_eq] at h5
    omega)
  refine ⟨(List.range n).map Z, ?_, ?_⟩
  · unfold Ints
    rw [List.length_map, List.length_range]
    exact h1.congr fun j hj => (hZ j (by omega)).1.trans (by rw [range_getD _ _ _ _ (by omega)])
  · intro i hi
    obtain ⟨j, hj, rfl⟩ := List.mem_map.1 hi
    exact (hZ j (List.mem_range.1 hj)).2
theorem Bools.open {fuel : Nat} {v : Value} {x : DataW H × List MemPlace} (h : DataW.trod enc Try.prog W 0 (fun _ => true) true fuel 23 [v] = some x) (hw : Light 23 x.1) :
    ∃ xs : List Bool, Bools W v xs := by
  obtain ⟨n, m, V, D, Q, h1, h2⟩ := open_sl Try.underlying23 (by kernel_rfl) (of_decide_eq_true (by kernel_rfl)) h hw
  obtain ⟨Z, hZ⟩ := choose_lt (α := Bool) (p := fun i z => V i = .bool z) (fun i hi => by
    obtain ⟨z, h4, _⟩ := DataW.trod_bool Try.underlying4 (h2 i hi).1
    exact ⟨z, by simpa using h4⟩)
  refine ⟨(List.range n).map Z, ?_⟩
  unfold Bools
  rw [List.length_map, List.length_range]
  exact h1.congr fun j hj => (hZ j (by omega)).trans (by rw [range_getD _ _ _ _ (by omega)])
theorem Strs.open {fuel : Nat} {v : Value} {x : DataW H × List MemPlace} (h : DataW.trod enc Try.prog W 0 (fun _ => true) true fuel 22 [v] = some x) (hw : Light 22 x.1) :
    ∃ xs : List ByteArray, Strs W v xs := by
  obtain ⟨n, m, V, D, Q, h1, h2⟩ := open_sl Try.underlying22 (by kernel_rfl) (of_decide_eq_true (by kernel_rfl)) h hw
  obtain ⟨Z, hZ⟩ := choose_lt (α := ByteArray) (p := fun i z => V i = .string z ∧ z.size ≤ 140737488355328) (fun i hi => by
    obtain ⟨h3, h4⟩ := h2 i hi
    obtain ⟨z, h5, h6, _⟩ := DataW.trod_string Try.underlying9 h3
    simp only [Prod.mk.injEq] at h6
    rw [h6.1] at h4
    exact ⟨z, by simpa using h5, by simpa using light_string h4⟩)
  refine ⟨(List.range n).map Z, ?_, ?_⟩
  · rw [List.length_map, List.length_range]
    exact h1.congr fun j hj => (hZ j (by omega)).1.trans (by rw [range_getD _ _ _ _ (by omega)])
  · intro i hi
    obtain ⟨j, hj, rfl⟩ := List.mem_map.1 hi
    exact (hZ j (List.mem_range.1 hj)).2
theorem Tabs.open {fuel : Nat} {v : Value} {x : DataW H × List MemPlace} (h : DataW.trod enc Try.prog W 0 (fun _ => true) true fuel 24 [v] = some x) (hw : Light 24 x.1) :
    ∃ xs : List (List Int), Tabs W v xs ∧ ∀ r ∈ xs, ∀ i ∈ r, -9223372036854775808 ≤ i ∧ i ≤ 9223372036854775807 := by
  obtain ⟨n, m, V, D, Q, h1, h2⟩ := open_sl Try.underlying24 (by kernel_rfl) (of_decide_eq_true (by kernel_rfl)) h hw
  obtain ⟨Z, hZ⟩ := choose_lt (α := List Int) (p := fun i z => Ints W (V i) z ∧ ∀ i ∈ z, -9223372036854775808 ≤ i ∧ i ≤ 9223372036854775807) (fun i hi => Ints.open (h2 i hi).1 (h2 i hi).2)
  refine ⟨(List.range n).map Z, ⟨(List.range n).map V, ?_, by simp, ?_⟩, ?_⟩
  · rw [List.length_map, List.length_range]
    exact h1.congr fun j hj => by rw [range_getD _ _ _ _ (by omega)]
  · intro j hj
    have hj' : j < n := by simpa using hj
    rw [range_getD _ _ _ _ hj']
    simpa using (hZ j hj').1
  · intro i hi
    obtain ⟨j, hj, rfl⟩ := List.mem_map.1 hi
    exact (hZ j (List.mem_range.1 hj)).2
theorem Stm.open {v : Value} {d : DataW H} {ps : List MemPlace} (ho : ∃ cs, v = .agg cs ∧ cs.size = Try.prog.cellsOf 26) (h : DataW.Trod enc Try.prog W 0 (fun _ => true) true 26 v d ps) (hw : Light 26 d) :
    ∃ s, Stm W v s := by
  obtain ⟨⟨cl⟩, rfl, hsz⟩ := ho
  have hC : Try.prog.cellsOf 26 = 3 := by kernel_rfl
  rw [hC] at hsz
  obtain ⟨fuel, h⟩ := h
  match cl, hsz with
  | [nv, ev, pv], _ =>
    obtain ⟨y0, y1, y2, n, e, _, h0, h1, h2⟩ := trod_struct3 Try.underlying26 h
    simp only [Prod.mk.injEq] at e
    obtain ⟨rfl, rfl⟩ := e
    have c1 : Try.prog.cellsOf 22 = 1 := by kernel_rfl
    have c2 : Try.prog.cellsOf 23 = 1 := by kernel_rfl
    have c3 : Try.prog.cellsOf 24 = 1 := by kernel_rfl
    obtain ⟨xs, hx⟩ := Strs.open (v := nv) (by simpa [Value.cells, c1] using h0) (light_agg Try.underlying26 hw 0 rfl rfl)
    obtain ⟨ys, hy⟩ := Bools.open (v := ev) (by simpa [Value.cells, c2] using h1) (light_agg Try.underlying26 hw 1 rfl rfl)
    obtain ⟨zs, hz, _⟩ := Tabs.open (v := pv) (by simpa [Value.cells, c3] using h2) (light_agg Try.underlying26 hw 2 rfl rfl)
    exact ⟨⟨xs, ys, zs⟩, nv, ev, pv, rfl, hx, hy, hz⟩
end
section
variable {H : Type} {enc : TypeId × Value → H} {W : World}
theorem one_cell {v : Value} (ho : ∃ a n c, v = .slice a n c) : v.cells.toList = [v] := by obtain ⟨a, n, c, rfl⟩ := ho; rfl
theorem Ints.openT {v : Value} {d : DataW H} {ps : List MemPlace} (ho : ∃ a n c, v = .slice a n c) (h : DataW.Trod enc Try.prog W 0 (fun _ => true) true 27 v d ps) (hw : Light 27 d) :
    ∃ xs : List Int, Ints W v xs ∧ ∀ i ∈ xs, -9223372036854775808 ≤ i ∧ i ≤ 9223372036854775807 := by
  obtain ⟨fuel, h⟩ := h
  rw [one_cell ho] at h
  exact Ints.open h hw
theorem Tabs.openT {v : Value} {d : DataW H} {ps : List MemPlace} (ho : ∃ a n c, v = .slice a n c) (h : DataW.Trod enc Try.prog W 0 (fun _ => true) true 24 v d ps) (hw : Light 24 d) :
    ∃ xs : List (List Int), Tabs W v xs ∧ ∀ r ∈ xs, ∀ i ∈ r, -9223372036854775808 ≤ i ∧ i ≤ 9223372036854775807 := by
  obtain ⟨fuel, h⟩ := h
  rw [one_cell ho] at h
  exact Tabs.open h hw
theorem u8.openT {v : Value} {d : DataW H} {ps : List MemPlace} (h : ∃ n, v = .int .u8 n ∧ d = .lit (.int .u8 n) ∧ ps = [] ∧ (Lit.int .u8 n).wf = true) : ∃ n : Int, v = .int .u8 n ∧ 0 ≤ n ∧ n ≤ 255 := by
  obtain ⟨n, rfl, _, _, hw⟩ := h
  have e1 : IntKind.u8.min = 0 := rfl
  have e2 : IntKind.u8.max = 255 := rfl
  simp only [Lit.wf, Bool.and_eq_true, decide_eq_true_eq] at hw
  exact ⟨n, rfl, by omega, by omega⟩
theorem int.openT {v : Value} {d : DataW H} {ps : List MemPlace} (h : ∃ n, v = .int .i64 n ∧ d = .lit (.int .i64 n) ∧ ps = [] ∧ (Lit.int .i64 n).wf = true) : ∃ n : Int, v = .int .i64 n ∧ -9223372036854775808 ≤ n ∧ n ≤ 9223372036854775807 := by
  obtain ⟨n, rfl, _, _, hw⟩ := h
  exact ⟨n, rfl, wf_range hw⟩
theorem again_all (hl : laidOutB Try.prog = true) {W' : World} (hb : Below W.heap.size W W') : ∀ {ts : List TypeId} {vs : List Value} {ds : List (DataW H)} {ps : List MemPlace},
    (ts.all fun t => Try.prog.readableRec t && decide (t < Try.prog.types.size)) = true → DataW.TrodAll enc Try.prog W 0 (fun _ => true) true ts vs ds ps → (∀ x ∈ ps, x.block < W.heap.size) →
    DataW.TrodAll enc Try.prog W' 0 (fun b => decide (b < W.heap.size)) true ts vs ds ps := by
  intro ts
  induction ts with
  | nil => intro vs ds ps _ h _; obtain ⟨rfl, rfl, rfl⟩ := Go.ChangeShapes.trodAll_nil h; rfl
  | cons t ts ih =>
    intro vs ds ps ht h hlt
    obtain ⟨v, vs', d, ds', p, q, rfl, rfl, rfl, h1, h2⟩ := Go.ChangeShapes.trodAll_cons h
    simp only [List.all_cons, Bool.and_eq_true, decide_eq_true_eq] at ht
    exact ⟨p, q, Below.trod hl ht.1.1 ht.1.2 h1 hb (fun x hx => hlt x (List.mem_append_left _ hx)), ih (by simpa using ht.2) h2 (fun x hx => hlt x (List.mem_append_right _ hx)), rfl⟩
end
end Go.Proofs.Ytmclgfipdgmomaa
