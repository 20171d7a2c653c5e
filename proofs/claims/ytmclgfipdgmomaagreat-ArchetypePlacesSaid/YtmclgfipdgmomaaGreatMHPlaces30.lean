/-
  Part 30 of the proof: Pp39. No statement of the seat is proved here.
-/
import Derived.Test.YtmclgfipdgmomaaGreatMHPlaces29
namespace Go.Proofs.YtmclgfipdgmomaaGreat
theorem posL_mem (s : Stem) (st : List Int) (i : Nat) (x : Int) : x ∈ posL s st i ↔ 0 ≤ x ∧ x < 16 ∧ ∃ a ∈ asgs (occ st) st, (costN s.par a : Int) = (best1 s st).2 ∧ a.getD i 0 = x := by
  unfold posL
  simp only [List.mem_map, List.mem_filter, List.mem_range]
  unfold seenB
  simp only [List.any_eq_true, Bool.and_eq_true, decide_eq_true_eq, beq_iff_eq]
  constructor
  · rintro ⟨y, ⟨h1, a, ha, hc, hy⟩, rfl⟩
    exact ⟨by omega, by omega, a, ha, hc, hy⟩
  · rintro ⟨h0, h1, a, ha, hc, hy⟩
    obtain ⟨y, rfl⟩ := Int.eq_ofNat_of_zero_le h0
    exact ⟨y, ⟨by omega, a, ha, hc, hy⟩, rfl⟩
theorem posL_asc (s : Stem) (st : List Int) (i : Nat) : (posL s st i).Pairwise (· < ·) := by
  unfold posL
  rw [List.pairwise_map]
  refine (List.Pairwise.filter _ (List.pairwise_lt_range (n := 16))).imp ?_
  intro a b h
  omega
theorem asgs_rng (st a : List Int) (hr : ∀ x ∈ st, x < 16) (ha : a ∈ asgs (occ st) st) (i : Nat) (hi : i < st.length) : 0 ≤ a.getD i 0 ∧ a.getD i 0 < 16 := by
  have h := ((asgs_mem _ _ _).1 ha).2 i hi
  by_cases hs : st.getD i 0 < 0
  · rw [if_pos hs] at h
    exact occ_range st _ h
  · rw [if_neg hs] at h
    have := hr _ (getD_mem st i 0 hi)
    omega
theorem pos_best (s : Stem) (st : List Int) (hr : ∀ x ∈ st, x < 16) (i : Nat) (hi : i < st.length) : (best1 s st).1.getD i 0 ∈ posL s st i := by
  obtain ⟨h1, h2, _⟩ := best1_spec s st
  have h3 := asgs_rng st _ hr h1 i hi
  exact (posL_mem s st i _).2 ⟨h3.1, h3.2, _, h1, h2.symm, rfl⟩
theorem pos_known (s : Stem) (st : List Int) (hr : ∀ x ∈ st, x < 16) (i : Nat) (hi : i < st.length) (hk : 0 ≤ st.getD i 0) : posL s st i = [st.getD i 0] := by
  refine asc_ext _ _ (posL_asc s st i) (List.pairwise_singleton _ _) fun x => ?_
  rw [List.mem_singleton, posL_mem]
  constructor
  · rintro ⟨_, _, a, ha, _, rfl⟩
    have h := ((asgs_mem _ _ _).1 ha).2 i hi
    rwa [if_neg (by omega)] at h
  · rintro rfl
    have hb := pos_best s st hr i hi
    have h := ((asgs_mem _ _ _).1 (best1_spec s st).1).2 i hi
    rw [if_neg (by omega)] at h
    rw [h] at hb
    exact (posL_mem s st i _).1 hb
theorem pos_occ (s : Stem) (st : List Int) (i : Nat) (hi : i < st.length) (x : Int) (h : x ∈ posL s st i) (hu : st.getD i 0 < 0) : x ∈ occ st := by
  obtain ⟨_, _, a, ha, _, rfl⟩ := (posL_mem s st i x).1 h
  have h := ((asgs_mem _ _ _).1 ha).2 i hi
  rwa [if_pos hu] at h
theorem occ_known (st : List Int) (x : Int) (h : x ∈ occ st) : x ∈ st ∧ 0 ≤ x ∨ (∀ y ∈ st, y < 16 → y < 0) ∧ x = 0 := by
  unfold occ at h
  split at h
  · rename_i h0
    right
    refine ⟨fun y hy h16 => ?_, by simpa using h⟩
    by_cases hn : 0 ≤ y
    · have : y ∈ srtK st 16 := (srtK_mem _ _ _).2 ⟨hy, hn, by omega⟩
      rw [h0] at this; simp at this
    · omega
  · exact .inl ⟨((srtK_mem _ _ _).1 h).1, ((srtK_mem _ _ _).1 h).2.1⟩
theorem set_mem (st : List Int) (i : Nat) (hi : i < st.length) (x y : Int) : y ∈ st.set i x ↔ y = x ∨ ∃ j, j < st.length ∧ j ≠ i ∧ st.getD j 0 = y := by
  constructor
  · intro h
    obtain ⟨j, hj, e⟩ := List.getElem_of_mem h
    rw [List.length_set] at hj
    rw [List.getElem_set] at e
    split at e
    · exact .inl e.symm
    · rename_i hne
      exact .inr ⟨j, hj, fun h => hne h.symm, by rw [getD_lt _ _ _ hj]; exact e⟩
  · rintro (rfl | ⟨j, hj, hne, rfl⟩)
    · exact List.mem_set hi _
    · have : (st.set i x).getD j 0 = st.getD j 0 := by rw [setI_getD _ _ _ _ hj, if_neg (fun h => hne h.symm)]
      rw [← this]
      exact getD_mem _ _ _ (by simpa using hj)
theorem occ_set (st : List Int) (hr : ∀ x ∈ st, x < 16) (i : Nat) (hi : i < st.length) (hu : st.getD i 0 < 0) (x : Int) (hx : x ∈ occ st) : occ (st.set i x) = occ st := by
  have hx16 := occ_range st x hx
  have key : ∀ y, 0 ≤ y → (y ∈ st.set i x ↔ y ∈ st ∨ y = x) := fun y hy => by
    rw [set_mem st i hi]
    constructor
    · rintro (h | ⟨j, hj, _, rfl⟩)
      · exact .inr h
      · exact .inl (getD_mem _ _ _ hj)
    · rintro (h | h)
      · obtain ⟨j, hj, e⟩ := List.getElem_of_mem h
        refine .inr ⟨j, hj, ?_, by rw [getD_lt _ _ _ hj]; exact e⟩
        rintro rfl
        rw [getD_lt _ _ _ hj] at hu
        omega
      · exact .inl h
  have hxm : x ∈ srtK (st.set i x) 16 := (srtK_mem _ _ _).2 ⟨(key x hx16.1).2 (.inr rfl), hx16.1, by omega⟩
  have e1 : occ (st.set i x) = srtK (st.set i x) 16 := if_neg (List.ne_nil_of_mem hxm)
  rw [e1]
  have hasc : (occ st).Pairwise (· < ·) := by
    unfold occ
    split
    · exact List.pairwise_singleton _ _
    · exact srtK_asc _ _
  refine asc_ext _ _ (srtK_asc _ _) hasc fun y => ?_
  rw [srtK_mem]
  constructor
  · rintro ⟨h1, h2, h3⟩
    rcases (key y h2).1 h1 with h | h
    · exact occ_mem st y h h2 (by omega)
    · rw [h]; exact hx
  · intro h
    have hy := occ_range st y h
    refine ⟨(key y hy.1).2 ?_, hy.1, by omega⟩
    rcases occ_known st y h with ⟨h1, _⟩ | ⟨h1, h2⟩
    · exact .inl h1
    · rcases occ_known st x hx with ⟨h3, h4⟩ | ⟨_, h3⟩
      · have := h1 x h3 (by omega)
        omega
      · exact .inr (by omega)
theorem unk_set (st : List Int) (i : Nat) (x : Int) (hx : 0 ≤ x) : unk (st.set i x) ≤ unk st := by
  induction st generalizing i with
  | nil => simp
  | cons a st ih =>
    cases i with
    | zero => rw [List.set_cons_zero, unk, unk, if_neg (by omega)];omega
    | succ i => rw [List.set_cons_succ, unk, unk]; have := ih i;omega
theorem asgs_set (vs st : List Int) (i : Nat) (hi : i < st.length) (x : Int) (hx0 : 0 ≤ x) (hx : st.getD i 0 < 0 ∧ x ∈ vs ∨ st.getD i 0 = x) (a : List Int) : a ∈ asgs vs (st.set i x) ↔ a ∈ asgs vs st ∧ a.getD i 0 = x := by
  rw [asgs_mem, asgs_mem, List.length_set]
  constructor
  · rintro ⟨h1, h2⟩
    have hi2 := h2 i hi
    rw [setI_getD _ _ _ _ hi, if_pos rfl, if_neg (by omega)] at hi2
    refine ⟨⟨h1, fun j hj => ?_⟩, hi2⟩
    have h3 := h2 j hj
    rw [setI_getD _ _ _ _ hj] at h3
    by_cases hij : i = j
    · subst hij
      split
      · rw [hi2]
        exact hx.elim (·.2) (by omega)
      · rw [hi2]
        exact (hx.elim (by omega) id).symm
    · rwa [if_neg hij] at h3
  · rintro ⟨⟨h1, h2⟩, h3⟩
    refine ⟨h1, fun j hj => ?_⟩
    rw [setI_getD _ _ _ _ hj]
    by_cases hij : i = j
    · subst hij
      rw [if_pos rfl, if_neg (by omega)]; exact h3
    · rw [if_neg hij]; exact h2 j hj
theorem pos_given (s : Stem) (st : List Int) (h0 : scE s st = 0) (i : Nat) (hi : i < st.length) (x : Int) (hx : st.getD i 0 < 0 ∧ x ∈ occ st ∨ 0 ≤ x ∧ st.getD i 0 = x) :
    scE s (st.set i x) = 0 ∧ scN s st ≤ scN s (st.set i x) ∧ (scN s (st.set i x) = scN s st ↔ x ∈ posL s st i) := by
  obtain ⟨hc, hm⟩ := scE_inv h0
  obtain ⟨hc1, hc2, hc3⟩ := chkC_zero hc
  have hr : ∀ y ∈ st, y < 16 := fun y hy => (hc3 y hy).2
  have hx16 : 0 ≤ x ∧ x < 16 := by
    rcases hx with ⟨_, h⟩ | ⟨h, rfl⟩
    · exact occ_range st x h
    · exact ⟨h, hr _ (getD_mem st i 0 hi)⟩
  have ho : occ (st.set i x) = occ st := by
    rcases hx with ⟨h1, h2⟩ | ⟨_, rfl⟩
    · exact occ_set st hr i hi h1 x h2
    · congr 1
      rw [getD_lt _ _ _ hi, List.set_getElem_self]
  have hA : ∀ a, a ∈ asgs (occ (st.set i x)) (st.set i x) ↔ a ∈ asgs (occ st) st ∧ a.getD i 0 = x := fun a => by
    rw [ho]
    exact asgs_set (occ st) st i hi x hx16.1 (hx.imp id (·.2)) a
  have hc' : chkC s (st.set i x) = 0 := chkC_of hc1 (by simpa using hc2) fun y hy => by
    rcases (set_mem st i hi x y).1 hy with rfl | ⟨j, hj, _, rfl⟩
    · omega
    · exact hc3 _ (getD_mem _ _ _ hj)
  have hm' : many (st.set i x) = false := by
    refine many_end _ ?_
    rw [ho]
    exact Nat.le_trans (Nat.pow_le_pow_right (occ_pos st) (unk_set st i x hx16.1)) (pow_small st hm)
  have h0' := scE_ok hc' hm'
  rw [scN_ok h0', scN_ok h0]
  obtain ⟨b1, b2, b3⟩ := best1_spec s st
  obtain ⟨g1, g2, g3⟩ := best1_spec s (st.set i x)
  have hg := (hA _).1 g1
  have hle := b3 _ hg.1
  refine ⟨h0', by omega, ?_⟩
  rw [posL_mem]
  constructor
  · intro he
    exact ⟨hx16.1, hx16.2, _, hg.1, by omega, hg.2⟩
  · rintro ⟨_, _, a, ha, hca, hai⟩
    have := g3 a ((hA a).2 ⟨ha, hai⟩)
    omega
end Go.Proofs.YtmclgfipdgmomaaGreat
