/-
  Plain laws on dates: what a date says of its node. No program is in sight; no statement of the seat is proved here.
-/
import Derived.Test.YtpbohmddbfaiiaaErl
namespace Go.Proofs.Ytpbohmddbfaiiaa
open Go.RowKit

theorem put1_other (i : Nat) : ∀ (ds : List Dt) (xs : List Int), (∀ d ∈ ds, d.node.toNat ≠ i) → (ds.foldl put1 xs).getD i 0 = xs.getD i 0 := by
  intro ds
  induction ds with
  | nil => intro xs _; rfl
  | cons a ds ih =>
    intro xs h
    rw [List.foldl_cons, ih _ (fun d hd => h d (List.mem_cons_of_mem _ hd)), put1, getD_set, if_neg (fun e => h a List.mem_cons_self e.1)]
theorem put2_other (i : Nat) : ∀ (ds : List Dt) (xs : List Int), (∀ d ∈ ds, d.node.toNat ≠ i) → (ds.foldl put2 xs).getD i 0 = xs.getD i 0 := by
  intro ds
  induction ds with
  | nil => intro xs _; rfl
  | cons a ds ih =>
    intro xs h
    rw [List.foldl_cons, ih _ (fun d hd => h d (List.mem_cons_of_mem _ hd)), put2, getD_set, if_neg (fun e => h a List.mem_cons_self e.1)]
def Dist (ds : List Dt) : Prop := ds.Pairwise (fun a b => a.node ≠ b.node)
theorem put1_at : ∀ (ds : List Dt) (xs : List Int), Dist ds → (∀ d ∈ ds, 0 ≤ d.node ∧ d.node.toNat < xs.length) → ∀ d ∈ ds, (ds.foldl put1 xs).getD d.node.toNat 0 = d.fr := by
  intro ds
  induction ds with
  | nil => intro xs _ _ d hd; simp at hd
  | cons a ds ih =>
    intro xs h hn d hd
    have h2 := List.pairwise_cons.1 h
    have ha := hn a List.mem_cons_self
    rw [List.foldl_cons]
    rcases List.mem_cons.1 hd with rfl | hd
    · rw [put1_other _ _ _ (fun b hb => ?_), put1, getD_set, if_pos ⟨rfl, ha.2⟩]
      have h3 := h2.1 b hb
      have h4 := hn b (List.mem_cons_of_mem _ hb)
      omega
    · refine ih _ h2.2 (fun b hb => ?_) d hd
      have h4 := hn b (List.mem_cons_of_mem _ hb)
      rw [put1, List.length_set]
      exact h4
theorem put2_at : ∀ (ds : List Dt) (xs : List Int), Dist ds → (∀ d ∈ ds, 0 ≤ d.node ∧ d.node.toNat < xs.length) → ∀ d ∈ ds, (ds.foldl put2 xs).getD d.node.toNat 0 = d.to := by
  intro ds
  induction ds with
  | nil => intro xs _ _ d hd; simp at hd
  | cons a ds ih =>
    intro xs h hn d hd
    have h2 := List.pairwise_cons.1 h
    have ha := hn a List.mem_cons_self
    rw [List.foldl_cons]
    rcases List.mem_cons.1 hd with rfl | hd
    · rw [put2_other _ _ _ (fun b hb => ?_), put2, getD_set, if_pos ⟨rfl, ha.2⟩]
      have h3 := h2.1 b hb
      have h4 := hn b (List.mem_cons_of_mem _ hb)
      omega
    · refine ih _ h2.2 (fun b hb => ?_) d hd
      have h4 := hn b (List.mem_cons_of_mem _ hb)
      rw [put2, List.length_set]
      exact h4
theorem dCheck_dist (s : Stem) (ds : List Dt) (h : dCheck s ds = 0) : Dist ds := by
  rw [Dist, List.pairwise_iff_getElem]
  intro i j hi hj hij
  exact ((dCheck_zero s ds h).2 j hj).2.2 i hij
theorem loOf_at (s : Stem) (ds : List Dt) (h : dCheck s ds = 0) (d : Dt) (hd : d ∈ ds) : (loOf s.names.length ds).getD d.node.toNat 0 = d.fr :=
  put1_at _ _ (dCheck_dist s ds h) (fun b hb => by have := dCheck_nodes s ds h b hb; rw [List.length_replicate]; omega) d hd
theorem hiOf_at (s : Stem) (ds : List Dt) (h : dCheck s ds = 0) (d : Dt) (hd : d ∈ ds) : (hiOf s.names.length ds).getD d.node.toNat 0 = d.to :=
  put2_at _ _ (dCheck_dist s ds h) (fun b hb => by have := dCheck_nodes s ds h b hb; rw [List.length_replicate]; omega) d hd

theorem put1_le (y : Nat → Int) : ∀ (ds : List Dt) (xs : List Int), (∀ d ∈ ds, d.fr ≤ y d.node.toNat) → (∀ i, i < xs.length → xs.getD i 0 ≤ y i) → ∀ i, i < xs.length → (ds.foldl put1 xs).getD i 0 ≤ y i := by
  intro ds
  induction ds with
  | nil => intro xs _ h i hi; exact h i hi
  | cons a ds ih =>
    intro xs hd h i hi
    rw [List.foldl_cons]
    have e : (put1 xs a).length = xs.length := by rw [put1, List.length_set]
    refine ih _ (fun d hd' => hd d (List.mem_cons_of_mem _ hd')) (fun j hj => ?_) i (by omega)
    rw [put1, getD_set]
    split
    · rename_i hj2
      rw [← hj2.1]
      exact hd a List.mem_cons_self
    · exact h j (by omega)
theorem put2_ge (y : Nat → Int) : ∀ (ds : List Dt) (xs : List Int), (∀ d ∈ ds, y d.node.toNat ≤ d.to) → (∀ i, i < xs.length → y i ≤ xs.getD i 0) → ∀ i, i < xs.length → y i ≤ (ds.foldl put2 xs).getD i 0 := by
  intro ds
  induction ds with
  | nil => intro xs _ h i hi; exact h i hi
  | cons a ds ih =>
    intro xs hd h i hi
    rw [List.foldl_cons]
    have e : (put2 xs a).length = xs.length := by rw [put2, List.length_set]
    refine ih _ (fun d hd' => hd d (List.mem_cons_of_mem _ hd')) (fun j hj => ?_) i (by omega)
    rw [put2, getD_set]
    split
    · rename_i hj2
      rw [← hj2.1]
      exact hd a List.mem_cons_self
    · exact h j (by omega)
theorem rep_getD (n : Nat) (v : Int) (i : Nat) (h : i < n) : (List.replicate n v).getD i 0 = v := by simp [h]
theorem loOf_least (n : Nat) (ds : List Dt) (y : Nat → Int) (h1 : ∀ d ∈ ds, d.fr ≤ y d.node.toNat) (h2 : ∀ i, i < n → -5000 ≤ y i) (i : Nat) (hi : i < n) : (loOf n ds).getD i 0 ≤ y i :=
  put1_le y ds _ h1 (fun j hj => by rw [List.length_replicate] at hj; rw [rep_getD _ _ _ hj]; exact h2 j hj) i (by rw [List.length_replicate]; exact hi)
theorem hiOf_most (n : Nat) (ds : List Dt) (y : Nat → Int) (h1 : ∀ d ∈ ds, y d.node.toNat ≤ d.to) (h2 : ∀ i, i < n → y i ≤ 5000) (i : Nat) (hi : i < n) : y i ≤ (hiOf n ds).getD i 0 :=
  put2_ge y ds _ h1 (fun j hj => by rw [List.length_replicate] at hj; rw [rep_getD _ _ _ hj]; exact h2 j hj) i (by rw [List.length_replicate]; exact hi)

/-- Years that fit. -/
def Fits (s : Stem) (ds : List Dt) (ys : List Int) : Prop :=
  ys.length = s.names.length ∧ (∀ i, i < s.names.length → inY (ys.getD i 0) ∧ ∀ p ∈ s.par.getD i [], ys.getD p.toNat 0 ≤ ys.getD i 0) ∧ ∀ d ∈ ds, d.fr ≤ ys.getD d.node.toNat 0 ∧ ys.getD d.node.toNat 0 ≤ d.to

theorem yErr_zero (s : Stem) (ds : List Dt) (h : yErr s ds = 0) : ∀ i, i < s.names.length → (eYrs s ds).getD i 0 ≤ (lYrs s ds).getD i 0 := by
  unfold yErr at h
  split at h
  · omega
  · split at h
    · rename_i hc
      intro i hi
      rw [consB, List.all_eq_true] at hc
      simpa using hc i (List.mem_range.2 hi)
    · omega
theorem yErr_two (s : Stem) (ds : List Dt) (h : dCheck s ds = 0) : yErr s ds = 0 ∨ yErr s ds = 25 := by
  unfold yErr
  rw [if_neg (by rw [h]; simp)]
  split
  · exact .inl rfl
  · exact .inr rfl
theorem eYrs_ge (s : Stem) (ds : List Dt) (h : dCheck s ds = 0) (i : Nat) : (loOf s.names.length ds).getD i 0 ≤ (eYrs s ds).getD i 0 := by
  have hs := (dCheck_zero s ds h).1
  obtain ⟨_, _, _, hpl, _⟩ := stCheck_len s hs
  have := (earl_spec s.par (loOf s.names.length ds) (stCheck_okPar s hs) (by rw [loOf_len, hpl]) s.par.length (Nat.le_refl _)).2.1 i
  rwa [hpl] at this
theorem lYrs_le (s : Stem) (ds : List Dt) (h : dCheck s ds = 0) (i : Nat) : (lYrs s ds).getD i 0 ≤ (hiOf s.names.length ds).getD i 0 := by
  have hs := (dCheck_zero s ds h).1
  obtain ⟨_, _, _, hpl, _⟩ := stCheck_len s hs
  have := (late_spec s.par (stCheck_okPar s hs) s.par.length (hiOf s.names.length ds) (Nat.le_refl _) (by rw [hiOf_len, hpl])).2.1 i
  rwa [hpl] at this
theorem slack_one (s : Stem) (ds : List Dt) (h : yErr s ds = 0) (d : Dt) (hd : d ∈ ds) (e : d.fr = d.to) : (slackL s ds).getD d.node.toNat 0 = 0 := by
  have h0 := yErr_check s ds h
  have hn := dCheck_nodes s ds h0 d hd
  have h1 := yErr_zero s ds h d.node.toNat (by omega)
  have h2 := eYrs_ge s ds h0 d.node.toNat
  have h3 := lYrs_le s ds h0 d.node.toNat
  rw [loOf_at s ds h0 d hd] at h2
  rw [hiOf_at s ds h0 d hd] at h3
  rw [slackL, dif_at _ _ _ _ (by omega)]
  omega
end Go.Proofs.Ytpbohmddbfaiiaa
