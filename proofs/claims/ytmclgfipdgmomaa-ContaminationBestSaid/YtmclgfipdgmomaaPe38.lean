/-
  What the walks of chapter 38 compute, in plain words. No statement of the seat is proved here.
-/
import Derived.Test.YtmclgfipdgmomaaBt38
import Derived.Test.YtmclgfipdgmomaaPd38
namespace Go.Proofs.Ytmclgfipdgmomaa

theorem best1_spec (s : Stem) (st : List Int) : (best1 s st).1 ∈ asgs (occ st) st ∧ (best1 s st).2 = (costN s.par (best1 s st).1 : Int) ∧ ∀ b ∈ asgs (occ st) st, (best1 s st).2 ≤ (costN s.par b : Int) :=
  bestA_spec _ _ (asgs_ne _ (occ_pos st) st)
theorem best1_len (s : Stem) (st : List Int) : (best1 s st).1.length = st.length := ((asgs_mem _ _ _).1 (best1_spec s st).1).1
theorem filter_or_le {α : Type} (p q : α → Bool) : ∀ l : List α, (l.filter (fun x => p x || q x)).length ≤ (l.filter p).length + (l.filter q).length
  | [] => by simp
  | x :: l => by
    have ih := filter_or_le p q l
    simp only [List.filter_cons]
    cases p x <;> cases q x <;> simp <;> omega
theorem srtK_le (k : Nat) : ∀ st : List Int, (srtK st k).length ≤ st.length
  | [] => by simp [srtK, hasI]
  | x :: st => by
    have ih := srtK_le k st
    unfold srtK at *
    rw [List.length_map] at *
    have e : (fun n : Nat => hasI (x :: st) (n : Int)) = fun n : Nat => ((n : Int) == x) || hasI st (n : Int) := by
      funext n
      unfold hasI
      rw [List.contains_cons]
    rw [e]
    have h1 := filter_or_le (fun n : Nat => ((n : Int) == x)) (fun n : Nat => hasI st (n : Int)) (List.range k)
    have h2 : ((List.range k).filter (fun n : Nat => ((n : Int) == x))).length ≤ 1 := by
      have h3 := (List.nodup_iff_count.1 (List.nodup_range (n := k))) x.toNat
      rw [List.count_eq_countP, List.countP_eq_length_filter] at h3
      refine Nat.le_trans ?_ h3
      rw [← List.countP_eq_length_filter, ← List.countP_eq_length_filter]
      refine List.countP_mono_left fun n _ hn => ?_
      simp only [beq_iff_eq] at *
      omega
    rw [List.length_cons]
    omega
theorem unk_le : ∀ st : List Int, unk st ≤ st.length
  | [] => by simp [unk]
  | x :: st => by
    have := unk_le st
    unfold unk
    rw [List.length_cons]
    split <;> omega
theorem many_small (st : List Int) (hl : st.length ≤ 6) : many st = false := by
  refine many_end st ?_
  have h1 : (occ st).length ≤ 6 := by
    unfold occ
    split
    · simp
    · exact Nat.le_trans (srtK_le 16 st) hl
  have h2 := unk_le st
  have h3 : (occ st).length ^ unk st ≤ 6 ^ unk st := Nat.pow_le_pow_left h1 _
  have h4 : 6 ^ unk st ≤ 6 ^ 6 := Nat.pow_le_pow_right (by decide) (by omega)
  omega
theorem scE_small {s : Stem} {st : List Int} (h : chkC s st = 0) (hl : st.length ≤ 6) : scE s st = 0 := scE_ok h (many_small st hl)
theorem best1_known (s : Stem) (all : List Int) (h : ∀ x ∈ all, 0 ≤ x) : best1 s all = (all, (costN s.par all : Int)) := by
  unfold best1
  rw [asgs_known _ _ h]
  unfold bestA
  rw [List.foldl_cons, List.foldl_nil]
  unfold bstep
  rw [if_pos (.inl (by decide))]
theorem unk_known : ∀ all : List Int, (∀ x ∈ all, 0 ≤ x) → unk all = 0
  | [], _ => rfl
  | x :: all, h => by
    have := unk_known all (fun y hy => h y (by simp [hy]))
    have h0 := h x (by simp)
    unfold unk
    rw [if_neg (by omega), this]
theorem many_known (all : List Int) (h : ∀ x ∈ all, 0 ≤ x) : many all = false := many_end all (by rw [unk_known all h]; simp)
theorem chkC_le {s : Stem} {st : List Int} (h : chkC s st = 0) : s.par.length = s.names.length ∧ st.length = s.names.length := by
  obtain ⟨h1, h2, _⟩ := chkC_zero h
  obtain ⟨_, _, _, h4, _⟩ := stCheck_len s h1
  exact ⟨h4, by omega⟩
theorem chkC_of {s : Stem} {st : List Int} (h1 : stCheck s = 0) (h2 : st.length = s.par.length) (h3 : ∀ x ∈ st, -1 ≤ x ∧ x < 16) : chkC s st = 0 := by
  unfold chkC
  rw [if_neg (by omega), if_neg (by omega), if_neg]
  rw [Bool.not_eq_true, List.any_eq_false]
  intro x hx
  have := h3 x hx
  unfold badS
  rw [decide_eq_false (p := x < -1) (by omega), decide_eq_false (p := 16 ≤ x) (by omega)]
  simp
/-- The best assignment: known states stay, the others occur (or are 0). -/
theorem best1_at {s : Stem} {st : List Int} (i : Nat) (hi : i < st.length) : if st.getD i 0 < 0 then (best1 s st).1.getD i 0 ∈ occ st else (best1 s st).1.getD i 0 = st.getD i 0 :=
  ((asgs_mem _ _ _).1 (best1_spec s st).1).2 i hi
theorem occ_in (st : List Int) (x : Int) (h : x ∈ occ st) : x ∈ st ∨ x = 0 := by
  unfold occ at h
  split at h
  · right; simpa using h
  · exact .inl ((srtK_mem _ _ _).1 h).1
theorem best1_range {s : Stem} {st : List Int} (h : chkC s st = 0) : ∀ x ∈ (best1 s st).1, 0 ≤ x ∧ x < 16 := by
  intro x hx
  obtain ⟨i, hi, rfl⟩ := List.getElem_of_mem hx
  have hl := best1_len s st
  have := best1_at (s := s) (st := st) i (by omega)
  rw [getD_lt _ _ _ hi] at this
  split at this
  · exact occ_range st _ this
  · rename_i h0
    rw [this]
    have hm := getD_mem st i 0 (by omega)
    have := (chkC_zero h).2.2 _ hm
    omega

/-! ### Sums -/
def sumI : List Int → Int
  | [] => 0
  | x :: l => x + sumI l
theorem sumI_app (a b : List Int) : sumI (a ++ b) = sumI a + sumI b := by
  induction a with
  | nil => simp [sumI]
  | cons x a ih => rw [List.cons_append, sumI, sumI, ih]; omega
theorem sumI_rev (a : List Int) : sumI a.reverse = sumI a := by
  induction a with
  | nil => rfl
  | cons x a ih => rw [List.reverse_cons, sumI_app, ih, sumI, sumI, sumI]; omega
theorem sumN_list (g : List Int → Int) (xs : List (List Int)) : ∀ k, k ≤ xs.length → sumN (fun j => g (xs.getD j [])) k = sumI ((xs.take k).map g)
  | 0, _ => rfl
  | k + 1, h => by
    have ih := sumN_list g xs k (by omega)
    rw [sumN, ih, List.take_succ_eq_append_getElem (by omega), List.map_append, sumI_app, getD_lt _ _ _ (by omega)]
    simp [sumI]
theorem sumN_rev (g : List Int → Int) (xs : List (List Int)) : sumN (fun j => g (xs.reverse.getD j [])) xs.reverse.length = sumN (fun j => g (xs.getD j [])) xs.length := by
  rw [sumN_list g _ _ (Nat.le_refl _), sumN_list g _ _ (Nat.le_refl _), List.take_length, List.take_length, List.map_reverse, sumI_rev]
theorem totE_ok {s : Stem} {xs : List (List Int)} (h : stCheck s = 0) (hl : xs.length ≤ 4096) (hx : ∀ l ∈ xs, scE s l = 0) : totE s xs = 0 := by
  unfold totE
  rw [if_neg (by omega), if_neg (by omega)]
  exact firstErr_all _ _ fun k hk => hx _ (getD_mem xs k [] hk)
theorem totE_zero {s : Stem} {xs : List (List Int)} (h : totE s xs = 0) : stCheck s = 0 ∧ xs.length ≤ 4096 ∧ ∀ l ∈ xs, scE s l = 0 := by
  unfold totE at h
  split at h
  · omega
  split at h
  · omega
  · refine ⟨by omega, by omega, fun l hl => ?_⟩
    obtain ⟨k, hk, rfl⟩ := List.getElem_of_mem hl
    have := firstErr_zero _ _ h k hk
    rwa [getD_lt _ _ _ hk] at this
theorem totN_ok {s : Stem} {xs : List (List Int)} (h : totE s xs = 0) : totN s xs = sumN (fun j => scN s (xs.getD j [])) xs.length := if_neg (by omega)
theorem totE_rev {s : Stem} {xs : List (List Int)} (h : totE s xs = 0) : totE s xs.reverse = 0 := by
  obtain ⟨h1, h2, h3⟩ := totE_zero h
  exact totE_ok h1 (by simpa using h2) (fun l hl => h3 l (by simpa using hl))
theorem totN_rev {s : Stem} {xs : List (List Int)} (h : totE s xs = 0) : totN s xs.reverse = totN s xs := by
  rw [totN_ok h, totN_ok (totE_rev h)]
  exact sumN_rev (scN s) xs

/-! ### The best further exemplar -/
theorem extS_len (s : Stem) (c p : Int) : (extS s c p).par.length = s.par.length := by simp [extS]
theorem ext_chk {s : Stem} {c p : Int} (h : extE s c p = 0) (st : List Int) : chkC (extS s c p) st = chkC s st := by
  have h1 := extS_valid h
  have h0 : stCheck s = 0 := (extE_zero h).1
  unfold chkC
  rw [h1, h0, extS_len]
theorem ext_scE {s : Stem} {c p : Int} (h : extE s c p = 0) (st : List Int) : scE (extS s c p) st = scE s st := by
  unfold scE
  rw [ext_chk h]
theorem ext_totE {s : Stem} {c p : Int} (h : extE s c p = 0) {xs : List (List Int)} (ht : totE s xs = 0) : totE (extS s c p) xs = 0 := by
  obtain ⟨h1, h2, h3⟩ := totE_zero ht
  exact totE_ok (extS_valid h) h2 (fun l hl => by rw [ext_scE h]; exact h3 l hl)
def BInv (s : Stem) (xs : List (List Int)) (o : Bst) : Prop :=
  (o.found = false → o.least = totN s xs) ∧ (o.found = true → ∃ c p : Nat, c < s.par.length ∧ p < s.par.length ∧ o.child = c ∧ o.parent = p ∧ extE s c p = 0 ∧ o.least = totN (extS s c p) xs ∧ o.least < totN s xs)
theorem btry_inv {s : Stem} {xs : List (List Int)} {c p : Nat} {o : Bst} (hc : c < s.par.length) (hp : p < s.par.length) (h : BInv s xs o) : BInv s xs (btry s xs c p o) ∧ (btry s xs c p o).least ≤ o.least := by
  unfold btry
  split
  · rename_i h1
    obtain ⟨a1, a2, a3⟩ := h1
    refine ⟨⟨(fun h => by cases h), fun _ => ⟨c, p, hc, hp, rfl, rfl, a1, rfl, ?_⟩⟩, by dsimp only; omega⟩
    dsimp only
    cases hf : o.found with
    | false => have := h.1 hf; omega
    | true =>
      obtain ⟨_, _, _, _, _, _, _, _, h2⟩ := h.2 hf
      omega
  · exact ⟨h, Int.le_refl _⟩
theorem btry_le {s : Stem} {xs : List (List Int)} {c p : Nat} {o : Bst} (ht : totE s xs = 0) (he : extE s c p = 0) : (btry s xs c p o).least ≤ totN (extS s c p) xs := by
  unfold btry
  by_cases h : totN (extS s c p) xs < o.least
  · rw [if_pos ⟨he, ext_totE he ht, h⟩]
    exact Int.le_refl _
  · rw [if_neg (fun ⟨_, _, h3⟩ => h h3)]
    omega
theorem binn_inv {s : Stem} {xs : List (List Int)} {c : Nat} {o : Bst} (hc : c < s.par.length) (ht : totE s xs = 0) (h : BInv s xs o) : ∀ k, k ≤ s.par.length → BInv s xs (binn s xs c o k) ∧ (binn s xs c o k).least ≤ o.least ∧ ∀ p, p < k → extE s c p = 0 → (binn s xs c o k).least ≤ totN (extS s c p) xs
  | 0, _ => ⟨h, Int.le_refl _, fun p hp => absurd hp (Nat.not_lt_zero _)⟩
  | k + 1, hk => by
    obtain ⟨h1, h2, h3⟩ := binn_inv hc ht h k (by omega)
    have h4 := btry_inv (c := c) (p := k) hc (by omega) h1
    rw [binn]
    refine ⟨h4.1, Int.le_trans h4.2 h2, fun p hp he => ?_⟩
    by_cases hpk : p = k
    · subst hpk
      exact btry_le ht he
    · exact Int.le_trans h4.2 (h3 p (by omega) he)
theorem bout_inv {s : Stem} {xs : List (List Int)} (ht : totE s xs = 0) : ∀ k, k ≤ s.par.length → BInv s xs (bout s xs k) ∧ (bout s xs k).least ≤ totN s xs ∧ ∀ c p : Nat, c < k → p < s.par.length → extE s c p = 0 → (bout s xs k).least ≤ totN (extS s c p) xs
  | 0, _ => ⟨⟨fun _ => rfl, (fun h => by cases h)⟩, Int.le_refl _, fun c p hp => absurd hp (Nat.not_lt_zero _)⟩
  | k + 1, hk => by
    obtain ⟨h1, h2, h3⟩ := bout_inv (s := s) (xs := xs) ht k (by omega)
    have h4 := binn_inv (c := k) (by omega) ht h1 s.par.length (Nat.le_refl _)
    rw [bout]
    refine ⟨h4.1, Int.le_trans h4.2.1 h2, fun c p hc hp he => ?_⟩
    by_cases hck : c = k
    · subst hck
      exact h4.2.2 p hp he
    · exact Int.le_trans h4.2.1 (h3 c p (by omega) hp he)
/-- Nodes that are not earlier are no exemplars. -/
theorem binn_cut (s : Stem) (xs : List (List Int)) (c : Nat) (o : Bst) : ∀ k, c ≤ k → binn s xs c o k = binn s xs c o c
  | 0, h => by obtain rfl : c = 0 := by omega
               rfl
  | k + 1, h => by
    by_cases hk : c = k + 1
    · subst hk; rfl
    · rw [binn, binn_cut s xs c o k (by omega)]
      unfold btry
      rw [if_neg]
      rintro ⟨h1, _⟩
      have := extE_zero h1
      omega
end Go.Proofs.Ytmclgfipdgmomaa
