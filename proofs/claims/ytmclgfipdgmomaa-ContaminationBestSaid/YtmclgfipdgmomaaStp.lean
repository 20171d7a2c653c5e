/-
  What the check of a stemma says of it. Plain. No statement of the seat is proved here.
-/
import Derived.Test.YtmclgfipdgmomaaStem
namespace Go.Proofs.Ytmclgfipdgmomaa

/-- Parents come before their copies. -/
def okPar (par : List (List Int)) : Prop := ∀ i, (h : i < par.length) → ∀ p ∈ par[i], 0 ≤ p ∧ p < i

theorem stCheck_len (s : Stem) (h : stCheck s = 0) : s.names.length ≠ 0 ∧ s.names.length ≤ 64 ∧ s.ext.length = s.names.length ∧ s.par.length = s.names.length ∧ firstErr (stAt s) s.names.length = 0 := by
  unfold stCheck at h
  by_cases h0 : s.names.length = 0
  · rw [if_pos h0] at h; omega
  rw [if_neg h0] at h
  by_cases h64 : 64 < s.names.length
  · rw [if_pos h64] at h; omega
  rw [if_neg h64] at h
  by_cases hl : s.ext.length ≠ s.names.length ∨ s.par.length ≠ s.names.length
  · rw [if_pos hl] at h; omega
  rw [if_neg hl] at h
  exact ⟨h0, by omega, by omega, by omega, h⟩

theorem stAt_zero (s : Stem) (i : Nat) (hi : i < s.names.length) (hp : i < s.par.length) (h : stAt s i = 0) :
    leafNm s.names[i] = true ∧ Lib.containsS (s.names.take i) s.names[i] = false ∧ (∀ p ∈ s.par[i], 0 ≤ p ∧ p < i) ∧ s.par[i].Pairwise (· < ·) := by
  have hst : stAt s i = if leafNm s.names[i] = false then 14 else if Lib.containsS (s.names.take i) s.names[i] = true then 7 else if rngB s.par[i] i = true then 2 else if incB s.par[i] = false then 10 else 0 := by
    rw [stAt]; simp [hi, hp]
  rw [hst] at h
  cases h1 : leafNm s.names[i] with
  | false => rw [if_pos h1] at h; omega
  | true =>
    rw [if_neg (by rw [h1]; simp)] at h
    cases h2 : Lib.containsS (s.names.take i) s.names[i] with
    | true => rw [if_pos h2] at h; omega
    | false =>
      rw [if_neg (by rw [h2]; simp)] at h
      cases h3 : rngB s.par[i] i with
      | true => rw [if_pos h3] at h; omega
      | false =>
        rw [if_neg (by rw [h3]; simp)] at h
        cases h4 : incB s.par[i] with
        | false => rw [if_pos h4] at h; omega
        | true =>
          refine ⟨rfl, rfl, fun p hp => ?_, by simpa [incB] using h4⟩
          rw [rngB, List.any_eq_false] at h3
          have := h3 p hp
          simp at this
          omega

theorem stCheck_okPar (s : Stem) (h : stCheck s = 0) : okPar s.par := by
  obtain ⟨_, _, _, hp, hf⟩ := stCheck_len s h
  intro i hi p hpi
  have h0 := firstErr_zero _ _ hf i (by omega)
  exact (stAt_zero s i (by omega) hi h0).2.2.1 p hpi

theorem asc_ge (xs : List Int) (h : xs.Pairwise (· < ·)) (h0 : ∀ x ∈ xs, 0 ≤ x) : ∀ (j : Nat) (hj : j < xs.length), (j : Int) ≤ xs[j] := by
  intro j
  induction j with
  | zero => intro hj; exact h0 _ (List.getElem_mem hj)
  | succ j ih =>
    intro hj
    have a := ih (by omega)
    have b := List.pairwise_iff_getElem.1 h j (j + 1) (by omega) hj (by omega)
    omega
theorem asc_len (xs : List Int) (h : xs.Pairwise (· < ·)) (n : Nat) (h0 : ∀ x ∈ xs, 0 ≤ x ∧ x < n) : xs.length ≤ n := by
  by_cases hl : xs.length = 0
  · omega
  have a := asc_ge xs h (fun x hx => (h0 x hx).1) (xs.length - 1) (by omega)
  have b := (h0 _ (List.getElem_mem (show xs.length - 1 < xs.length by omega))).2
  omega
theorem stCheck_inc (s : Stem) (h : stCheck s = 0) : ∀ i, i < s.par.length → (s.par.getD i []).Pairwise (· < ·) := by
  obtain ⟨_, _, _, hp, hf⟩ := stCheck_len s h
  intro i hi
  have h0 := firstErr_zero _ _ hf i (by omega)
  unfold stAt at h0
  split at h0
  · omega
  split at h0
  · omega
  split at h0
  · omega
  split at h0
  · omega
  · rename_i h1
    simpa [incB] using h1

end Go.Proofs.Ytmclgfipdgmomaa
