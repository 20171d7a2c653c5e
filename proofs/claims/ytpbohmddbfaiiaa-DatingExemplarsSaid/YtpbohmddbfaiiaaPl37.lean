/-
  Plain laws on the earliest and latest years: no program is in sight. No statement of the seat is proved here.
-/
import Derived.Test.YtpbohmddbfaiiaaYearsQ
namespace Go.Proofs.Ytpbohmddbfaiiaa
open Go.RowKit

theorem getD_set (xs : List Int) (i j : Nat) (v : Int) : (xs.set i v).getD j 0 = if i = j ∧ i < xs.length then v else xs.getD j 0 := by
  simp only [List.getD_eq_getElem?_getD, List.getElem?_set]
  by_cases h : i = j
  · subst h
    by_cases hl : i < xs.length
    · simp [hl]
    · simp [hl]
  · simp [h]

/-- One node: it becomes the greatest of itself and its parents; nothing else changes. -/
theorem foldE (i : Nat) (ps : List Int) : ∀ xs : List Int, i < xs.length → (∀ p ∈ ps, 0 ≤ p ∧ p < i) →
    (∀ j, j ≠ i → (ps.foldl (upE i) xs).getD j 0 = xs.getD j 0) ∧ xs.getD i 0 ≤ (ps.foldl (upE i) xs).getD i 0 ∧ (∀ p ∈ ps, xs.getD p.toNat 0 ≤ (ps.foldl (upE i) xs).getD i 0) ∧
      ((ps.foldl (upE i) xs).getD i 0 = xs.getD i 0 ∨ ∃ p ∈ ps, (ps.foldl (upE i) xs).getD i 0 = xs.getD p.toNat 0) := by
  induction ps with
  | nil => intro xs _ _; exact ⟨fun _ _ => rfl, Int.le_refl _, by simp, .inl rfl⟩
  | cons p ps ih =>
    intro xs hi hp
    rw [List.foldl_cons]
    have hp0 := hp p (by simp)
    have hlen : i < (upE i xs p).length := by rw [upE_len]; exact hi
    obtain ⟨h1, h2, h3, h4⟩ := ih (upE i xs p) hlen (fun q hq => hp q (by simp [hq]))
    have eo : ∀ j, j ≠ i → (upE i xs p).getD j 0 = xs.getD j 0 := fun j hj => by
      rw [upE, getD_set, if_neg (fun h => hj h.1.symm)]
    have ei : (upE i xs p).getD i 0 = max (xs.getD i 0) (xs.getD p.toNat 0) := by
      rw [upE, getD_set, if_pos ⟨rfl, hi⟩]
    refine ⟨fun j hj => (h1 j hj).trans (eo j hj), by rw [ei] at h2; omega, fun q hq => ?_, ?_⟩
    · rcases List.mem_cons.1 hq with rfl | hq
      · rw [ei] at h2; omega
      · have := h3 q hq
        have hq0 := hp q (by simp [hq])
        rw [eo q.toNat (by omega)] at this
        exact this
    · rcases h4 with h4 | ⟨q, hq, h4⟩
      · rw [ei] at h4
        rcases Int.le_total (xs.getD i 0) (xs.getD p.toNat 0) with hle | hle
        · right; exact ⟨p, by simp, by rw [h4]; omega⟩
        · left; rw [h4]; omega
      · right
        have hq0 := hp q (by simp [hq])
        rw [eo q.toNat (by omega)] at h4
        exact ⟨q, by simp [hq], h4⟩

/-- The earliest years: not before the first ones, and no node before a parent. -/
theorem earl_spec (par : List (List Int)) (xs : List Int) (hok : okPar par) (hx : xs.length = par.length) : ∀ k, k ≤ par.length →
    (∀ j, k ≤ j → (earl par xs k).getD j 0 = xs.getD j 0) ∧ (∀ j, xs.getD j 0 ≤ (earl par xs k).getD j 0) ∧
    (∀ i, (hi : i < par.length) → i < k → ∀ p ∈ par[i], (earl par xs k).getD p.toNat 0 ≤ (earl par xs k).getD i 0) ∧
    (∀ i, (hi : i < par.length) → i < k → (earl par xs k).getD i 0 = xs.getD i 0 ∨ ∃ p ∈ par[i], (earl par xs k).getD i 0 = (earl par xs k).getD p.toNat 0) := by
  intro k
  induction k with
  | zero => intro _; exact ⟨fun _ _ => rfl, fun _ => Int.le_refl _, fun i _ h => absurd h (by omega), fun i _ h => absurd h (by omega)⟩
  | succ k ih =>
    intro hk
    obtain ⟨h1, h2, h3, h4⟩ := ih (by omega)
    have hkp : k < par.length := by omega
    have e : earl par xs (k + 1) = par[k].foldl (upE k) (earl par xs k) := by
      rw [earl, nodeE]; simp [hkp]
    rw [e]
    obtain ⟨f1, f2, f3, f4⟩ := foldE k par[k] (earl par xs k) (by rw [earl_len]; omega) (hok k hkp)
    have old : ∀ j, j ≠ k → (par[k].foldl (upE k) (earl par xs k)).getD j 0 = (earl par xs k).getD j 0 := f1
    refine ⟨fun j hj => (old j (by omega)).trans (h1 j (by omega)), fun j => ?_, fun i hi hik p hp => ?_, fun i hi hik => ?_⟩
    · by_cases hjk : j = k
      · subst hjk; have := h2 j; omega
      · rw [old j hjk]; exact h2 j
    · have hp0 := hok i hi p hp
      by_cases hik2 : i = k
      · subst hik2
        rw [old p.toNat (by omega)]
        exact f3 p hp
      · rw [old p.toNat (by omega), old i hik2]
        exact h3 i hi (by omega) p hp
    · by_cases hik2 : i = k
      · subst hik2
        rcases f4 with f4 | ⟨p, hp, f4⟩
        · left; rw [f4]; exact h1 i (Nat.le_refl _)
        · right
          have hp0 := hok i hi p hp
          exact ⟨p, hp, by rw [f4, old p.toNat (by omega)]⟩
      · rw [old i hik2]
        rcases h4 i hi (by omega) with h4 | ⟨p, hp, h4⟩
        · exact .inl h4
        · have hp0 := hok i hi p hp
          exact .inr ⟨p, hp, by rw [h4, old p.toNat (by omega)]⟩

theorem foldL (i : Nat) (ps : List Int) : ∀ xs : List Int, i < xs.length → (∀ p ∈ ps, 0 ≤ p ∧ p < i) →
    (∀ j, i ≤ j → (ps.foldl (dnL i) xs).getD j 0 = xs.getD j 0) ∧ (∀ j, (ps.foldl (dnL i) xs).getD j 0 ≤ xs.getD j 0) ∧ (∀ p ∈ ps, (ps.foldl (dnL i) xs).getD p.toNat 0 ≤ xs.getD i 0) ∧
      (∀ y : Nat → Int, (∀ j, y j ≤ xs.getD j 0) → (∀ p ∈ ps, y p.toNat ≤ y i) → ∀ j, y j ≤ (ps.foldl (dnL i) xs).getD j 0) := by
  induction ps with
  | nil => intro xs _ _; exact ⟨fun _ _ => rfl, fun _ => Int.le_refl _, by simp, fun y hy _ j => hy j⟩
  | cons p ps ih =>
    intro xs hi hp
    rw [List.foldl_cons]
    have hp0 := hp p (by simp)
    have hlen : i < (dnL i xs p).length := by rw [dnL_len]; exact hi
    obtain ⟨h1, h2, h3, h4⟩ := ih (dnL i xs p) hlen (fun q hq => hp q (by simp [hq]))
    have eo : ∀ j, j ≠ p.toNat → (dnL i xs p).getD j 0 = xs.getD j 0 := fun j hj => by
      rw [dnL, getD_set, if_neg (fun h => hj h.1.symm)]
    have ep : (dnL i xs p).getD p.toNat 0 = min (xs.getD p.toNat 0) (xs.getD i 0) := by
      rw [dnL, getD_set, if_pos ⟨rfl, by omega⟩]
    have ei : (dnL i xs p).getD i 0 = xs.getD i 0 := eo i (by omega)
    refine ⟨fun j hj => (h1 j hj).trans (eo j (by omega)), fun j => ?_, fun q hq => ?_, fun y hy hyp j => ?_⟩
    · have := h2 j
      by_cases hj : j = p.toNat
      · subst hj; rw [ep] at this; omega
      · rw [eo j hj] at this; exact this
    · rcases List.mem_cons.1 hq with rfl | hq
      · have := h2 q.toNat
        rw [ep] at this; omega
      · have := h3 q hq
        rw [ei] at this; exact this
    · refine h4 y (fun j => ?_) (fun q hq => hyp q (by simp [hq])) j
      by_cases hj : j = p.toNat
      · subst hj
        rw [ep]
        have a := hy p.toNat
        have b := hyp p (by simp)
        have c := hy i
        omega
      · rw [eo j hj]; exact hy j

theorem late_spec (par : List (List Int)) (hok : okPar par) : ∀ (k : Nat) (xs : List Int), k ≤ par.length → xs.length = par.length →
    (∀ j, k ≤ j → (late par xs k).getD j 0 = xs.getD j 0) ∧ (∀ j, (late par xs k).getD j 0 ≤ xs.getD j 0) ∧
    (∀ i, (hi : i < par.length) → i < k → ∀ p ∈ par[i], (late par xs k).getD p.toNat 0 ≤ (late par xs k).getD i 0) ∧
    (∀ y : Nat → Int, (∀ j, y j ≤ xs.getD j 0) → (∀ i, (hi : i < par.length) → i < k → ∀ p ∈ par[i], y p.toNat ≤ y i) → ∀ j, y j ≤ (late par xs k).getD j 0) := by
  intro k
  induction k with
  | zero => intro xs _ _; exact ⟨fun _ _ => rfl, fun _ => Int.le_refl _, fun i _ h => absurd h (by omega), fun y hy _ j => hy j⟩
  | succ k ih =>
    intro xs hk hx
    have hkp : k < par.length := by omega
    have e : nodeL par xs k = par[k].foldl (dnL k) xs := by rw [nodeL]; simp [hkp]
    obtain ⟨f1, f2, f3, f4⟩ := foldL k par[k] xs (by omega) (hok k hkp)
    rw [← e] at f1 f2 f3 f4
    rw [late]
    obtain ⟨h1, h2, h3, h4⟩ := ih (nodeL par xs k) (by omega) ((nodeL_len par xs k).trans hx)
    refine ⟨fun j hj => (h1 j (by omega)).trans (f1 j (by omega)), fun j => Int.le_trans (h2 j) (f2 j), fun i hi hik p hp => ?_, fun y hy hyp j => ?_⟩
    · by_cases hik2 : i = k
      · subst hik2
        have a := h2 p.toNat
        have b := f3 p hp
        have c := (h1 i (Nat.le_refl _)).trans (f1 i (Nat.le_refl _))
        omega
      · exact h3 i hi (by omega) p hp
    · refine h4 y (f4 y hy (fun p hp => hyp k hkp (by omega) p hp)) (fun i hi hik p hp => hyp i hi (by omega) p hp) j

/-- The earliest years are the least ones. -/
theorem earl_least (par : List (List Int)) (xs : List Int) (hok : okPar par) (hx : xs.length = par.length) (y : Nat → Int) (hy : ∀ i, i < par.length → xs.getD i 0 ≤ y i)
    (hyp : ∀ i, (hi : i < par.length) → ∀ p ∈ par[i], y p.toNat ≤ y i) : ∀ i, i < par.length → (earl par xs par.length).getD i 0 ≤ y i := by
  obtain ⟨_, _, _, h4⟩ := earl_spec par xs hok hx par.length (Nat.le_refl _)
  intro i
  induction i using Nat.strongRecOn with
  | ind i ih =>
    intro hi
    rcases h4 i hi hi with h | ⟨p, hp, h⟩
    · rw [h]; exact hy i hi
    · have hp0 := hok i hi p hp
      rw [h]
      exact Int.le_trans (ih p.toNat (by omega) (by omega)) (hyp i hi p hp)

/-- Dates are consistent by the last years that they say exactly if they are by the latest ones. -/
theorem consB_late (par : List (List Int)) (lo hi : List Int) (hok : okPar par) (hl : lo.length = par.length) (hh : hi.length = par.length) :
    consB par.length (earl par lo par.length) (late par hi par.length) = consB par.length (earl par lo par.length) hi := by
  obtain ⟨_, e2, e3, _⟩ := earl_spec par lo hok hl par.length (Nat.le_refl _)
  obtain ⟨_, l2, _, l4⟩ := late_spec par hok par.length hi (Nat.le_refl _) hh
  cases h : consB par.length (earl par lo par.length) hi with
  | true =>
    apply consB_true
    intro i hi'
    rw [consB, List.all_eq_true] at h
    have hc : ∀ j, j < par.length → (earl par lo par.length).getD j 0 ≤ hi.getD j 0 := fun j hj => by simpa using h j (List.mem_range.2 hj)
    have := l4 (fun j => if j < par.length then (earl par lo par.length).getD j 0 else hi.getD j 0) (fun j => by
      split
      · exact hc j ‹_›
      · exact Int.le_refl _) (fun i hi' _ p hp => by
      have hp0 := hok i hi' p hp
      rw [if_pos (by omega), if_pos hi']
      exact e3 i hi' hi' p hp) i
    rw [if_pos hi'] at this
    exact this
  | false =>
    rw [consB, List.all_eq_false] at h
    obtain ⟨i, hi', hn⟩ := h
    have hi'' := List.mem_range.1 hi'
    refine consB_false _ _ _ i hi'' ?_
    have := l2 i
    simp only [decide_eq_true_eq] at hn
    omega
end Go.Proofs.Ytpbohmddbfaiiaa
