/-
  Part 24 of the proof: Pr39. No statement of the seat is proved here.
-/
import Derived.Test.YtpfemholpigdeaaGreatDoorMHNo3623
namespace Go.Proofs.YtpfemholpigdeaaGreatDoor
theorem dscF_at (par : List (List Int)) (i j : Nat) : ∀ k, j < k → dscF par i k j = if j < i then false else if j = i then true else (par.getD j []).any fun p => dscF par i j p.toNat
  | 0, h => absurd h (by omega)
  | k + 1, h => by
    by_cases hj : j < k
    · rw [← dscF_at par i j k hj]
      exact dscL_old par i j k hj
    · obtain rfl : j = k := by omega
      exact dscL_new par i j
theorem dsnL_mem (par : List (List Int)) (i k j : Nat) : (j : Int) ∈ dsnL par i k ↔ j < k ∧ i < j ∧ dscF par i k j = true := by
  unfold dsnL
  simp only [List.mem_map, List.mem_filter, List.mem_range, Bool.and_eq_true, decide_eq_true_eq]
  constructor
  · rintro ⟨q, ⟨h1, h2, h3⟩, e⟩
    obtain rfl : q = j := by omega
    exact ⟨h1, h2, h3⟩
  · rintro ⟨h1, h2, h3⟩
    exact ⟨j, ⟨h1, h2, h3⟩, rfl⟩
end Go.Proofs.YtpfemholpigdeaaGreatDoor
