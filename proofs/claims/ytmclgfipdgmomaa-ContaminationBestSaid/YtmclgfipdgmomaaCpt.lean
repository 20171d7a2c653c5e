/-
  slices.Compact on a row of the call's own. No statement of the seat is proved here.
-/
import Derived.Test.YtmclgfipdgmomaaFx
namespace Go.Proofs.Ytmclgfipdgmomaa
open Go.RowKit

theorem arr_get (xs : List Int) (j : Nat) (h : j < xs.length) : xs.toArray[j]! = xs[j] := by simp [h]
theorem compact_mem (xs : List Int) (x : Int) : x ∈ Lib.compact xs ↔ x ∈ xs := by
  unfold Lib.compact Lib.compactUpTo
  simp only [List.mem_map, List.mem_filter, List.mem_range]
  constructor
  · rintro ⟨j, ⟨h1, _⟩, rfl⟩
    rw [arr_get xs j h1]
    exact List.getElem_mem h1
  · intro hx
    obtain ⟨j, hj, rfl⟩ := List.getElem_of_mem hx
    clear hx
    induction j with
    | zero => exact ⟨0, ⟨hj, by simp [Lib.keeps]⟩, arr_get xs 0 hj⟩
    | succ j ih =>
      by_cases he : xs[j + 1] = xs[j]
      · rw [he]; exact ih (by omega)
      · refine ⟨j + 1, ⟨hj, ?_⟩, arr_get xs _ hj⟩
        apply Lib.keeps_pos
        rw [arr_get xs _ hj, Nat.add_sub_cancel, arr_get xs j (by omega)]
        exact he
theorem compact_asc (xs : List Int) (h : xs.Pairwise (· ≤ ·)) : (Lib.compact xs).Pairwise (· < ·) := by
  unfold Lib.compact Lib.compactUpTo
  rw [List.pairwise_map]
  refine (List.Pairwise.filter (Lib.keeps xs.toArray) List.pairwise_lt_range).imp_of_mem ?_
  intro i j hi hj hij
  simp only [List.mem_filter, List.mem_range] at hi hj
  have hk : xs.toArray[j]! ≠ xs.toArray[j - 1]! := by
    have := hj.2
    simp only [Lib.keeps, decide_eq_true_eq] at this
    rcases this with h0 | h0
    · omega
    · exact h0
  rw [arr_get xs j hj.1, arr_get xs (j - 1) (by omega)] at hk
  rw [arr_get xs i hi.1, arr_get xs j hj.1]
  have hp := List.pairwise_iff_getElem.1 h
  have h1 := hp (j - 1) j (by omega) hj.1 (by omega)
  rcases Nat.lt_or_ge i (j - 1) with h2 | h2
  · have := hp i (j - 1) hi.1 (by omega) h2
    omega
  · have : i = j - 1 := by omega
    subst this
    omega
theorem compact_len (xs : List Int) : (Lib.compact xs).length ≤ xs.length := by
  unfold Lib.compact Lib.compactUpTo
  rw [List.length_map]
  exact Nat.le_trans (List.length_filter_le _ _) (by simp)
set_option maxRecDepth 100000 in
set_option maxHeartbeats 4000000 in
theorem compact_int_sat (g cap n : Nat) (xs : List Int) (w0 : World) (L : List Res) (i : Nat) (hxn : xs.length = n) (hi : L[i]? = some (.row 3 1 (.slice (some ⟨g, 0, none⟩) n cap) n (ints xs))) (hx : n ≤ 1000000) :
    SatL Try.prog 57 [.slice (some ⟨g, 0, none⟩) n cap] w0 L (fun u L' => ∃ k, k = (Lib.compact xs).length ∧ u = .slice (some ⟨g, 0, none⟩) k cap ∧ L' = L.set i (.row 3 1 (.slice (some ⟨g, 0, none⟩) k cap) k (ints (Lib.compact xs)))) := by
  subst hxn
  refine ⟨⟨_, _, Try.func57, by kernel_rfl, rfl⟩, fun w hp => ?_⟩
  have ho : w.ownsRow w0.heap.size 3 1 (.slice (some ⟨g, 0, none⟩) xs.length cap) xs.length (ints xs) := hp.ok _ (List.mem_of_getElem? hi)
  have hlt := (ho.lt g rfl).2
  rcases ho.2 with ⟨h0, _⟩ | ⟨g', cap', cur, hv, hg, hb, hn, hcap, hsz, htake⟩
  · cases h0
  cases hv
  rw [Nat.mul_one] at htake
  have hcl := compact_len xs
  let ts := Lib.compact xs ++ List.replicate (xs.length - (Lib.compact xs).length) 0
  have htl : ts.length = xs.length := by simp [ts]; omega
  refine (Try.slices_Compact_int g 0 cap xs w (Go.holds_of_blockI hb htake) (by omega) hn).mono ?_
  rintro e w' ⟨rfl, q, rfl⟩
  have e0 : ∀ W : World, Go.Sort.grow W #[] = W := fun W => Go.Sort.grow_empty W
  rw [← e0 (Go.Sort.putRow _ _ _ _ _)]
  have h1 : Hp w0.heap.size w0 (Go.Sort.grow (Go.Sort.putRow (Value.int .i64) (Go.Sort.ahead w q) g 0 ts.toArray) #[]) (L.set i (.row 3 1 (.slice (some ⟨g, 0, none⟩) xs.length cap) xs.length (ints ts))) :=
    hp.turn hi (r' := .row 3 1 (.slice (some ⟨g, 0, none⟩) xs.length cap) xs.length (ints ts)) (Go.grownBy_sortedI _) (Go.ownsRow_sortedI (w := w) (n := q) (os := #[]) (ts := ts) htl hg hb hn hcap hsz) (fun k hk => .inl hk)
  have hil : i < L.length := (List.getElem?_eq_some_iff.1 hi).1
  have hi2 : (L.set i (.row 3 1 (.slice (some ⟨g, 0, none⟩) xs.length cap) xs.length (ints ts)))[i]? = some (.row 3 1 (.slice (some ⟨g, 0, none⟩) xs.length cap) xs.length (ints ts)) := by
    rw [List.getElem?_set, if_pos rfl, if_pos hil]
  have h2 := h1.cut i hi2 (Lib.compact xs).length hcl
  rw [List.set_set] at h2
  have h3 : (ints ts).take ((Lib.compact xs).length * 1) = ints (Lib.compact xs) := by
    rw [Nat.mul_one]
    simp [ts, ints]
  rw [h3] at h2
  exact ⟨_, _, rfl, h2, _, rfl, rfl, rfl⟩
end Go.Proofs.Ytmclgfipdgmomaa
