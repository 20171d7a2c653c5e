/-
  Plain laws: years lie within the bounds, and what slack computes. No statement of the seat is proved here.
-/
import Derived.Test.YtpbohmddbfaiiaaThree
namespace Go.Proofs.Ytpbohmddbfaiiaa
open Go.RowKit

def inY (x : Int) : Prop := -5000 ≤ x ∧ x ≤ 5000
def AllY (xs : List Int) : Prop := ∀ j, inY (xs.getD j 0)

theorem AllY.set {xs : List Int} (h : AllY xs) (i : Nat) (v : Int) (hv : inY v) : AllY (xs.set i v) := by
  intro j
  rw [getD_set]
  split
  · exact hv
  · exact h j
theorem AllY.rep (n : Nat) (v : Int) (hv : inY v) : AllY (List.replicate n v) := by
  intro j
  simp only [List.getD_eq_getElem?_getD, List.getElem?_replicate]
  split
  · exact hv
  · exact ⟨by decide, by decide⟩
theorem AllY.fold {α : Type} (f : List Int → α → List Int) (l : List α) : ∀ (xs : List Int), (∀ ys a, a ∈ l → AllY ys → AllY (f ys a)) → AllY xs → AllY (l.foldl f xs) := by
  induction l with
  | nil => intro xs _ h; exact h
  | cons a l ih =>
    intro xs hf h
    exact ih _ (fun ys b hb => hf ys b (List.mem_cons_of_mem _ hb)) (hf xs a List.mem_cons_self h)
theorem AllY.upE {xs : List Int} (h : AllY xs) (i : Nat) (p : Int) : AllY (upE i xs p) := by
  have h1 := h i
  have h2 := h p.toNat
  exact h.set _ _ (by unfold inY at *; omega)
theorem AllY.dnL {xs : List Int} (h : AllY xs) (i : Nat) (p : Int) : AllY (dnL i xs p) := by
  have h1 := h i
  have h2 := h p.toNat
  exact h.set _ _ (by unfold inY at *; omega)
theorem AllY.earl (par : List (List Int)) {xs : List Int} (h : AllY xs) (k : Nat) : AllY (earl par xs k) := by
  induction k with
  | zero => exact h
  | succ k ih => exact AllY.fold _ _ _ (fun ys a _ hy => hy.upE k a) ih
theorem AllY.late (par : List (List Int)) (k : Nat) : ∀ {xs : List Int}, AllY xs → AllY (late par xs k) := by
  induction k with
  | zero => intro xs h; exact h
  | succ k ih => intro xs h; exact ih (AllY.fold _ _ _ (fun ys a _ hy => hy.dnL k a) h)

theorem dCheck_in (s : Stem) (ds : List Dt) (h : dCheck s ds = 0) : ∀ d ∈ ds, inY d.fr ∧ inY d.to := by
  intro d hd
  obtain ⟨k, hk, rfl⟩ := List.getElem_of_mem hd
  have := (dCheck_zero s ds h).2 k hk
  unfold dBad at this
  unfold inY
  omega
theorem loOf_in (n : Nat) (s : Stem) (ds : List Dt) (h : dCheck s ds = 0) : AllY (loOf n ds) :=
  AllY.fold _ _ _ (fun _ d hd hy => hy.set _ _ (dCheck_in s ds h d hd).1) (AllY.rep n _ ⟨by decide, by decide⟩)
theorem hiOf_in (n : Nat) (s : Stem) (ds : List Dt) (h : dCheck s ds = 0) : AllY (hiOf n ds) :=
  AllY.fold _ _ _ (fun _ d hd hy => hy.set _ _ (dCheck_in s ds h d hd).2) (AllY.rep n _ ⟨by decide, by decide⟩)
theorem yErr_check (s : Stem) (ds : List Dt) (h : yErr s ds = 0) : dCheck s ds = 0 := by
  unfold yErr at h
  by_cases h0 : dCheck s ds = 0
  · exact h0
  · rw [if_pos h0] at h; omega
theorem eYrs_in (s : Stem) (ds : List Dt) (h : yErr s ds = 0) : AllY (eYrs s ds) := (loOf_in _ s ds (yErr_check s ds h)).earl _ _
theorem lYrs_in (s : Stem) (ds : List Dt) (h : yErr s ds = 0) : AllY (lYrs s ds) := AllY.late _ _ (hiOf_in _ s ds (yErr_check s ds h))

/-- What slack has computed behind k rounds. -/
def slk (es ls : List Int) : Nat → List Int
  | 0 => ls
  | k + 1 => (slk es ls k).set k ((slk es ls k).getD k 0 - es.getD k 0)
theorem slk_len (es ls : List Int) (k : Nat) : (slk es ls k).length = ls.length := by
  induction k with
  | zero => rfl
  | succ k ih => rw [slk, List.length_set, ih]
theorem slk_at (es ls : List Int) (k : Nat) (hk : k ≤ ls.length) : ∀ j, (slk es ls k).getD j 0 = if j < k then ls.getD j 0 - es.getD j 0 else ls.getD j 0 := by
  induction k with
  | zero => intro j; rw [if_neg (by omega)]; rfl
  | succ k ih =>
    have ih := ih (by omega)
    intro j
    rw [slk, getD_set, slk_len, ih k, if_neg (Nat.lt_irrefl k), ih j]
    by_cases hj : k = j
    · subst hj
      rw [if_pos ⟨rfl, by omega⟩, if_pos (by omega)]
    · rw [if_neg (by omega)]
      by_cases h1 : j < k
      · rw [if_pos h1, if_pos (by omega)]
      · rw [if_neg h1, if_neg (by omega)]
def dif (es ls : List Int) (k : Nat) : List Int := (List.range k).map fun i => ls.getD i 0 - es.getD i 0
theorem dif_len (es ls : List Int) (k : Nat) : (dif es ls k).length = k := by simp [dif]
theorem dif_at (es ls : List Int) (k j : Nat) (h : j < k) : (dif es ls k).getD j 0 = ls.getD j 0 - es.getD j 0 := by simp [dif, h]
theorem dif_succ (es ls : List Int) (k : Nat) : dif es ls (k + 1) = dif es ls k ++ [ls.getD k 0 - es.getD k 0] := by simp [dif, List.range_succ]
theorem ext_getD {xs ys : List Int} (hl : xs.length = ys.length) (h : ∀ j, j < xs.length → xs.getD j 0 = ys.getD j 0) : xs = ys := by
  apply List.ext_getElem hl
  intro j h1 h2
  have := h j h1
  simpa [h1, h2] using this
theorem slk_dif (es ls : List Int) : slk es ls ls.length = dif es ls ls.length := by
  apply ext_getD (by rw [slk_len, dif_len])
  intro j hj
  rw [slk_len] at hj
  rw [slk_at _ _ _ (Nat.le_refl _), dif_at _ _ _ _ hj, if_pos hj]
end Go.Proofs.Ytpbohmddbfaiiaa
