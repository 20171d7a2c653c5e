/-
  How a list of bytes is opened out of the row's reading. No statement of the seat is proved here.
-/
import Derived.Test.YtmclgfipdgmomaaOpen
namespace Go.Proofs.Ytmclgfipdgmomaa
open Go.RowKit Go.Deep Go.WideShapes

/-- A list of bytes, as numbers. -/
def U8s (w : World) (v : Value) (xs : List Int) : Prop := Sl w v 1 xs.length (fun j => .int .u8 (xs.getD j 0))
section
variable {H : Type} {enc : TypeId × Value → H} {W : World}
theorem U8s.openT {v : Value} {d : DataW H} {ps : List MemPlace} (ho : ∃ a n c, v = .slice a n c) (h : DataW.Trod enc Try.prog W 0 (fun _ => true) true 45 v d ps) (hw : Light 45 d) :
    ∃ xs : List Int, U8s W v xs ∧ ∀ i ∈ xs, 0 ≤ i ∧ i ≤ 255 := by
  obtain ⟨fuel, h⟩ := h
  rw [one_cell ho] at h
  obtain ⟨n, m, V, D, Q, h1, h2⟩ := open_sl Try.underlying45 (by kernel_rfl) (of_decide_eq_true (by kernel_rfl)) h hw
  obtain ⟨Z, hZ⟩ := choose_lt (α := Int) (p := fun i z => V i = .int .u8 z ∧ 0 ≤ z ∧ z ≤ 255) (fun i hi => by
    obtain ⟨z, h4, _, h5⟩ := DataW.trod_int Try.underlying5 (h2 i hi).1
    refine ⟨z, by simpa using h4, ?_⟩
    have e1 : IntKind.u8.min = 0 := rfl
    have e2 : IntKind.u8.max = 255 := rfl
    simp only [Lit.wf, Bool.and_eq_true, decide_eq_true_eq] at h5
    omega)
  refine ⟨(List.range n).map Z, ?_, ?_⟩
  · unfold U8s
    rw [List.length_map, List.length_range]
    exact h1.congr fun j hj => (hZ j (by omega)).1.trans (by rw [range_getD _ _ _ _ (by omega)])
  · intro i hi
    obtain ⟨j, hj, rfl⟩ := List.mem_map.1 hi
    exact (hZ j (List.mem_range.1 hj)).2
end
end Go.Proofs.Ytmclgfipdgmomaa
