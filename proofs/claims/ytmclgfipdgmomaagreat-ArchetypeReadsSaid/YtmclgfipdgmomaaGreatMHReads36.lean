/-
  Part 36 of the proof: Sa36. No statement of the seat is proved here.
-/
import Derived.Test.YtmclgfipdgmomaaGreatMHReads35
namespace Go.Proofs.YtmclgfipdgmomaaGreat
open Go.RowKit
theorem ext_getDg {α : Type} (a b : List α) (d : α) (hl : a.length = b.length) (h : ∀ j, j < a.length → a.getD j d = b.getD j d) : a = b := by
  refine List.ext_getElem hl fun j h1 h2 => ?_
  have := h j h1
  rwa [getD_lt _ _ _ h1, getD_lt _ _ _ h2] at this
end Go.Proofs.YtmclgfipdgmomaaGreat
