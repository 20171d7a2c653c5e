/-
  Part 20 of the proof: Sm38. No statement of the seat is proved here.
-/
import Derived.Test.YtmclgfipdgmomaaMHUndecided19
namespace Go.Proofs.Ytmclgfipdgmomaa
open Go.RowKit
def CV (l : List (Int × Int)) (j : Nat) : Nat → Value
  | 0 => .int .i64 (l.getD j (0, 0)).1
  | _ => .int .i64 (l.getD j (0, 0)).2
def Chs (w : World) (v : Value) (l : List (Int × Int)) : Prop := Sl2 w v 2 l.length (CV l)
theorem Chs.below {w w' : World} {v : Value} {l : List (Int × Int)} (h : Chs w v l) (hb : Below w.heap.size w w') : Chs w' v l := Sl2.below h hb
end Go.Proofs.Ytmclgfipdgmomaa
