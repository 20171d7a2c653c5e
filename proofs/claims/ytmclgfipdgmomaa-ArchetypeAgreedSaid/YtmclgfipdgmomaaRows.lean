/-
  No cell of these rows narrows 'for every input' (looked for: loops, veiled, ifaces, maps, wideKeys, modest, calm, conditions, laid).
  DERIVED. THE GIVEN ROWS OF THIS SEAT. 12 by the template 'for every input the law returns true; each argument reads behind the call as it read before'; 0 by the template 'total and deterministic' (their statements: YtmclgfipdgmomaaTotals.lean).
  GIVEN WITH THE SEED: the statements are not yours to turn. If you find one false, say at which input.
  Laid BY PROGRAM, IN A SANDBOX (cutbox-rows.mjs): the forced cells as the released guide's own fill.sh prints them over the translation 5ee327347ed3d02e… (all of the seat's roots in one cut). By AI agents, Wed Nov 11 2026. No macro, syntax, notation, axiom, sorry.
-/
import Derived.Test.YtmclgfipdgmomaaChecked
import GoSem.Claim
import GoSem.ClaimJoined
import GoSem.ClaimMapViews
import Derived.JoinedTies
import Derived.KernelRfl
namespace Go.Proofs.Ytmclgfipdgmomaa
/- THE CELL 'sum', in the pinned program and in every row, IS THE sha256 OF THE DUMP (.gsa) THAT YtmclgfipdgmomaaProg.lean LOADS. Nothing in Lean hashes anything: it is a label: what it is worth is what the hold of that sum in a sandbox is worth. -/
noncomputable def Try.pinned : Pinned := { name := "ytmclgfipdgmomaa", sum := "5ee327347ed3d02ecfaaa82f41f67d3c28a4b51ac440110486499f3c9eae3d65", checked := Try.checked }
namespace Rows
def none {H : Type} : Left H := { results := [], args := [] }

/-- 'apographlaw38.ContaminationScores': WHATEVER THE INPUT: true; the input reads as it did. -/
def contaminationScoresSpec : ChangeSpec := { name := "contaminationScores", fn := fun _ => fun
  | [d1, d2] => { results := [.lit (.bool true)], args := [d1, d2] }
  | _ => none }
def contaminationScoresRow : OpenClaim := { program := "ytmclgfipdgmomaa", sum := "5ee327347ed3d02ecfaaa82f41f67d3c28a4b51ac440110486499f3c9eae3d65", func := "apograph/apographlaw38.ContaminationScores", spec := "contaminationScores", inPlace := ["internal/bytealg.IndexByteString"], unfollowed := true, recurses := true, apart := false }
def ContaminationScoresSaid : Prop := contaminationScoresRow.holds Try.pinned (OpenSpec.ofChange contaminationScoresSpec)

/-- ITS FALSE NEIGHBOUR: 'it returns false'. Refute it at one input. -/
def contaminationScoresWrong : ChangeSpec := { name := "contaminationScores", fn := fun _ => fun
  | [d1, d2] => { results := [.lit (.bool false)], args := [d1, d2] }
  | _ => none }
def ContaminationScoresWrongFalsely : Prop := contaminationScoresRow.holds Try.pinned (OpenSpec.ofChange contaminationScoresWrong)

/-- 'apographlaw38.ContaminationAssigned': WHATEVER THE INPUT: true; the input reads as it did. -/
def contaminationAssignedSpec : ChangeSpec := { name := "contaminationAssigned", fn := fun _ => fun
  | [d1, d2] => { results := [.lit (.bool true)], args := [d1, d2] }
  | _ => none }
def contaminationAssignedRow : OpenClaim := { program := "ytmclgfipdgmomaa", sum := "5ee327347ed3d02ecfaaa82f41f67d3c28a4b51ac440110486499f3c9eae3d65", func := "apograph/apographlaw38.ContaminationAssigned", spec := "contaminationAssigned", inPlace := ["internal/bytealg.IndexByteString"], unfollowed := true, recurses := true, apart := false }
def ContaminationAssignedSaid : Prop := contaminationAssignedRow.holds Try.pinned (OpenSpec.ofChange contaminationAssignedSpec)

/-- ITS FALSE NEIGHBOUR: 'it returns false'. Refute it at one input. -/
def contaminationAssignedWrong : ChangeSpec := { name := "contaminationAssigned", fn := fun _ => fun
  | [d1, d2] => { results := [.lit (.bool false)], args := [d1, d2] }
  | _ => none }
def ContaminationAssignedWrongFalsely : Prop := contaminationAssignedRow.holds Try.pinned (OpenSpec.ofChange contaminationAssignedWrong)

/-- 'apographlaw38.ContaminationLeast': WHATEVER THE INPUT: true; the input reads as it did. -/
def contaminationLeastSpec : ChangeSpec := { name := "contaminationLeast", fn := fun _ => fun
  | [d1, d2, d3] => { results := [.lit (.bool true)], args := [d1, d2, d3] }
  | _ => none }
def contaminationLeastRow : OpenClaim := { program := "ytmclgfipdgmomaa", sum := "5ee327347ed3d02ecfaaa82f41f67d3c28a4b51ac440110486499f3c9eae3d65", func := "apograph/apographlaw38.ContaminationLeast", spec := "contaminationLeast", inPlace := ["internal/bytealg.IndexByteString"], unfollowed := true, recurses := true, apart := false }
def ContaminationLeastSaid : Prop := contaminationLeastRow.holds Try.pinned (OpenSpec.ofChange contaminationLeastSpec)

/-- ITS FALSE NEIGHBOUR: 'it returns false'. Refute it at one input. -/
def contaminationLeastWrong : ChangeSpec := { name := "contaminationLeast", fn := fun _ => fun
  | [d1, d2, d3] => { results := [.lit (.bool false)], args := [d1, d2, d3] }
  | _ => none }
def ContaminationLeastWrongFalsely : Prop := contaminationLeastRow.holds Try.pinned (OpenSpec.ofChange contaminationLeastWrong)

/-- 'apographlaw38.ContaminationSums': WHATEVER THE INPUT: true; the input reads as it did. -/
def contaminationSumsSpec : ChangeSpec := { name := "contaminationSums", fn := fun _ => fun
  | [d1, d2] => { results := [.lit (.bool true)], args := [d1, d2] }
  | _ => none }
def contaminationSumsRow : OpenClaim := { program := "ytmclgfipdgmomaa", sum := "5ee327347ed3d02ecfaaa82f41f67d3c28a4b51ac440110486499f3c9eae3d65", func := "apograph/apographlaw38.ContaminationSums", spec := "contaminationSums", inPlace := ["internal/bytealg.IndexByteString"], unfollowed := true, recurses := true, apart := false }
def ContaminationSumsSaid : Prop := contaminationSumsRow.holds Try.pinned (OpenSpec.ofChange contaminationSumsSpec)

/-- ITS FALSE NEIGHBOUR: 'it returns false'. Refute it at one input. -/
def contaminationSumsWrong : ChangeSpec := { name := "contaminationSums", fn := fun _ => fun
  | [d1, d2] => { results := [.lit (.bool false)], args := [d1, d2] }
  | _ => none }
def ContaminationSumsWrongFalsely : Prop := contaminationSumsRow.holds Try.pinned (OpenSpec.ofChange contaminationSumsWrong)

/-- 'apographlaw38.ContaminationTotals': WHATEVER THE INPUT: true; the input reads as it did. -/
def contaminationTotalsSpec : ChangeSpec := { name := "contaminationTotals", fn := fun _ => fun
  | [d1, d2] => { results := [.lit (.bool true)], args := [d1, d2] }
  | _ => none }
def contaminationTotalsRow : OpenClaim := { program := "ytmclgfipdgmomaa", sum := "5ee327347ed3d02ecfaaa82f41f67d3c28a4b51ac440110486499f3c9eae3d65", func := "apograph/apographlaw38.ContaminationTotals", spec := "contaminationTotals", inPlace := ["internal/bytealg.IndexByteString"], unfollowed := true, recurses := true, apart := false }
def ContaminationTotalsSaid : Prop := contaminationTotalsRow.holds Try.pinned (OpenSpec.ofChange contaminationTotalsSpec)

/-- ITS FALSE NEIGHBOUR: 'it returns false'. Refute it at one input. -/
def contaminationTotalsWrong : ChangeSpec := { name := "contaminationTotals", fn := fun _ => fun
  | [d1, d2] => { results := [.lit (.bool false)], args := [d1, d2] }
  | _ => none }
def ContaminationTotalsWrongFalsely : Prop := contaminationTotalsRow.holds Try.pinned (OpenSpec.ofChange contaminationTotalsWrong)

/-- 'apographlaw38.ContaminationBest': WHATEVER THE INPUT: true; the input reads as it did. -/
def contaminationBestSpec : ChangeSpec := { name := "contaminationBest", fn := fun _ => fun
  | [d1, d2, d3, d4] => { results := [.lit (.bool true)], args := [d1, d2, d3, d4] }
  | _ => none }
def contaminationBestRow : OpenClaim := { program := "ytmclgfipdgmomaa", sum := "5ee327347ed3d02ecfaaa82f41f67d3c28a4b51ac440110486499f3c9eae3d65", func := "apograph/apographlaw38.ContaminationBest", spec := "contaminationBest", inPlace := ["internal/bytealg.IndexByteString"], unfollowed := true, recurses := true, apart := false }
def ContaminationBestSaid : Prop := contaminationBestRow.holds Try.pinned (OpenSpec.ofChange contaminationBestSpec)

/-- ITS FALSE NEIGHBOUR: 'it returns false'. Refute it at one input. -/
def contaminationBestWrong : ChangeSpec := { name := "contaminationBest", fn := fun _ => fun
  | [d1, d2, d3, d4] => { results := [.lit (.bool false)], args := [d1, d2, d3, d4] }
  | _ => none }
def ContaminationBestWrongFalsely : Prop := contaminationBestRow.holds Try.pinned (OpenSpec.ofChange contaminationBestWrong)

/-- 'apographlaw39.ArchetypeDenied': WHATEVER THE INPUT: true; the input reads as it did. -/
def archetypeDeniedSpec : ChangeSpec := { name := "archetypeDenied", fn := fun _ => fun
  | [d1, d2, d3, d4] => { results := [.lit (.bool true)], args := [d1, d2, d3, d4] }
  | _ => none }
def archetypeDeniedRow : OpenClaim := { program := "ytmclgfipdgmomaa", sum := "5ee327347ed3d02ecfaaa82f41f67d3c28a4b51ac440110486499f3c9eae3d65", func := "apograph/apographlaw39.ArchetypeDenied", spec := "archetypeDenied", inPlace := ["internal/bytealg.IndexByteString"], unfollowed := true, recurses := true, apart := false }
def ArchetypeDeniedSaid : Prop := archetypeDeniedRow.holds Try.pinned (OpenSpec.ofChange archetypeDeniedSpec)

/-- ITS FALSE NEIGHBOUR: 'it returns false'. Refute it at one input. -/
def archetypeDeniedWrong : ChangeSpec := { name := "archetypeDenied", fn := fun _ => fun
  | [d1, d2, d3, d4] => { results := [.lit (.bool false)], args := [d1, d2, d3, d4] }
  | _ => none }
def ArchetypeDeniedWrongFalsely : Prop := archetypeDeniedRow.holds Try.pinned (OpenSpec.ofChange archetypeDeniedWrong)

/-- 'apographlaw39.ArchetypeEliminated': WHATEVER THE INPUT: true; the input reads as it did. -/
def archetypeEliminatedSpec : ChangeSpec := { name := "archetypeEliminated", fn := fun _ => fun
  | [d] => { results := [.lit (.bool true)], args := [d] }
  | _ => none }
def archetypeEliminatedRow : OpenClaim := { program := "ytmclgfipdgmomaa", sum := "5ee327347ed3d02ecfaaa82f41f67d3c28a4b51ac440110486499f3c9eae3d65", func := "apograph/apographlaw39.ArchetypeEliminated", spec := "archetypeEliminated", inPlace := ["internal/bytealg.IndexByteString"], unfollowed := true, recurses := true, apart := false }
def ArchetypeEliminatedSaid : Prop := archetypeEliminatedRow.holds Try.pinned (OpenSpec.ofChange archetypeEliminatedSpec)

/-- ITS FALSE NEIGHBOUR: 'it returns false'. Refute it at one input. -/
def archetypeEliminatedWrong : ChangeSpec := { name := "archetypeEliminated", fn := fun _ => fun
  | [d] => { results := [.lit (.bool false)], args := [d] }
  | _ => none }
def ArchetypeEliminatedWrongFalsely : Prop := archetypeEliminatedRow.holds Try.pinned (OpenSpec.ofChange archetypeEliminatedWrong)

/-- 'apographlaw39.ArchetypeAgreed': WHATEVER THE INPUT: true; the input reads as it did. -/
def archetypeAgreedSpec : ChangeSpec := { name := "archetypeAgreed", fn := fun _ => fun
  | [d1, d2, d3] => { results := [.lit (.bool true)], args := [d1, d2, d3] }
  | _ => none }
def archetypeAgreedRow : OpenClaim := { program := "ytmclgfipdgmomaa", sum := "5ee327347ed3d02ecfaaa82f41f67d3c28a4b51ac440110486499f3c9eae3d65", func := "apograph/apographlaw39.ArchetypeAgreed", spec := "archetypeAgreed", inPlace := ["internal/bytealg.IndexByteString"], unfollowed := true, recurses := true, apart := false }
def ArchetypeAgreedSaid : Prop := archetypeAgreedRow.holds Try.pinned (OpenSpec.ofChange archetypeAgreedSpec)

/-- ITS FALSE NEIGHBOUR: 'it returns false'. Refute it at one input. -/
def archetypeAgreedWrong : ChangeSpec := { name := "archetypeAgreed", fn := fun _ => fun
  | [d1, d2, d3] => { results := [.lit (.bool false)], args := [d1, d2, d3] }
  | _ => none }
def ArchetypeAgreedWrongFalsely : Prop := archetypeAgreedRow.holds Try.pinned (OpenSpec.ofChange archetypeAgreedWrong)

/-- 'apographlaw39.ArchetypePossible': WHATEVER THE INPUT: true; the input reads as it did. -/
def archetypePossibleSpec : ChangeSpec := { name := "archetypePossible", fn := fun _ => fun
  | [d1, d2] => { results := [.lit (.bool true)], args := [d1, d2] }
  | _ => none }
def archetypePossibleRow : OpenClaim := { program := "ytmclgfipdgmomaa", sum := "5ee327347ed3d02ecfaaa82f41f67d3c28a4b51ac440110486499f3c9eae3d65", func := "apograph/apographlaw39.ArchetypePossible", spec := "archetypePossible", inPlace := ["internal/bytealg.IndexByteString"], unfollowed := true, recurses := true, apart := false }
def ArchetypePossibleSaid : Prop := archetypePossibleRow.holds Try.pinned (OpenSpec.ofChange archetypePossibleSpec)

/-- ITS FALSE NEIGHBOUR: 'it returns false'. Refute it at one input. -/
def archetypePossibleWrong : ChangeSpec := { name := "archetypePossible", fn := fun _ => fun
  | [d1, d2] => { results := [.lit (.bool false)], args := [d1, d2] }
  | _ => none }
def ArchetypePossibleWrongFalsely : Prop := archetypePossibleRow.holds Try.pinned (OpenSpec.ofChange archetypePossibleWrong)

/-- 'apographlaw39.ArchetypeCertain': WHATEVER THE INPUT: true; the input reads as it did. -/
def archetypeCertainSpec : ChangeSpec := { name := "archetypeCertain", fn := fun _ => fun
  | [d1, d2] => { results := [.lit (.bool true)], args := [d1, d2] }
  | _ => none }
def archetypeCertainRow : OpenClaim := { program := "ytmclgfipdgmomaa", sum := "5ee327347ed3d02ecfaaa82f41f67d3c28a4b51ac440110486499f3c9eae3d65", func := "apograph/apographlaw39.ArchetypeCertain", spec := "archetypeCertain", inPlace := ["internal/bytealg.IndexByteString"], unfollowed := true, recurses := true, apart := false }
def ArchetypeCertainSaid : Prop := archetypeCertainRow.holds Try.pinned (OpenSpec.ofChange archetypeCertainSpec)

/-- ITS FALSE NEIGHBOUR: 'it returns false'. Refute it at one input. -/
def archetypeCertainWrong : ChangeSpec := { name := "archetypeCertain", fn := fun _ => fun
  | [d1, d2] => { results := [.lit (.bool false)], args := [d1, d2] }
  | _ => none }
def ArchetypeCertainWrongFalsely : Prop := archetypeCertainRow.holds Try.pinned (OpenSpec.ofChange archetypeCertainWrong)

/-- 'apographlaw39.ArchetypeUndecided': WHATEVER THE INPUT: true; the input reads as it did. -/
def archetypeUndecidedSpec : ChangeSpec := { name := "archetypeUndecided", fn := fun _ => fun
  | [d1, d2] => { results := [.lit (.bool true)], args := [d1, d2] }
  | _ => none }
def archetypeUndecidedRow : OpenClaim := { program := "ytmclgfipdgmomaa", sum := "5ee327347ed3d02ecfaaa82f41f67d3c28a4b51ac440110486499f3c9eae3d65", func := "apograph/apographlaw39.ArchetypeUndecided", spec := "archetypeUndecided", inPlace := ["internal/bytealg.IndexByteString"], unfollowed := true, recurses := true, apart := false }
def ArchetypeUndecidedSaid : Prop := archetypeUndecidedRow.holds Try.pinned (OpenSpec.ofChange archetypeUndecidedSpec)

/-- ITS FALSE NEIGHBOUR: 'it returns false'. Refute it at one input. -/
def archetypeUndecidedWrong : ChangeSpec := { name := "archetypeUndecided", fn := fun _ => fun
  | [d1, d2] => { results := [.lit (.bool false)], args := [d1, d2] }
  | _ => none }
def ArchetypeUndecidedWrongFalsely : Prop := archetypeUndecidedRow.holds Try.pinned (OpenSpec.ofChange archetypeUndecidedWrong)

/- THE SECOND FORM. 'bulk': how many values and letters a reading holds, each counted each time it is reached (what is shared counts as often as it is met; a slice's spare places count too). A statement '..UptoSaid' is the law's where the arguments, and the package variables that the reading takes, are together of bulk at most 1048576: NARROWER than '..Said'. Prove '..Said' where nothing that the law and all that it calls make is longer than what came in: it says more and counts as full. Else prove '..UptoSaid'. A law counts once. -/
mutual
def uptoBulk {H : Type} : DataW H → Nat
  | .lit (.string bytes) => bytes.length + 1
  | .lit _ => 1
  | .nil => 1
  | .ptr d => uptoBulk d + 1
  | .slice elems spare => uptoBulkAll elems + uptoBulkAll spare + 1
  | .agg parts => uptoBulkAll parts + 1
  | .iface _ d => uptoBulk d + 1
  | .map entries => uptoBulkEntries entries + 1
  | .held _ => 1
def uptoBulkAll {H : Type} : List (DataW H) → Nat
  | [] => 0
  | d :: r => uptoBulk d + uptoBulkAll r
def uptoBulkEntries {H : Type} : List (Lit × DataW H) → Nat
  | [] => 0
  | x :: r => uptoBulkEntry x + uptoBulkEntries r
def uptoBulkEntry {H : Type} : Lit × DataW H → Nat
  | (.string bytes, d) => bytes.length + uptoBulk d + 1
  | (_, d) => uptoBulk d + 1
 end
def uptoSmall : (H : Type) → List (DataW H) → Bool := fun _ ds => decide (uptoBulkAll ds ≤ 1048576)
def OpenSpec.upto (s : _root_.Go.ChangeSpec) : _root_.Go.OpenSpec := { _root_.Go.OpenSpec.ofChange s with cond := some uptoSmall }

/-- 'apographlaw38.ContaminationScores', WHERE WHAT IT READS IS OF BULK AT MOST 1048576: true; the input reads as it did. -/
def contaminationScoresUptoRow : OpenClaim := { program := "ytmclgfipdgmomaa", sum := "5ee327347ed3d02ecfaaa82f41f67d3c28a4b51ac440110486499f3c9eae3d65", func := "apograph/apographlaw38.ContaminationScores", spec := "contaminationScores", inPlace := ["internal/bytealg.IndexByteString"], unfollowed := true, recurses := true, apart := false, narrowed := true }
def ContaminationScoresUptoSaid : Prop := contaminationScoresUptoRow.holds Try.pinned (OpenSpec.upto contaminationScoresSpec)

/-- 'apographlaw38.ContaminationAssigned', WHERE WHAT IT READS IS OF BULK AT MOST 1048576: true; the input reads as it did. -/
def contaminationAssignedUptoRow : OpenClaim := { program := "ytmclgfipdgmomaa", sum := "5ee327347ed3d02ecfaaa82f41f67d3c28a4b51ac440110486499f3c9eae3d65", func := "apograph/apographlaw38.ContaminationAssigned", spec := "contaminationAssigned", inPlace := ["internal/bytealg.IndexByteString"], unfollowed := true, recurses := true, apart := false, narrowed := true }
def ContaminationAssignedUptoSaid : Prop := contaminationAssignedUptoRow.holds Try.pinned (OpenSpec.upto contaminationAssignedSpec)

/-- 'apographlaw38.ContaminationLeast', WHERE WHAT IT READS IS OF BULK AT MOST 1048576: true; the input reads as it did. -/
def contaminationLeastUptoRow : OpenClaim := { program := "ytmclgfipdgmomaa", sum := "5ee327347ed3d02ecfaaa82f41f67d3c28a4b51ac440110486499f3c9eae3d65", func := "apograph/apographlaw38.ContaminationLeast", spec := "contaminationLeast", inPlace := ["internal/bytealg.IndexByteString"], unfollowed := true, recurses := true, apart := false, narrowed := true }
def ContaminationLeastUptoSaid : Prop := contaminationLeastUptoRow.holds Try.pinned (OpenSpec.upto contaminationLeastSpec)

/-- 'apographlaw38.ContaminationSums', WHERE WHAT IT READS IS OF BULK AT MOST 1048576: true; the input reads as it did. -/
def contaminationSumsUptoRow : OpenClaim := { program := "ytmclgfipdgmomaa", sum := "5ee327347ed3d02ecfaaa82f41f67d3c28a4b51ac440110486499f3c9eae3d65", func := "apograph/apographlaw38.ContaminationSums", spec := "contaminationSums", inPlace := ["internal/bytealg.IndexByteString"], unfollowed := true, recurses := true, apart := false, narrowed := true }
def ContaminationSumsUptoSaid : Prop := contaminationSumsUptoRow.holds Try.pinned (OpenSpec.upto contaminationSumsSpec)

/-- 'apographlaw38.ContaminationTotals', WHERE WHAT IT READS IS OF BULK AT MOST 1048576: true; the input reads as it did. -/
def contaminationTotalsUptoRow : OpenClaim := { program := "ytmclgfipdgmomaa", sum := "5ee327347ed3d02ecfaaa82f41f67d3c28a4b51ac440110486499f3c9eae3d65", func := "apograph/apographlaw38.ContaminationTotals", spec := "contaminationTotals", inPlace := ["internal/bytealg.IndexByteString"], unfollowed := true, recurses := true, apart := false, narrowed := true }
def ContaminationTotalsUptoSaid : Prop := contaminationTotalsUptoRow.holds Try.pinned (OpenSpec.upto contaminationTotalsSpec)

/-- 'apographlaw38.ContaminationBest', WHERE WHAT IT READS IS OF BULK AT MOST 1048576: true; the input reads as it did. -/
def contaminationBestUptoRow : OpenClaim := { program := "ytmclgfipdgmomaa", sum := "5ee327347ed3d02ecfaaa82f41f67d3c28a4b51ac440110486499f3c9eae3d65", func := "apograph/apographlaw38.ContaminationBest", spec := "contaminationBest", inPlace := ["internal/bytealg.IndexByteString"], unfollowed := true, recurses := true, apart := false, narrowed := true }
def ContaminationBestUptoSaid : Prop := contaminationBestUptoRow.holds Try.pinned (OpenSpec.upto contaminationBestSpec)

/-- 'apographlaw39.ArchetypeDenied', WHERE WHAT IT READS IS OF BULK AT MOST 1048576: true; the input reads as it did. -/
def archetypeDeniedUptoRow : OpenClaim := { program := "ytmclgfipdgmomaa", sum := "5ee327347ed3d02ecfaaa82f41f67d3c28a4b51ac440110486499f3c9eae3d65", func := "apograph/apographlaw39.ArchetypeDenied", spec := "archetypeDenied", inPlace := ["internal/bytealg.IndexByteString"], unfollowed := true, recurses := true, apart := false, narrowed := true }
def ArchetypeDeniedUptoSaid : Prop := archetypeDeniedUptoRow.holds Try.pinned (OpenSpec.upto archetypeDeniedSpec)

/-- 'apographlaw39.ArchetypeEliminated', WHERE WHAT IT READS IS OF BULK AT MOST 1048576: true; the input reads as it did. -/
def archetypeEliminatedUptoRow : OpenClaim := { program := "ytmclgfipdgmomaa", sum := "5ee327347ed3d02ecfaaa82f41f67d3c28a4b51ac440110486499f3c9eae3d65", func := "apograph/apographlaw39.ArchetypeEliminated", spec := "archetypeEliminated", inPlace := ["internal/bytealg.IndexByteString"], unfollowed := true, recurses := true, apart := false, narrowed := true }
def ArchetypeEliminatedUptoSaid : Prop := archetypeEliminatedUptoRow.holds Try.pinned (OpenSpec.upto archetypeEliminatedSpec)

/-- 'apographlaw39.ArchetypeAgreed', WHERE WHAT IT READS IS OF BULK AT MOST 1048576: true; the input reads as it did. -/
def archetypeAgreedUptoRow : OpenClaim := { program := "ytmclgfipdgmomaa", sum := "5ee327347ed3d02ecfaaa82f41f67d3c28a4b51ac440110486499f3c9eae3d65", func := "apograph/apographlaw39.ArchetypeAgreed", spec := "archetypeAgreed", inPlace := ["internal/bytealg.IndexByteString"], unfollowed := true, recurses := true, apart := false, narrowed := true }
def ArchetypeAgreedUptoSaid : Prop := archetypeAgreedUptoRow.holds Try.pinned (OpenSpec.upto archetypeAgreedSpec)

/-- 'apographlaw39.ArchetypePossible', WHERE WHAT IT READS IS OF BULK AT MOST 1048576: true; the input reads as it did. -/
def archetypePossibleUptoRow : OpenClaim := { program := "ytmclgfipdgmomaa", sum := "5ee327347ed3d02ecfaaa82f41f67d3c28a4b51ac440110486499f3c9eae3d65", func := "apograph/apographlaw39.ArchetypePossible", spec := "archetypePossible", inPlace := ["internal/bytealg.IndexByteString"], unfollowed := true, recurses := true, apart := false, narrowed := true }
def ArchetypePossibleUptoSaid : Prop := archetypePossibleUptoRow.holds Try.pinned (OpenSpec.upto archetypePossibleSpec)

/-- 'apographlaw39.ArchetypeCertain', WHERE WHAT IT READS IS OF BULK AT MOST 1048576: true; the input reads as it did. -/
def archetypeCertainUptoRow : OpenClaim := { program := "ytmclgfipdgmomaa", sum := "5ee327347ed3d02ecfaaa82f41f67d3c28a4b51ac440110486499f3c9eae3d65", func := "apograph/apographlaw39.ArchetypeCertain", spec := "archetypeCertain", inPlace := ["internal/bytealg.IndexByteString"], unfollowed := true, recurses := true, apart := false, narrowed := true }
def ArchetypeCertainUptoSaid : Prop := archetypeCertainUptoRow.holds Try.pinned (OpenSpec.upto archetypeCertainSpec)

/-- 'apographlaw39.ArchetypeUndecided', WHERE WHAT IT READS IS OF BULK AT MOST 1048576: true; the input reads as it did. -/
def archetypeUndecidedUptoRow : OpenClaim := { program := "ytmclgfipdgmomaa", sum := "5ee327347ed3d02ecfaaa82f41f67d3c28a4b51ac440110486499f3c9eae3d65", func := "apograph/apographlaw39.ArchetypeUndecided", spec := "archetypeUndecided", inPlace := ["internal/bytealg.IndexByteString"], unfollowed := true, recurses := true, apart := false, narrowed := true }
def ArchetypeUndecidedUptoSaid : Prop := archetypeUndecidedUptoRow.holds Try.pinned (OpenSpec.upto archetypeUndecidedSpec)

end Rows
end Go.Proofs.Ytmclgfipdgmomaa
