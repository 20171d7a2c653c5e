/-
  No cell of these rows narrows 'for every input' (looked for: loops, veiled, ifaces, maps, wideKeys, modest, calm, conditions, laid).
  DERIVED. THE GIVEN ROWS OF THIS SEAT. 8 by the template 'for every input the law returns true; each argument reads behind the call as it read before'; 0 by the template 'total and deterministic' (their statements: YtpbohmddbfaiiaaTotals.lean).
  GIVEN WITH THE SEED: the statements are not yours to turn. If you find one false, say at which input.
  Laid BY PROGRAM, IN A SANDBOX (cutbox-rows.mjs): the forced cells as the released guide's own fill.sh prints them over the translation e65483e3f780e02d… (all of the seat's roots in one cut). By AI agents, Wed Nov 11 2026. No macro, syntax, notation, axiom, sorry.
-/
import Derived.Test.YtpbohmddbfaiiaaChecked
import GoSem.Claim
import GoSem.ClaimJoined
import GoSem.ClaimMapViews
import Derived.JoinedTies
import Derived.KernelRfl
namespace Go.Proofs.Ytpbohmddbfaiiaa
/- THE CELL 'sum', in the pinned program and in every row, IS THE sha256 OF THE DUMP (.gsa) THAT YtpbohmddbfaiiaaProg.lean LOADS. Nothing in Lean hashes anything: it is a label: what it is worth is what the hold of that sum in a sandbox is worth. -/
noncomputable def Try.pinned : Pinned := { name := "ytpbohmddbfaiiaa", sum := "e65483e3f780e02d1224341826a69ab244c498b19c504423d7cbbb347be06463", checked := Try.checked }
namespace Rows
def none {H : Type} : Left H := { results := [], args := [] }

/-- 'apographlaw37.DatingFits': WHATEVER THE INPUT: true; the input reads as it did. -/
def datingFitsSpec : ChangeSpec := { name := "datingFits", fn := fun _ => fun
  | [d1, d2, d3] => { results := [.lit (.bool true)], args := [d1, d2, d3] }
  | _ => none }
def datingFitsRow : OpenClaim := { program := "ytpbohmddbfaiiaa", sum := "e65483e3f780e02d1224341826a69ab244c498b19c504423d7cbbb347be06463", func := "apograph/apographlaw37.DatingFits", spec := "datingFits", inPlace := ["internal/bytealg.IndexByteString"], unfollowed := true, recurses := true, apart := false }
def DatingFitsSaid : Prop := datingFitsRow.holds Try.pinned (OpenSpec.ofChange datingFitsSpec)

/-- ITS FALSE NEIGHBOUR: 'it returns false'. Refute it at one input. -/
def datingFitsWrong : ChangeSpec := { name := "datingFits", fn := fun _ => fun
  | [d1, d2, d3] => { results := [.lit (.bool false)], args := [d1, d2, d3] }
  | _ => none }
def DatingFitsWrongFalsely : Prop := datingFitsRow.holds Try.pinned (OpenSpec.ofChange datingFitsWrong)

/-- 'apographlaw37.DatingCopies': WHATEVER THE INPUT: true; the input reads as it did. -/
def datingCopiesSpec : ChangeSpec := { name := "datingCopies", fn := fun _ => fun
  | [d1, d2] => { results := [.lit (.bool true)], args := [d1, d2] }
  | _ => none }
def datingCopiesRow : OpenClaim := { program := "ytpbohmddbfaiiaa", sum := "e65483e3f780e02d1224341826a69ab244c498b19c504423d7cbbb347be06463", func := "apograph/apographlaw37.DatingCopies", spec := "datingCopies", inPlace := ["internal/bytealg.IndexByteString"], unfollowed := true, recurses := true, apart := false }
def DatingCopiesSaid : Prop := datingCopiesRow.holds Try.pinned (OpenSpec.ofChange datingCopiesSpec)

/-- ITS FALSE NEIGHBOUR: 'it returns false'. Refute it at one input. -/
def datingCopiesWrong : ChangeSpec := { name := "datingCopies", fn := fun _ => fun
  | [d1, d2] => { results := [.lit (.bool false)], args := [d1, d2] }
  | _ => none }
def DatingCopiesWrongFalsely : Prop := datingCopiesRow.holds Try.pinned (OpenSpec.ofChange datingCopiesWrong)

/-- 'apographlaw37.DatingYears': WHATEVER THE INPUT: true; the input reads as it did. -/
def datingYearsSpec : ChangeSpec := { name := "datingYears", fn := fun _ => fun
  | [d1, d2] => { results := [.lit (.bool true)], args := [d1, d2] }
  | _ => none }
def datingYearsRow : OpenClaim := { program := "ytpbohmddbfaiiaa", sum := "e65483e3f780e02d1224341826a69ab244c498b19c504423d7cbbb347be06463", func := "apograph/apographlaw37.DatingYears", spec := "datingYears", inPlace := ["internal/bytealg.IndexByteString"], unfollowed := true, recurses := true, apart := false }
def DatingYearsSaid : Prop := datingYearsRow.holds Try.pinned (OpenSpec.ofChange datingYearsSpec)

/-- ITS FALSE NEIGHBOUR: 'it returns false'. Refute it at one input. -/
def datingYearsWrong : ChangeSpec := { name := "datingYears", fn := fun _ => fun
  | [d1, d2] => { results := [.lit (.bool false)], args := [d1, d2] }
  | _ => none }
def DatingYearsWrongFalsely : Prop := datingYearsRow.holds Try.pinned (OpenSpec.ofChange datingYearsWrong)

/-- 'apographlaw37.DatingSlack': WHATEVER THE INPUT: true; the input reads as it did. -/
def datingSlackSpec : ChangeSpec := { name := "datingSlack", fn := fun _ => fun
  | [d1, d2] => { results := [.lit (.bool true)], args := [d1, d2] }
  | _ => none }
def datingSlackRow : OpenClaim := { program := "ytpbohmddbfaiiaa", sum := "e65483e3f780e02d1224341826a69ab244c498b19c504423d7cbbb347be06463", func := "apograph/apographlaw37.DatingSlack", spec := "datingSlack", inPlace := ["internal/bytealg.IndexByteString"], unfollowed := true, recurses := true, apart := false }
def DatingSlackSaid : Prop := datingSlackRow.holds Try.pinned (OpenSpec.ofChange datingSlackSpec)

/-- ITS FALSE NEIGHBOUR: 'it returns false'. Refute it at one input. -/
def datingSlackWrong : ChangeSpec := { name := "datingSlack", fn := fun _ => fun
  | [d1, d2] => { results := [.lit (.bool false)], args := [d1, d2] }
  | _ => none }
def DatingSlackWrongFalsely : Prop := datingSlackRow.holds Try.pinned (OpenSpec.ofChange datingSlackWrong)

/-- 'apographlaw37.DatingLess': WHATEVER THE INPUT: true; the input reads as it did. -/
def datingLessSpec : ChangeSpec := { name := "datingLess", fn := fun _ => fun
  | [d1, d2, d3] => { results := [.lit (.bool true)], args := [d1, d2, d3] }
  | _ => none }
def datingLessRow : OpenClaim := { program := "ytpbohmddbfaiiaa", sum := "e65483e3f780e02d1224341826a69ab244c498b19c504423d7cbbb347be06463", func := "apograph/apographlaw37.DatingLess", spec := "datingLess", inPlace := ["internal/bytealg.IndexByteString"], unfollowed := true, recurses := true, apart := false }
def DatingLessSaid : Prop := datingLessRow.holds Try.pinned (OpenSpec.ofChange datingLessSpec)

/-- ITS FALSE NEIGHBOUR: 'it returns false'. Refute it at one input. -/
def datingLessWrong : ChangeSpec := { name := "datingLess", fn := fun _ => fun
  | [d1, d2, d3] => { results := [.lit (.bool false)], args := [d1, d2, d3] }
  | _ => none }
def DatingLessWrongFalsely : Prop := datingLessRow.holds Try.pinned (OpenSpec.ofChange datingLessWrong)

/-- 'apographlaw37.DatingProofs': WHATEVER THE INPUT: true; the input reads as it did. -/
def datingProofsSpec : ChangeSpec := { name := "datingProofs", fn := fun _ => fun
  | [d1, d2, d3] => { results := [.lit (.bool true)], args := [d1, d2, d3] }
  | _ => none }
def datingProofsRow : OpenClaim := { program := "ytpbohmddbfaiiaa", sum := "e65483e3f780e02d1224341826a69ab244c498b19c504423d7cbbb347be06463", func := "apograph/apographlaw37.DatingProofs", spec := "datingProofs", inPlace := ["internal/bytealg.IndexByteString"], unfollowed := true, recurses := true, apart := false }
def DatingProofsSaid : Prop := datingProofsRow.holds Try.pinned (OpenSpec.ofChange datingProofsSpec)

/-- ITS FALSE NEIGHBOUR: 'it returns false'. Refute it at one input. -/
def datingProofsWrong : ChangeSpec := { name := "datingProofs", fn := fun _ => fun
  | [d1, d2, d3] => { results := [.lit (.bool false)], args := [d1, d2, d3] }
  | _ => none }
def DatingProofsWrongFalsely : Prop := datingProofsRow.holds Try.pinned (OpenSpec.ofChange datingProofsWrong)

/-- 'apographlaw37.DatingExemplars': WHATEVER THE INPUT: true; the input reads as it did. -/
def datingExemplarsSpec : ChangeSpec := { name := "datingExemplars", fn := fun _ => fun
  | [d1, d2, d3, d4] => { results := [.lit (.bool true)], args := [d1, d2, d3, d4] }
  | _ => none }
def datingExemplarsRow : OpenClaim := { program := "ytpbohmddbfaiiaa", sum := "e65483e3f780e02d1224341826a69ab244c498b19c504423d7cbbb347be06463", func := "apograph/apographlaw37.DatingExemplars", spec := "datingExemplars", inPlace := ["internal/bytealg.IndexByteString"], unfollowed := true, recurses := true, apart := false }
def DatingExemplarsSaid : Prop := datingExemplarsRow.holds Try.pinned (OpenSpec.ofChange datingExemplarsSpec)

/-- ITS FALSE NEIGHBOUR: 'it returns false'. Refute it at one input. -/
def datingExemplarsWrong : ChangeSpec := { name := "datingExemplars", fn := fun _ => fun
  | [d1, d2, d3, d4] => { results := [.lit (.bool false)], args := [d1, d2, d3, d4] }
  | _ => none }
def DatingExemplarsWrongFalsely : Prop := datingExemplarsRow.holds Try.pinned (OpenSpec.ofChange datingExemplarsWrong)

/-- 'apographlaw37.DatingPaths': WHATEVER THE INPUT: true; the input reads as it did. -/
def datingPathsSpec : ChangeSpec := { name := "datingPaths", fn := fun _ => fun
  | [d1, d2, d3, d4, d5] => { results := [.lit (.bool true)], args := [d1, d2, d3, d4, d5] }
  | _ => none }
def datingPathsRow : OpenClaim := { program := "ytpbohmddbfaiiaa", sum := "e65483e3f780e02d1224341826a69ab244c498b19c504423d7cbbb347be06463", func := "apograph/apographlaw37.DatingPaths", spec := "datingPaths", inPlace := ["internal/bytealg.IndexByteString"], unfollowed := true, recurses := true, apart := false }
def DatingPathsSaid : Prop := datingPathsRow.holds Try.pinned (OpenSpec.ofChange datingPathsSpec)

/-- ITS FALSE NEIGHBOUR: 'it returns false'. Refute it at one input. -/
def datingPathsWrong : ChangeSpec := { name := "datingPaths", fn := fun _ => fun
  | [d1, d2, d3, d4, d5] => { results := [.lit (.bool false)], args := [d1, d2, d3, d4, d5] }
  | _ => none }
def DatingPathsWrongFalsely : Prop := datingPathsRow.holds Try.pinned (OpenSpec.ofChange datingPathsWrong)

/- THE SECOND FORM. 'bulk': how many values and letters a reading holds, each counted each time it is reached (what is shared counts as often as it is met; a slice's spare places count too). A statement '..UptoSaid' is the law's where the arguments, and the package variables that the reading takes, are together of bulk at most 1048576: NARROWER than '..Said'. Prove '..Said' where nothing that the law and all that it calls make is longer than what came in: it says more and counts as full. Else prove '..UptoSaid'. A law counts once. -/
mutual
def uptoBulk {H : Type} : DataW H → Nat
  | .lit (.string bytes) => bytes.length + 1
  | .lit _ => 1
  | .nil => 1
  | .ptr d => uptoBulk d + 1
  | .slice elems spare => uptoBulkAll elems + uptoBulkAll spare + 1
  | .agg parts => uptoBulkAll parts + 1
  | .iface _ d => uptoBulk d + 1
  | .map entries => uptoBulkEntries entries + 1
  | .held _ => 1
def uptoBulkAll {H : Type} : List (DataW H) → Nat
  | [] => 0
  | d :: r => uptoBulk d + uptoBulkAll r
def uptoBulkEntries {H : Type} : List (Lit × DataW H) → Nat
  | [] => 0
  | x :: r => uptoBulkEntry x + uptoBulkEntries r
def uptoBulkEntry {H : Type} : Lit × DataW H → Nat
  | (.string bytes, d) => bytes.length + uptoBulk d + 1
  | (_, d) => uptoBulk d + 1
 end
def uptoSmall : (H : Type) → List (DataW H) → Bool := fun _ ds => decide (uptoBulkAll ds ≤ 1048576)
def OpenSpec.upto (s : _root_.Go.ChangeSpec) : _root_.Go.OpenSpec := { _root_.Go.OpenSpec.ofChange s with cond := some uptoSmall }

/-- 'apographlaw37.DatingFits', WHERE WHAT IT READS IS OF BULK AT MOST 1048576: true; the input reads as it did. -/
def datingFitsUptoRow : OpenClaim := { program := "ytpbohmddbfaiiaa", sum := "e65483e3f780e02d1224341826a69ab244c498b19c504423d7cbbb347be06463", func := "apograph/apographlaw37.DatingFits", spec := "datingFits", inPlace := ["internal/bytealg.IndexByteString"], unfollowed := true, recurses := true, apart := false, narrowed := true }
def DatingFitsUptoSaid : Prop := datingFitsUptoRow.holds Try.pinned (OpenSpec.upto datingFitsSpec)

/-- 'apographlaw37.DatingCopies', WHERE WHAT IT READS IS OF BULK AT MOST 1048576: true; the input reads as it did. -/
def datingCopiesUptoRow : OpenClaim := { program := "ytpbohmddbfaiiaa", sum := "e65483e3f780e02d1224341826a69ab244c498b19c504423d7cbbb347be06463", func := "apograph/apographlaw37.DatingCopies", spec := "datingCopies", inPlace := ["internal/bytealg.IndexByteString"], unfollowed := true, recurses := true, apart := false, narrowed := true }
def DatingCopiesUptoSaid : Prop := datingCopiesUptoRow.holds Try.pinned (OpenSpec.upto datingCopiesSpec)

/-- 'apographlaw37.DatingYears', WHERE WHAT IT READS IS OF BULK AT MOST 1048576: true; the input reads as it did. -/
def datingYearsUptoRow : OpenClaim := { program := "ytpbohmddbfaiiaa", sum := "e65483e3f780e02d1224341826a69ab244c498b19c504423d7cbbb347be06463", func := "apograph/apographlaw37.DatingYears", spec := "datingYears", inPlace := ["internal/bytealg.IndexByteString"], unfollowed := true, recurses := true, apart := false, narrowed := true }
def DatingYearsUptoSaid : Prop := datingYearsUptoRow.holds Try.pinned (OpenSpec.upto datingYearsSpec)

/-- 'apographlaw37.DatingSlack', WHERE WHAT IT READS IS OF BULK AT MOST 1048576: true; the input reads as it did. -/
def datingSlackUptoRow : OpenClaim := { program := "ytpbohmddbfaiiaa", sum := "e65483e3f780e02d1224341826a69ab244c498b19c504423d7cbbb347be06463", func := "apograph/apographlaw37.DatingSlack", spec := "datingSlack", inPlace := ["internal/bytealg.IndexByteString"], unfollowed := true, recurses := true, apart := false, narrowed := true }
def DatingSlackUptoSaid : Prop := datingSlackUptoRow.holds Try.pinned (OpenSpec.upto datingSlackSpec)

/-- 'apographlaw37.DatingLess', WHERE WHAT IT READS IS OF BULK AT MOST 1048576: true; the input reads as it did. -/
def datingLessUptoRow : OpenClaim := { program := "ytpbohmddbfaiiaa", sum := "e65483e3f780e02d1224341826a69ab244c498b19c504423d7cbbb347be06463", func := "apograph/apographlaw37.DatingLess", spec := "datingLess", inPlace := ["internal/bytealg.IndexByteString"], unfollowed := true, recurses := true, apart := false, narrowed := true }
def DatingLessUptoSaid : Prop := datingLessUptoRow.holds Try.pinned (OpenSpec.upto datingLessSpec)

/-- 'apographlaw37.DatingProofs', WHERE WHAT IT READS IS OF BULK AT MOST 1048576: true; the input reads as it did. -/
def datingProofsUptoRow : OpenClaim := { program := "ytpbohmddbfaiiaa", sum := "e65483e3f780e02d1224341826a69ab244c498b19c504423d7cbbb347be06463", func := "apograph/apographlaw37.DatingProofs", spec := "datingProofs", inPlace := ["internal/bytealg.IndexByteString"], unfollowed := true, recurses := true, apart := false, narrowed := true }
def DatingProofsUptoSaid : Prop := datingProofsUptoRow.holds Try.pinned (OpenSpec.upto datingProofsSpec)

/-- 'apographlaw37.DatingExemplars', WHERE WHAT IT READS IS OF BULK AT MOST 1048576: true; the input reads as it did. -/
def datingExemplarsUptoRow : OpenClaim := { program := "ytpbohmddbfaiiaa", sum := "e65483e3f780e02d1224341826a69ab244c498b19c504423d7cbbb347be06463", func := "apograph/apographlaw37.DatingExemplars", spec := "datingExemplars", inPlace := ["internal/bytealg.IndexByteString"], unfollowed := true, recurses := true, apart := false, narrowed := true }
def DatingExemplarsUptoSaid : Prop := datingExemplarsUptoRow.holds Try.pinned (OpenSpec.upto datingExemplarsSpec)

/-- 'apographlaw37.DatingPaths', WHERE WHAT IT READS IS OF BULK AT MOST 1048576: true; the input reads as it did. -/
def datingPathsUptoRow : OpenClaim := { program := "ytpbohmddbfaiiaa", sum := "e65483e3f780e02d1224341826a69ab244c498b19c504423d7cbbb347be06463", func := "apograph/apographlaw37.DatingPaths", spec := "datingPaths", inPlace := ["internal/bytealg.IndexByteString"], unfollowed := true, recurses := true, apart := false, narrowed := true }
def DatingPathsUptoSaid : Prop := datingPathsUptoRow.holds Try.pinned (OpenSpec.upto datingPathsSpec)

end Rows
end Go.Proofs.Ytpbohmddbfaiiaa
