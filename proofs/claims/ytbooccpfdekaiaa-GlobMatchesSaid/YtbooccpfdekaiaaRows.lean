/-
  No cell of these rows narrows 'for every input' (looked for: loops, veiled, ifaces, maps, wideKeys, modest, calm, conditions, laid).
  DERIVED. THE GIVEN ROWS OF THIS SEAT. 8 by the template 'for every input the law returns true; each argument reads behind the call as it read before'; 0 by the template 'total and deterministic' (their statements: YtbooccpfdekaiaaTotals.lean).
  GIVEN WITH THE SEED: the statements are not yours to turn. If you find one false, say at which input.
  Laid BY PROGRAM, IN A SANDBOX (cutbox-rows.mjs): the forced cells as the released guide's own fill.sh prints them over the translation 35b0c3d38455ff25… (all of the seat's roots in one cut). By AI agents, Wed Nov 11 2026. No macro, syntax, notation, axiom, sorry.
-/
import Derived.Test.YtbooccpfdekaiaaChecked
import GoSem.Claim
import GoSem.ClaimJoined
import GoSem.ClaimMapViews
import Derived.JoinedTies
import Derived.KernelRfl
namespace Go.Proofs.Ytbooccpfdekaiaa
/- THE CELL 'sum', in the pinned program and in every row, IS THE sha256 OF THE DUMP (.gsa) THAT YtbooccpfdekaiaaProg.lean LOADS. Nothing in Lean hashes anything: it is a label: what it is worth is what the hold of that sum in a sandbox is worth. -/
noncomputable def Try.pinned : Pinned := { name := "ytbooccpfdekaiaa", sum := "35b0c3d38455ff257a96cfdf16cc0bcd2a477c596599116ad220f114191cfcdf", checked := Try.checked }
namespace Rows
def none {H : Type} : Left H := { results := [], args := [] }

/-- 'apographlaw07.GlobParts': WHATEVER THE INPUT: true; the input reads as it did. -/
def globPartsSpec : ChangeSpec := { name := "globParts", fn := fun _ => fun
  | [d1, d2, d3] => { results := [.lit (.bool true)], args := [d1, d2, d3] }
  | _ => none }
def globPartsRow : OpenClaim := { program := "ytbooccpfdekaiaa", sum := "35b0c3d38455ff257a96cfdf16cc0bcd2a477c596599116ad220f114191cfcdf", func := "apograph/apographlaw07.GlobParts", spec := "globParts", inPlace := ["internal/bytealg.IndexByteString", "internal/bytealg.IndexString"], named := ["internal/bytealg.MaxLen"], plainKeys := false, apart := false }
def GlobPartsSaid : Prop := globPartsRow.holds Try.pinned (OpenSpec.ofChange globPartsSpec)

/-- ITS FALSE NEIGHBOUR: 'it returns false'. Refute it at one input. -/
def globPartsWrong : ChangeSpec := { name := "globParts", fn := fun _ => fun
  | [d1, d2, d3] => { results := [.lit (.bool false)], args := [d1, d2, d3] }
  | _ => none }
def GlobPartsWrongFalsely : Prop := globPartsRow.holds Try.pinned (OpenSpec.ofChange globPartsWrong)

/-- 'apographlaw07.GlobBounds': WHATEVER THE INPUT: true; the input reads as it did. -/
def globBoundsSpec : ChangeSpec := { name := "globBounds", fn := fun _ => fun
  | [d1, d2] => { results := [.lit (.bool true)], args := [d1, d2] }
  | _ => none }
def globBoundsRow : OpenClaim := { program := "ytbooccpfdekaiaa", sum := "35b0c3d38455ff257a96cfdf16cc0bcd2a477c596599116ad220f114191cfcdf", func := "apograph/apographlaw07.GlobBounds", spec := "globBounds", inPlace := ["internal/bytealg.IndexByteString", "internal/bytealg.IndexString"], named := ["internal/bytealg.MaxLen"], plainKeys := false, apart := false }
def GlobBoundsSaid : Prop := globBoundsRow.holds Try.pinned (OpenSpec.ofChange globBoundsSpec)

/-- ITS FALSE NEIGHBOUR: 'it returns false'. Refute it at one input. -/
def globBoundsWrong : ChangeSpec := { name := "globBounds", fn := fun _ => fun
  | [d1, d2] => { results := [.lit (.bool false)], args := [d1, d2] }
  | _ => none }
def GlobBoundsWrongFalsely : Prop := globBoundsRow.holds Try.pinned (OpenSpec.ofChange globBoundsWrong)

/-- 'apographlaw07.GlobStars': WHATEVER THE INPUT: true; the input reads as it did. -/
def globStarsSpec : ChangeSpec := { name := "globStars", fn := fun _ => fun
  | [d1, d2, d3] => { results := [.lit (.bool true)], args := [d1, d2, d3] }
  | _ => none }
def globStarsRow : OpenClaim := { program := "ytbooccpfdekaiaa", sum := "35b0c3d38455ff257a96cfdf16cc0bcd2a477c596599116ad220f114191cfcdf", func := "apograph/apographlaw07.GlobStars", spec := "globStars", inPlace := ["internal/bytealg.IndexByteString", "internal/bytealg.IndexString"], named := ["internal/bytealg.MaxLen"], plainKeys := false, apart := false }
def GlobStarsSaid : Prop := globStarsRow.holds Try.pinned (OpenSpec.ofChange globStarsSpec)

/-- ITS FALSE NEIGHBOUR: 'it returns false'. Refute it at one input. -/
def globStarsWrong : ChangeSpec := { name := "globStars", fn := fun _ => fun
  | [d1, d2, d3] => { results := [.lit (.bool false)], args := [d1, d2, d3] }
  | _ => none }
def GlobStarsWrongFalsely : Prop := globStarsRow.holds Try.pinned (OpenSpec.ofChange globStarsWrong)

/-- 'apographlaw07.GlobLiterals': WHATEVER THE INPUT: true; the input reads as it did. -/
def globLiteralsSpec : ChangeSpec := { name := "globLiterals", fn := fun _ => fun
  | [d1, d2] => { results := [.lit (.bool true)], args := [d1, d2] }
  | _ => none }
def globLiteralsRow : OpenClaim := { program := "ytbooccpfdekaiaa", sum := "35b0c3d38455ff257a96cfdf16cc0bcd2a477c596599116ad220f114191cfcdf", func := "apograph/apographlaw07.GlobLiterals", spec := "globLiterals", inPlace := ["internal/bytealg.IndexByteString", "internal/bytealg.IndexString"], unfollowed := true, recurses := true, named := ["internal/bytealg.MaxLen"], plainKeys := false, apart := false }
def GlobLiteralsSaid : Prop := globLiteralsRow.holds Try.pinned (OpenSpec.ofChange globLiteralsSpec)

/-- ITS FALSE NEIGHBOUR: 'it returns false'. Refute it at one input. -/
def globLiteralsWrong : ChangeSpec := { name := "globLiterals", fn := fun _ => fun
  | [d1, d2] => { results := [.lit (.bool false)], args := [d1, d2] }
  | _ => none }
def GlobLiteralsWrongFalsely : Prop := globLiteralsRow.holds Try.pinned (OpenSpec.ofChange globLiteralsWrong)

/-- 'apographlaw07.GlobChecks': WHATEVER THE INPUT: true; the input reads as it did. -/
def globChecksSpec : ChangeSpec := { name := "globChecks", fn := fun _ => fun
  | [d] => { results := [.lit (.bool true)], args := [d] }
  | _ => none }
def globChecksRow : OpenClaim := { program := "ytbooccpfdekaiaa", sum := "35b0c3d38455ff257a96cfdf16cc0bcd2a477c596599116ad220f114191cfcdf", func := "apograph/apographlaw07.GlobChecks", spec := "globChecks", inPlace := ["internal/bytealg.IndexByteString", "internal/bytealg.IndexString", "internal/abi.NoEscape"], named := ["internal/bytealg.MaxLen"], plainKeys := false, apart := false }
def GlobChecksSaid : Prop := globChecksRow.holds Try.pinned (OpenSpec.ofChange globChecksSpec)

/-- ITS FALSE NEIGHBOUR: 'it returns false'. Refute it at one input. -/
def globChecksWrong : ChangeSpec := { name := "globChecks", fn := fun _ => fun
  | [d] => { results := [.lit (.bool false)], args := [d] }
  | _ => none }
def GlobChecksWrongFalsely : Prop := globChecksRow.holds Try.pinned (OpenSpec.ofChange globChecksWrong)

/-- 'apographlaw07.GlobReversed': WHATEVER THE INPUT: true; the input reads as it did. -/
def globReversedSpec : ChangeSpec := { name := "globReversed", fn := fun _ => fun
  | [d1, d2] => { results := [.lit (.bool true)], args := [d1, d2] }
  | _ => none }
def globReversedRow : OpenClaim := { program := "ytbooccpfdekaiaa", sum := "35b0c3d38455ff257a96cfdf16cc0bcd2a477c596599116ad220f114191cfcdf", func := "apograph/apographlaw07.GlobReversed", spec := "globReversed", inPlace := ["internal/bytealg.IndexByteString", "internal/bytealg.IndexString", "internal/abi.NoEscape"], named := ["internal/bytealg.MaxLen"], plainKeys := false, apart := false }
def GlobReversedSaid : Prop := globReversedRow.holds Try.pinned (OpenSpec.ofChange globReversedSpec)

/-- ITS FALSE NEIGHBOUR: 'it returns false'. Refute it at one input. -/
def globReversedWrong : ChangeSpec := { name := "globReversed", fn := fun _ => fun
  | [d1, d2] => { results := [.lit (.bool false)], args := [d1, d2] }
  | _ => none }
def GlobReversedWrongFalsely : Prop := globReversedRow.holds Try.pinned (OpenSpec.ofChange globReversedWrong)

/-- 'apographlaw07.GlobMatches': WHATEVER THE INPUT: true; the input reads as it did. -/
def globMatchesSpec : ChangeSpec := { name := "globMatches", fn := fun _ => fun
  | [d1, d2, d3] => { results := [.lit (.bool true)], args := [d1, d2, d3] }
  | _ => none }
def globMatchesRow : OpenClaim := { program := "ytbooccpfdekaiaa", sum := "35b0c3d38455ff257a96cfdf16cc0bcd2a477c596599116ad220f114191cfcdf", func := "apograph/apographlaw07.GlobMatches", spec := "globMatches", inPlace := ["internal/bytealg.IndexByteString", "internal/bytealg.IndexString"], unfollowed := true, recurses := true, named := ["internal/bytealg.MaxLen"], plainKeys := false, apart := false }
def GlobMatchesSaid : Prop := globMatchesRow.holds Try.pinned (OpenSpec.ofChange globMatchesSpec)

/-- ITS FALSE NEIGHBOUR: 'it returns false'. Refute it at one input. -/
def globMatchesWrong : ChangeSpec := { name := "globMatches", fn := fun _ => fun
  | [d1, d2, d3] => { results := [.lit (.bool false)], args := [d1, d2, d3] }
  | _ => none }
def GlobMatchesWrongFalsely : Prop := globMatchesRow.holds Try.pinned (OpenSpec.ofChange globMatchesWrong)

/-- 'apographlaw07.GlobFilters': WHATEVER THE INPUT: true; the input reads as it did. -/
def globFiltersSpec : ChangeSpec := { name := "globFilters", fn := fun _ => fun
  | [d1, d2] => { results := [.lit (.bool true)], args := [d1, d2] }
  | _ => none }
def globFiltersRow : OpenClaim := { program := "ytbooccpfdekaiaa", sum := "35b0c3d38455ff257a96cfdf16cc0bcd2a477c596599116ad220f114191cfcdf", func := "apograph/apographlaw07.GlobFilters", spec := "globFilters", inPlace := ["internal/bytealg.IndexByteString", "internal/bytealg.IndexString"], unfollowed := true, recurses := true, named := ["internal/bytealg.MaxLen"], plainKeys := false, apart := false }
def GlobFiltersSaid : Prop := globFiltersRow.holds Try.pinned (OpenSpec.ofChange globFiltersSpec)

/-- ITS FALSE NEIGHBOUR: 'it returns false'. Refute it at one input. -/
def globFiltersWrong : ChangeSpec := { name := "globFilters", fn := fun _ => fun
  | [d1, d2] => { results := [.lit (.bool false)], args := [d1, d2] }
  | _ => none }
def GlobFiltersWrongFalsely : Prop := globFiltersRow.holds Try.pinned (OpenSpec.ofChange globFiltersWrong)

/- THE SECOND FORM. 'bulk': how many values and letters a reading holds, each counted each time it is reached (what is shared counts as often as it is met; a slice's spare places count too). A statement '..UptoSaid' is the law's where the arguments, and the package variables that the reading takes, are together of bulk at most 1048576: NARROWER than '..Said'. Prove '..Said' where nothing that the law and all that it calls make is longer than what came in: it says more and counts as full. Else prove '..UptoSaid'. A law counts once. -/
mutual
def uptoBulk {H : Type} : DataW H → Nat
  | .lit (.string bytes) => bytes.length + 1
  | .lit _ => 1
  | .nil => 1
  | .ptr d => uptoBulk d + 1
  | .slice elems spare => uptoBulkAll elems + uptoBulkAll spare + 1
  | .agg parts => uptoBulkAll parts + 1
  | .iface _ d => uptoBulk d + 1
  | .map entries => uptoBulkEntries entries + 1
  | .held _ => 1
def uptoBulkAll {H : Type} : List (DataW H) → Nat
  | [] => 0
  | d :: r => uptoBulk d + uptoBulkAll r
def uptoBulkEntries {H : Type} : List (Lit × DataW H) → Nat
  | [] => 0
  | x :: r => uptoBulkEntry x + uptoBulkEntries r
def uptoBulkEntry {H : Type} : Lit × DataW H → Nat
  | (.string bytes, d) => bytes.length + uptoBulk d + 1
  | (_, d) => uptoBulk d + 1
 end
def uptoSmall : (H : Type) → List (DataW H) → Bool := fun _ ds => decide (uptoBulkAll ds ≤ 1048576)
def OpenSpec.upto (s : _root_.Go.ChangeSpec) : _root_.Go.OpenSpec := { _root_.Go.OpenSpec.ofChange s with cond := some uptoSmall }

/-- 'apographlaw07.GlobParts', WHERE WHAT IT READS IS OF BULK AT MOST 1048576: true; the input reads as it did. -/
def globPartsUptoRow : OpenClaim := { program := "ytbooccpfdekaiaa", sum := "35b0c3d38455ff257a96cfdf16cc0bcd2a477c596599116ad220f114191cfcdf", func := "apograph/apographlaw07.GlobParts", spec := "globParts", inPlace := ["internal/bytealg.IndexByteString", "internal/bytealg.IndexString"], named := ["internal/bytealg.MaxLen"], plainKeys := false, apart := false, narrowed := true }
def GlobPartsUptoSaid : Prop := globPartsUptoRow.holds Try.pinned (OpenSpec.upto globPartsSpec)

/-- 'apographlaw07.GlobBounds', WHERE WHAT IT READS IS OF BULK AT MOST 1048576: true; the input reads as it did. -/
def globBoundsUptoRow : OpenClaim := { program := "ytbooccpfdekaiaa", sum := "35b0c3d38455ff257a96cfdf16cc0bcd2a477c596599116ad220f114191cfcdf", func := "apograph/apographlaw07.GlobBounds", spec := "globBounds", inPlace := ["internal/bytealg.IndexByteString", "internal/bytealg.IndexString"], named := ["internal/bytealg.MaxLen"], plainKeys := false, apart := false, narrowed := true }
def GlobBoundsUptoSaid : Prop := globBoundsUptoRow.holds Try.pinned (OpenSpec.upto globBoundsSpec)

/-- 'apographlaw07.GlobStars', WHERE WHAT IT READS IS OF BULK AT MOST 1048576: true; the input reads as it did. -/
def globStarsUptoRow : OpenClaim := { program := "ytbooccpfdekaiaa", sum := "35b0c3d38455ff257a96cfdf16cc0bcd2a477c596599116ad220f114191cfcdf", func := "apograph/apographlaw07.GlobStars", spec := "globStars", inPlace := ["internal/bytealg.IndexByteString", "internal/bytealg.IndexString"], named := ["internal/bytealg.MaxLen"], plainKeys := false, apart := false, narrowed := true }
def GlobStarsUptoSaid : Prop := globStarsUptoRow.holds Try.pinned (OpenSpec.upto globStarsSpec)

/-- 'apographlaw07.GlobLiterals', WHERE WHAT IT READS IS OF BULK AT MOST 1048576: true; the input reads as it did. -/
def globLiteralsUptoRow : OpenClaim := { program := "ytbooccpfdekaiaa", sum := "35b0c3d38455ff257a96cfdf16cc0bcd2a477c596599116ad220f114191cfcdf", func := "apograph/apographlaw07.GlobLiterals", spec := "globLiterals", inPlace := ["internal/bytealg.IndexByteString", "internal/bytealg.IndexString"], unfollowed := true, recurses := true, named := ["internal/bytealg.MaxLen"], plainKeys := false, apart := false, narrowed := true }
def GlobLiteralsUptoSaid : Prop := globLiteralsUptoRow.holds Try.pinned (OpenSpec.upto globLiteralsSpec)

/-- 'apographlaw07.GlobChecks', WHERE WHAT IT READS IS OF BULK AT MOST 1048576: true; the input reads as it did. -/
def globChecksUptoRow : OpenClaim := { program := "ytbooccpfdekaiaa", sum := "35b0c3d38455ff257a96cfdf16cc0bcd2a477c596599116ad220f114191cfcdf", func := "apograph/apographlaw07.GlobChecks", spec := "globChecks", inPlace := ["internal/bytealg.IndexByteString", "internal/bytealg.IndexString", "internal/abi.NoEscape"], named := ["internal/bytealg.MaxLen"], plainKeys := false, apart := false, narrowed := true }
def GlobChecksUptoSaid : Prop := globChecksUptoRow.holds Try.pinned (OpenSpec.upto globChecksSpec)

/-- 'apographlaw07.GlobReversed', WHERE WHAT IT READS IS OF BULK AT MOST 1048576: true; the input reads as it did. -/
def globReversedUptoRow : OpenClaim := { program := "ytbooccpfdekaiaa", sum := "35b0c3d38455ff257a96cfdf16cc0bcd2a477c596599116ad220f114191cfcdf", func := "apograph/apographlaw07.GlobReversed", spec := "globReversed", inPlace := ["internal/bytealg.IndexByteString", "internal/bytealg.IndexString", "internal/abi.NoEscape"], named := ["internal/bytealg.MaxLen"], plainKeys := false, apart := false, narrowed := true }
def GlobReversedUptoSaid : Prop := globReversedUptoRow.holds Try.pinned (OpenSpec.upto globReversedSpec)

/-- 'apographlaw07.GlobMatches', WHERE WHAT IT READS IS OF BULK AT MOST 1048576: true; the input reads as it did. -/
def globMatchesUptoRow : OpenClaim := { program := "ytbooccpfdekaiaa", sum := "35b0c3d38455ff257a96cfdf16cc0bcd2a477c596599116ad220f114191cfcdf", func := "apograph/apographlaw07.GlobMatches", spec := "globMatches", inPlace := ["internal/bytealg.IndexByteString", "internal/bytealg.IndexString"], unfollowed := true, recurses := true, named := ["internal/bytealg.MaxLen"], plainKeys := false, apart := false, narrowed := true }
def GlobMatchesUptoSaid : Prop := globMatchesUptoRow.holds Try.pinned (OpenSpec.upto globMatchesSpec)

/-- 'apographlaw07.GlobFilters', WHERE WHAT IT READS IS OF BULK AT MOST 1048576: true; the input reads as it did. -/
def globFiltersUptoRow : OpenClaim := { program := "ytbooccpfdekaiaa", sum := "35b0c3d38455ff257a96cfdf16cc0bcd2a477c596599116ad220f114191cfcdf", func := "apograph/apographlaw07.GlobFilters", spec := "globFilters", inPlace := ["internal/bytealg.IndexByteString", "internal/bytealg.IndexString"], unfollowed := true, recurses := true, named := ["internal/bytealg.MaxLen"], plainKeys := false, apart := false, narrowed := true }
def GlobFiltersUptoSaid : Prop := globFiltersUptoRow.holds Try.pinned (OpenSpec.upto globFiltersSpec)

end Rows
end Go.Proofs.Ytbooccpfdekaiaa
