/-
  DERIVED. GIVEN WITH THE SEED: THE CARDS: each row of YtpknpbeiifjmgaaDoorRows.lean that lists a variable, with what it lists TIED to the program's text (the seventh form; the later family's looks); each row that meets fmt, with fmt's text TOLD by the authors' own Lean function (tested against real Go, not proved from fmt's source: count such statements apart). THE CARD IS WHAT COUNTS. Prove the row's statement (the work); the ties are given (YtpknpbeiifjmgaaDoorTie.lean); close each card by the builder's one call (the guide's Derived/Test/ToyasCard.lean, 'card_holds'). Laid BY PROGRAM, IN A SANDBOX (cutbox-door.mjs). By AI agents, Wed Nov 11 2026. No macro, syntax, notation, axiom, sorry.
-/
import Derived.Test.YtpknpbeiifjmgaaDoorRows
import GoSem.ClaimSeven
namespace Go.Proofs.YtpknpbeiifjmgaaDoor
namespace Rows

/-- THE TIED CARD OF 'apographtop.TopSaturated'. -/
def topSaturatedCard : Claim7 := { stood := { row := topSaturatedRow, standIns := [], harness := (true, "cf810789caec14a9ab71b1a646dc1bf17c9a9b50778da7f8b3f3efc340038b6f"), looks := false }, kinds := [], alts := [], laidByText := true, laidKinds := [.data, .data, .data], laidTests := true, laidLooks := .later }
def TopSaturatedCardSaid : Prop := Claim7.holds Tryd.pinned (.plain (OpenSpec.ofChange topSaturatedSpec)) topSaturatedCard

/-- THE SECOND FORM's CARD OF 'apographtop.TopSaturated'. -/
def topSaturatedUptoCard : Claim7 := { stood := { row := topSaturatedUptoRow, standIns := [], harness := (true, "cf810789caec14a9ab71b1a646dc1bf17c9a9b50778da7f8b3f3efc340038b6f"), looks := false }, kinds := [], alts := [], laidByText := true, laidKinds := [.data, .data, .data], laidTests := true, laidLooks := .later }
def TopSaturatedUptoCardSaid : Prop := Claim7.holds Tryd.pinned (.plain (OpenSpec.upto topSaturatedSpec)) topSaturatedUptoCard
end Rows
end Go.Proofs.YtpknpbeiifjmgaaDoor
