/-
  DERIVED. GIVEN WITH THE SEED: THE CARDS: each row of YtbooccpfdekaiaaDoorRows.lean that lists a variable, with what it lists TIED to the program's text (the seventh form; the later family's looks); each row that meets fmt, with fmt's text TOLD by the authors' own Lean function (tested against real Go, not proved from fmt's source: count such statements apart). THE CARD IS WHAT COUNTS. Prove the row's statement (the work); the ties are given (YtbooccpfdekaiaaDoorTie.lean); close each card by the builder's one call (the guide's Derived/Test/ToyasCard.lean, 'card_holds'). Laid BY PROGRAM, IN A SANDBOX (cutbox-door.mjs). By AI agents, Wed Nov 11 2026. No macro, syntax, notation, axiom, sorry.
-/
import Derived.Test.YtbooccpfdekaiaaDoorRows
import GoSem.ClaimSeven
namespace Go.Proofs.YtbooccpfdekaiaaDoor
namespace Rows

/-- THE TIED CARD OF 'apographlaw07.GlobShared'. -/
def globSharedCard : Claim7 := { stood := { row := globSharedRow, standIns := [], harness := (true, "508c12b53ee35afefc2792bc850ebce5f12c3de4d814f86515f67d92f1130207"), looks := false }, kinds := [], alts := [], laidByText := true, laidKinds := [.data, .pinned], laidTests := true, laidLooks := .later }
def GlobSharedCardSaid : Prop := Claim7.holds Tryd.pinned (.plain (OpenSpec.ofChange globSharedSpec)) globSharedCard

/-- THE SECOND FORM's CARD OF 'apographlaw07.GlobShared'. -/
def globSharedUptoCard : Claim7 := { stood := { row := globSharedUptoRow, standIns := [], harness := (true, "508c12b53ee35afefc2792bc850ebce5f12c3de4d814f86515f67d92f1130207"), looks := false }, kinds := [], alts := [], laidByText := true, laidKinds := [.data, .pinned], laidTests := true, laidLooks := .later }
def GlobSharedUptoCardSaid : Prop := Claim7.holds Tryd.pinned (.plain (OpenSpec.upto globSharedSpec)) globSharedUptoCard
end Rows
end Go.Proofs.YtbooccpfdekaiaaDoor
