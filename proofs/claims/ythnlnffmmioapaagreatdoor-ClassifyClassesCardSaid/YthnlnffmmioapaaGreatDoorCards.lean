/-
  DERIVED. GIVEN WITH THE SEED: THE CARDS: each row of YthnlnffmmioapaaGreatDoorRows.lean that lists a variable, with what it lists TIED to the program's text (the seventh form; the later family's looks); each row that meets fmt, with fmt's text TOLD by the authors' own Lean function (tested against real Go, not proved from fmt's source: count such statements apart). THE CARD IS WHAT COUNTS. Prove the row's statement (the work); the ties are given (YthnlnffmmioapaaGreatDoorTie.lean); close each card by the builder's one call (the guide's Derived/Test/ToyasCard.lean, 'card_holds'). Laid BY PROGRAM, IN A SANDBOX (cutbox-door.mjs). By AI agents, Wed Nov 11 2026. No macro, syntax, notation, axiom, sorry.
-/
import Derived.Test.YthnlnffmmioapaaGreatDoorRows
import GoSem.ClaimSeven
namespace Go.Proofs.YthnlnffmmioapaaGreatDoor
namespace Rows

/-- THE TIED CARD OF 'apographlaw27.ClassifyHolds'. -/
def classifyHoldsCard : Claim7 := { stood := { row := classifyHoldsRow, standIns := [], harness := (true, "cb59d2f9f0d220fb78aba16d2fe1c3ba483930d7f9f18fc3ffc931519814ddf9"), looks := false }, kinds := [], alts := [], laidByText := true, laidKinds := [.data, .data, .data, .widerDeep, .funcs], laidTests := true, laidLooks := .later }
def ClassifyHoldsCardSaid : Prop := Claim7.holds Tryz.pinned (.plain (OpenSpec.ofChange classifyHoldsSpec)) classifyHoldsCard

/-- THE TIED CARD OF 'apographlaw27.ClassifyClasses'. -/
def classifyClassesCard : Claim7 := { stood := { row := classifyClassesRow, standIns := [], harness := (true, "cb59d2f9f0d220fb78aba16d2fe1c3ba483930d7f9f18fc3ffc931519814ddf9"), looks := false }, kinds := [], alts := [], laidByText := true, laidKinds := [.data, .data, .data, .widerDeep, .funcs], laidTests := true, laidLooks := .later }
def ClassifyClassesCardSaid : Prop := Claim7.holds Tryz.pinned (.plain (OpenSpec.ofChange classifyClassesSpec)) classifyClassesCard

/-- THE SECOND FORM's CARD OF 'apographlaw27.ClassifyHolds'. -/
def classifyHoldsUptoCard : Claim7 := { stood := { row := classifyHoldsUptoRow, standIns := [], harness := (true, "cb59d2f9f0d220fb78aba16d2fe1c3ba483930d7f9f18fc3ffc931519814ddf9"), looks := false }, kinds := [], alts := [], laidByText := true, laidKinds := [.data, .data, .data, .widerDeep, .funcs], laidTests := true, laidLooks := .later }
def ClassifyHoldsUptoCardSaid : Prop := Claim7.holds Tryz.pinned (.plain (OpenSpec.upto classifyHoldsSpec)) classifyHoldsUptoCard

/-- THE SECOND FORM's CARD OF 'apographlaw27.ClassifyClasses'. -/
def classifyClassesUptoCard : Claim7 := { stood := { row := classifyClassesUptoRow, standIns := [], harness := (true, "cb59d2f9f0d220fb78aba16d2fe1c3ba483930d7f9f18fc3ffc931519814ddf9"), looks := false }, kinds := [], alts := [], laidByText := true, laidKinds := [.data, .data, .data, .widerDeep, .funcs], laidTests := true, laidLooks := .later }
def ClassifyClassesUptoCardSaid : Prop := Claim7.holds Tryz.pinned (.plain (OpenSpec.upto classifyClassesSpec)) classifyClassesUptoCard
end Rows
end Go.Proofs.YthnlnffmmioapaaGreatDoor
