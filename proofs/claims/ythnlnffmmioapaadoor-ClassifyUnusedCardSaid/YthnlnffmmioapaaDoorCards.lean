/-
  DERIVED. GIVEN WITH THE SEED: THE CARDS: each row of YthnlnffmmioapaaDoorRows.lean that lists a variable, with what it lists TIED to the program's text (the seventh form; the later family's looks); each row that meets fmt, with fmt's text TOLD by the authors' own Lean function (tested against real Go, not proved from fmt's source: count such statements apart). THE CARD IS WHAT COUNTS. Prove the row's statement (the work); the ties are given (YthnlnffmmioapaaDoorTie.lean); close each card by the builder's one call (the guide's Derived/Test/ToyasCard.lean, 'card_holds'). Laid BY PROGRAM, IN A SANDBOX (cutbox-door.mjs). By AI agents, Wed Nov 11 2026. No macro, syntax, notation, axiom, sorry.
-/
import Derived.Test.YthnlnffmmioapaaDoorRows
import GoSem.ClaimSeven
namespace Go.Proofs.YthnlnffmmioapaaDoor
namespace Rows

/-- THE TIED CARD OF 'apographlaw27.ClassifyLogic'. -/
def classifyLogicCard : Claim7 := { stood := { row := classifyLogicRow, standIns := [], harness := (true, "2c836386879df73821ef0b1c991e3cd3c97f28b290124db00bf8f85716237ae4"), looks := false }, kinds := [], alts := [], laidByText := true, laidKinds := [.data, .data, .data, .widerDeep, .funcs], laidTests := true, laidLooks := .later }
def ClassifyLogicCardSaid : Prop := Claim7.holds Tryd.pinned (.plain (OpenSpec.ofChange classifyLogicSpec)) classifyLogicCard

/-- THE TIED CARD OF 'apographlaw27.ClassifyKinds'. -/
def classifyKindsCard : Claim7 := { stood := { row := classifyKindsRow, standIns := [], harness := (true, "2c836386879df73821ef0b1c991e3cd3c97f28b290124db00bf8f85716237ae4"), looks := false }, kinds := [], alts := [], laidByText := true, laidKinds := [.data, .data, .data, .widerDeep, .funcs], laidTests := true, laidLooks := .later }
def ClassifyKindsCardSaid : Prop := Claim7.holds Tryd.pinned (.plain (OpenSpec.ofChange classifyKindsSpec)) classifyKindsCard

/-- THE TIED CARD OF 'apographlaw27.ClassifySources'. -/
def classifySourcesCard : Claim7 := { stood := { row := classifySourcesRow, standIns := [], harness := (true, "2c836386879df73821ef0b1c991e3cd3c97f28b290124db00bf8f85716237ae4"), looks := false }, kinds := [], alts := [], laidByText := true, laidKinds := [.data, .data, .data, .widerDeep, .funcs], laidTests := true, laidLooks := .later }
def ClassifySourcesCardSaid : Prop := Claim7.holds Tryd.pinned (.plain (OpenSpec.ofChange classifySourcesSpec)) classifySourcesCard

/-- THE TIED CARD OF 'apographlaw27.ClassifyImplied'. -/
def classifyImpliedCard : Claim7 := { stood := { row := classifyImpliedRow, standIns := [], harness := (true, "2c836386879df73821ef0b1c991e3cd3c97f28b290124db00bf8f85716237ae4"), looks := false }, kinds := [], alts := [], laidByText := true, laidKinds := [.data, .data, .data, .widerDeep, .funcs], laidTests := true, laidLooks := .later }
def ClassifyImpliedCardSaid : Prop := Claim7.holds Tryd.pinned (.plain (OpenSpec.ofChange classifyImpliedSpec)) classifyImpliedCard

/-- THE TIED CARD OF 'apographlaw27.ClassifyUnits'. -/
def classifyUnitsCard : Claim7 := { stood := { row := classifyUnitsRow, standIns := [], harness := (true, "2c836386879df73821ef0b1c991e3cd3c97f28b290124db00bf8f85716237ae4"), looks := false }, kinds := [], alts := [], laidByText := true, laidKinds := [.data, .data, .data, .widerDeep, .funcs], laidTests := true, laidLooks := .later }
def ClassifyUnitsCardSaid : Prop := Claim7.holds Tryd.pinned (.plain (OpenSpec.ofChange classifyUnitsSpec)) classifyUnitsCard

/-- THE TIED CARD OF 'apographlaw27.ClassifyFirst'. -/
def classifyFirstCard : Claim7 := { stood := { row := classifyFirstRow, standIns := [], harness := (true, "2c836386879df73821ef0b1c991e3cd3c97f28b290124db00bf8f85716237ae4"), looks := false }, kinds := [], alts := [], laidByText := true, laidKinds := [.data, .data, .data, .widerDeep, .funcs], laidTests := true, laidLooks := .later }
def ClassifyFirstCardSaid : Prop := Claim7.holds Tryd.pinned (.plain (OpenSpec.ofChange classifyFirstSpec)) classifyFirstCard

/-- THE TIED CARD OF 'apographlaw27.ClassifyUnused'. -/
def classifyUnusedCard : Claim7 := { stood := { row := classifyUnusedRow, standIns := [], harness := (true, "2c836386879df73821ef0b1c991e3cd3c97f28b290124db00bf8f85716237ae4"), looks := false }, kinds := [], alts := [], laidByText := true, laidKinds := [.data, .data, .data, .widerDeep, .funcs], laidTests := true, laidLooks := .later }
def ClassifyUnusedCardSaid : Prop := Claim7.holds Tryd.pinned (.plain (OpenSpec.ofChange classifyUnusedSpec)) classifyUnusedCard

/-- THE SECOND FORM's CARD OF 'apographlaw27.ClassifyLogic'. -/
def classifyLogicUptoCard : Claim7 := { stood := { row := classifyLogicUptoRow, standIns := [], harness := (true, "2c836386879df73821ef0b1c991e3cd3c97f28b290124db00bf8f85716237ae4"), looks := false }, kinds := [], alts := [], laidByText := true, laidKinds := [.data, .data, .data, .widerDeep, .funcs], laidTests := true, laidLooks := .later }
def ClassifyLogicUptoCardSaid : Prop := Claim7.holds Tryd.pinned (.plain (OpenSpec.upto classifyLogicSpec)) classifyLogicUptoCard

/-- THE SECOND FORM's CARD OF 'apographlaw27.ClassifyKinds'. -/
def classifyKindsUptoCard : Claim7 := { stood := { row := classifyKindsUptoRow, standIns := [], harness := (true, "2c836386879df73821ef0b1c991e3cd3c97f28b290124db00bf8f85716237ae4"), looks := false }, kinds := [], alts := [], laidByText := true, laidKinds := [.data, .data, .data, .widerDeep, .funcs], laidTests := true, laidLooks := .later }
def ClassifyKindsUptoCardSaid : Prop := Claim7.holds Tryd.pinned (.plain (OpenSpec.upto classifyKindsSpec)) classifyKindsUptoCard

/-- THE SECOND FORM's CARD OF 'apographlaw27.ClassifySources'. -/
def classifySourcesUptoCard : Claim7 := { stood := { row := classifySourcesUptoRow, standIns := [], harness := (true, "2c836386879df73821ef0b1c991e3cd3c97f28b290124db00bf8f85716237ae4"), looks := false }, kinds := [], alts := [], laidByText := true, laidKinds := [.data, .data, .data, .widerDeep, .funcs], laidTests := true, laidLooks := .later }
def ClassifySourcesUptoCardSaid : Prop := Claim7.holds Tryd.pinned (.plain (OpenSpec.upto classifySourcesSpec)) classifySourcesUptoCard

/-- THE SECOND FORM's CARD OF 'apographlaw27.ClassifyImplied'. -/
def classifyImpliedUptoCard : Claim7 := { stood := { row := classifyImpliedUptoRow, standIns := [], harness := (true, "2c836386879df73821ef0b1c991e3cd3c97f28b290124db00bf8f85716237ae4"), looks := false }, kinds := [], alts := [], laidByText := true, laidKinds := [.data, .data, .data, .widerDeep, .funcs], laidTests := true, laidLooks := .later }
def ClassifyImpliedUptoCardSaid : Prop := Claim7.holds Tryd.pinned (.plain (OpenSpec.upto classifyImpliedSpec)) classifyImpliedUptoCard

/-- THE SECOND FORM's CARD OF 'apographlaw27.ClassifyUnits'. -/
def classifyUnitsUptoCard : Claim7 := { stood := { row := classifyUnitsUptoRow, standIns := [], harness := (true, "2c836386879df73821ef0b1c991e3cd3c97f28b290124db00bf8f85716237ae4"), looks := false }, kinds := [], alts := [], laidByText := true, laidKinds := [.data, .data, .data, .widerDeep, .funcs], laidTests := true, laidLooks := .later }
def ClassifyUnitsUptoCardSaid : Prop := Claim7.holds Tryd.pinned (.plain (OpenSpec.upto classifyUnitsSpec)) classifyUnitsUptoCard

/-- THE SECOND FORM's CARD OF 'apographlaw27.ClassifyFirst'. -/
def classifyFirstUptoCard : Claim7 := { stood := { row := classifyFirstUptoRow, standIns := [], harness := (true, "2c836386879df73821ef0b1c991e3cd3c97f28b290124db00bf8f85716237ae4"), looks := false }, kinds := [], alts := [], laidByText := true, laidKinds := [.data, .data, .data, .widerDeep, .funcs], laidTests := true, laidLooks := .later }
def ClassifyFirstUptoCardSaid : Prop := Claim7.holds Tryd.pinned (.plain (OpenSpec.upto classifyFirstSpec)) classifyFirstUptoCard

/-- THE SECOND FORM's CARD OF 'apographlaw27.ClassifyUnused'. -/
def classifyUnusedUptoCard : Claim7 := { stood := { row := classifyUnusedUptoRow, standIns := [], harness := (true, "2c836386879df73821ef0b1c991e3cd3c97f28b290124db00bf8f85716237ae4"), looks := false }, kinds := [], alts := [], laidByText := true, laidKinds := [.data, .data, .data, .widerDeep, .funcs], laidTests := true, laidLooks := .later }
def ClassifyUnusedUptoCardSaid : Prop := Claim7.holds Tryd.pinned (.plain (OpenSpec.upto classifyUnusedSpec)) classifyUnusedUptoCard
end Rows
end Go.Proofs.YthnlnffmmioapaaDoor
