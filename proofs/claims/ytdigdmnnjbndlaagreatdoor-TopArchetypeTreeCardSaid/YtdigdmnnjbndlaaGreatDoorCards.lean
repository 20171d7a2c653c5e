/-
  DERIVED. GIVEN WITH THE SEED: THE CARDS: each row of YtdigdmnnjbndlaaGreatDoorRows.lean that lists a variable, with what it lists TIED to the program's text (the seventh form; the later family's looks); each row that meets fmt, with fmt's text TOLD by the authors' own Lean function (tested against real Go, not proved from fmt's source: count such statements apart). THE CARD IS WHAT COUNTS. Prove the row's statement (the work); the ties are given (YtdigdmnnjbndlaaGreatDoorTie.lean); close each card by the builder's one call (the guide's Derived/Test/ToyasCard.lean, 'card_holds'). Laid BY PROGRAM, IN A SANDBOX (cutbox-door.mjs). By AI agents, Wed Nov 11 2026. No macro, syntax, notation, axiom, sorry.
-/
import Derived.Test.YtdigdmnnjbndlaaGreatDoorRows
import GoSem.ClaimSeven
namespace Go.Proofs.YtdigdmnnjbndlaaGreatDoor
namespace Rows

/-- THE TIED CARD OF 'apographlaw38.ContaminationTrees'. -/
def contaminationTreesCard : Claim7 := { stood := { row := contaminationTreesRow, standIns := [], harness := (true, "317c6b92534520785ee6d4cc065237db65a0a94c31f0dbfa4cdd76b719ac93d1"), looks := false }, kinds := [], alts := [], laidByText := true, laidKinds := [.data, .data, .data], laidTests := true, laidLooks := .later }
def ContaminationTreesCardSaid : Prop := Claim7.holds Tryz.pinned (.plain (OpenSpec.ofChange contaminationTreesSpec)) contaminationTreesCard

/-- THE TIED CARD OF 'apographlaw36.StemmaTexts'. -/
def stemmaTextsCard : Claim7 := { stood := { row := stemmaTextsRow, standIns := [], harness := (true, "317c6b92534520785ee6d4cc065237db65a0a94c31f0dbfa4cdd76b719ac93d1"), looks := false }, kinds := [], alts := [], laidByText := true, laidKinds := [.data, .data, .data, .data, .pinned], laidTests := true, laidLooks := .later }
def StemmaTextsCardSaid : Prop := Claim7.holds Tryz.pinned (.plain (OpenSpec.ofChange stemmaTextsSpec)) stemmaTextsCard

/-- THE TIED CARD OF 'apographlaw36.StemmaTrees'. -/
def stemmaTreesCard : Claim7 := { stood := { row := stemmaTreesRow, standIns := [], harness := (true, "317c6b92534520785ee6d4cc065237db65a0a94c31f0dbfa4cdd76b719ac93d1"), looks := false }, kinds := [], alts := [], laidByText := true, laidKinds := [.data, .data, .data, .data, .pinned], laidTests := true, laidLooks := .later }
def StemmaTreesCardSaid : Prop := Claim7.holds Tryz.pinned (.plain (OpenSpec.ofChange stemmaTreesSpec)) stemmaTreesCard

/-- THE TIED CARD OF 'apographtop.TopArchetypeTree'. -/
def topArchetypeTreeCard : Claim7 := { stood := { row := topArchetypeTreeRow, standIns := [], harness := (true, "317c6b92534520785ee6d4cc065237db65a0a94c31f0dbfa4cdd76b719ac93d1"), looks := false }, kinds := [], alts := [], laidByText := true, laidKinds := [.data, .data, .data], laidTests := true, laidLooks := .later }
def TopArchetypeTreeCardSaid : Prop := Claim7.holds Tryz.pinned (.plain (OpenSpec.ofChange topArchetypeTreeSpec)) topArchetypeTreeCard

/-- THE SECOND FORM's CARD OF 'apographlaw38.ContaminationTrees'. -/
def contaminationTreesUptoCard : Claim7 := { stood := { row := contaminationTreesUptoRow, standIns := [], harness := (true, "317c6b92534520785ee6d4cc065237db65a0a94c31f0dbfa4cdd76b719ac93d1"), looks := false }, kinds := [], alts := [], laidByText := true, laidKinds := [.data, .data, .data], laidTests := true, laidLooks := .later }
def ContaminationTreesUptoCardSaid : Prop := Claim7.holds Tryz.pinned (.plain (OpenSpec.upto contaminationTreesSpec)) contaminationTreesUptoCard

/-- THE SECOND FORM's CARD OF 'apographlaw36.StemmaTexts'. -/
def stemmaTextsUptoCard : Claim7 := { stood := { row := stemmaTextsUptoRow, standIns := [], harness := (true, "317c6b92534520785ee6d4cc065237db65a0a94c31f0dbfa4cdd76b719ac93d1"), looks := false }, kinds := [], alts := [], laidByText := true, laidKinds := [.data, .data, .data, .data, .pinned], laidTests := true, laidLooks := .later }
def StemmaTextsUptoCardSaid : Prop := Claim7.holds Tryz.pinned (.plain (OpenSpec.upto stemmaTextsSpec)) stemmaTextsUptoCard

/-- THE SECOND FORM's CARD OF 'apographlaw36.StemmaTrees'. -/
def stemmaTreesUptoCard : Claim7 := { stood := { row := stemmaTreesUptoRow, standIns := [], harness := (true, "317c6b92534520785ee6d4cc065237db65a0a94c31f0dbfa4cdd76b719ac93d1"), looks := false }, kinds := [], alts := [], laidByText := true, laidKinds := [.data, .data, .data, .data, .pinned], laidTests := true, laidLooks := .later }
def StemmaTreesUptoCardSaid : Prop := Claim7.holds Tryz.pinned (.plain (OpenSpec.upto stemmaTreesSpec)) stemmaTreesUptoCard

/-- THE SECOND FORM's CARD OF 'apographtop.TopArchetypeTree'. -/
def topArchetypeTreeUptoCard : Claim7 := { stood := { row := topArchetypeTreeUptoRow, standIns := [], harness := (true, "317c6b92534520785ee6d4cc065237db65a0a94c31f0dbfa4cdd76b719ac93d1"), looks := false }, kinds := [], alts := [], laidByText := true, laidKinds := [.data, .data, .data], laidTests := true, laidLooks := .later }
def TopArchetypeTreeUptoCardSaid : Prop := Claim7.holds Tryz.pinned (.plain (OpenSpec.upto topArchetypeTreeSpec)) topArchetypeTreeUptoCard
end Rows
end Go.Proofs.YtdigdmnnjbndlaaGreatDoor
