/-
  DERIVED. GIVEN WITH THE SEED: THE CARDS: each row of YtpfemholpigdeaaGreatDoorRows.lean that lists a variable, with what it lists TIED to the program's text (the seventh form; the later family's looks); each row that meets fmt, with fmt's text TOLD by the authors' own Lean function (tested against real Go, not proved from fmt's source: count such statements apart). THE CARD IS WHAT COUNTS. Prove the row's statement (the work); the ties are given (YtpfemholpigdeaaGreatDoorTie.lean); close each card by the builder's one call (the guide's Derived/Test/ToyasCard.lean, 'card_holds'). Laid BY PROGRAM, IN A SANDBOX (cutbox-door.mjs). By AI agents, Wed Nov 11 2026. No macro, syntax, notation, axiom, sorry.
-/
import Derived.Test.YtpfemholpigdeaaGreatDoorRows
import GoSem.ClaimSeven
namespace Go.Proofs.YtpfemholpigdeaaGreatDoor
namespace Rows

/-- THE TIED CARD OF 'apographlaw36.StemmaNodes'. -/
def stemmaNodesCard : Claim7 := { stood := { row := stemmaNodesRow, standIns := [], harness := (true, "4c80214cb434eaea0737ae60b91b084e7a30737cd078e9aeb0ef4c5661739684"), looks := false }, kinds := [], alts := [], laidByText := true, laidKinds := [.data, .pinned], laidTests := true, laidLooks := .later }
def StemmaNodesCardSaid : Prop := Claim7.holds Tryz.pinned (.plain (OpenSpec.ofChange stemmaNodesSpec)) stemmaNodesCard

/-- THE TIED CARD OF 'apographlaw36.StemmaTexts'. -/
def stemmaTextsCard : Claim7 := { stood := { row := stemmaTextsRow, standIns := [], harness := (true, "4c80214cb434eaea0737ae60b91b084e7a30737cd078e9aeb0ef4c5661739684"), looks := false }, kinds := [], alts := [], laidByText := true, laidKinds := [.data, .data, .data, .data, .pinned], laidTests := true, laidLooks := .later }
def StemmaTextsCardSaid : Prop := Claim7.holds Tryz.pinned (.plain (OpenSpec.ofChange stemmaTextsSpec)) stemmaTextsCard

/-- THE TIED CARD OF 'apographlaw36.StemmaTrees'. -/
def stemmaTreesCard : Claim7 := { stood := { row := stemmaTreesRow, standIns := [], harness := (true, "4c80214cb434eaea0737ae60b91b084e7a30737cd078e9aeb0ef4c5661739684"), looks := false }, kinds := [], alts := [], laidByText := true, laidKinds := [.data, .data, .data, .data, .pinned], laidTests := true, laidLooks := .later }
def StemmaTreesCardSaid : Prop := Claim7.holds Tryz.pinned (.plain (OpenSpec.ofChange stemmaTreesSpec)) stemmaTreesCard

/-- THE SECOND FORM's CARD OF 'apographlaw36.StemmaNodes'. -/
def stemmaNodesUptoCard : Claim7 := { stood := { row := stemmaNodesUptoRow, standIns := [], harness := (true, "4c80214cb434eaea0737ae60b91b084e7a30737cd078e9aeb0ef4c5661739684"), looks := false }, kinds := [], alts := [], laidByText := true, laidKinds := [.data, .pinned], laidTests := true, laidLooks := .later }
def StemmaNodesUptoCardSaid : Prop := Claim7.holds Tryz.pinned (.plain (OpenSpec.upto stemmaNodesSpec)) stemmaNodesUptoCard

/-- THE SECOND FORM's CARD OF 'apographlaw36.StemmaTexts'. -/
def stemmaTextsUptoCard : Claim7 := { stood := { row := stemmaTextsUptoRow, standIns := [], harness := (true, "4c80214cb434eaea0737ae60b91b084e7a30737cd078e9aeb0ef4c5661739684"), looks := false }, kinds := [], alts := [], laidByText := true, laidKinds := [.data, .data, .data, .data, .pinned], laidTests := true, laidLooks := .later }
def StemmaTextsUptoCardSaid : Prop := Claim7.holds Tryz.pinned (.plain (OpenSpec.upto stemmaTextsSpec)) stemmaTextsUptoCard

/-- THE SECOND FORM's CARD OF 'apographlaw36.StemmaTrees'. -/
def stemmaTreesUptoCard : Claim7 := { stood := { row := stemmaTreesUptoRow, standIns := [], harness := (true, "4c80214cb434eaea0737ae60b91b084e7a30737cd078e9aeb0ef4c5661739684"), looks := false }, kinds := [], alts := [], laidByText := true, laidKinds := [.data, .data, .data, .data, .pinned], laidTests := true, laidLooks := .later }
def StemmaTreesUptoCardSaid : Prop := Claim7.holds Tryz.pinned (.plain (OpenSpec.upto stemmaTreesSpec)) stemmaTreesUptoCard
end Rows
end Go.Proofs.YtpfemholpigdeaaGreatDoor
