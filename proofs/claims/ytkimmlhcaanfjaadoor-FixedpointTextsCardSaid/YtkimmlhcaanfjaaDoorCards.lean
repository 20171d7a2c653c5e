/-
  DERIVED. GIVEN WITH THE SEED: THE CARDS: each row of YtkimmlhcaanfjaaDoorRows.lean that lists a variable, with what it lists TIED to the program's text (the seventh form; the later family's looks); each row that meets fmt, with fmt's text TOLD by the authors' own Lean function (tested against real Go, not proved from fmt's source: count such statements apart). THE CARD IS WHAT COUNTS. Prove the row's statement (the work); the ties are given (YtkimmlhcaanfjaaDoorTie.lean); close each card by the builder's one call (the guide's Derived/Test/ToyasCard.lean, 'card_holds'). Laid BY PROGRAM, IN A SANDBOX (cutbox-door.mjs). By AI agents, Wed Nov 11 2026. No macro, syntax, notation, axiom, sorry.
-/
import Derived.Test.YtkimmlhcaanfjaaDoorRows
import GoSem.ClaimSeven
namespace Go.Proofs.YtkimmlhcaanfjaaDoor
namespace Rows

/-- THE TIED CARD OF 'apographlaw02.FixedpointTexts'. -/
def fixedpointTextsCard : Claim7 := { stood := { row := fixedpointTextsRow, standIns := [], harness := (true, "e7e2eecf8ee6f8fe512bf7e45573d6b412f789a5bfa66f1c212f2e0b529d7888"), looks := false }, kinds := [], alts := [], laidByText := true, laidKinds := [.data, .data, .data, .data, .pinned], laidTests := true, laidLooks := .later }
def FixedpointTextsCardSaid : Prop := Claim7.holds Tryd.pinned (.plain (OpenSpec.ofChange fixedpointTextsSpec)) fixedpointTextsCard

/-- THE TIED CARD OF 'apographlaw02.FixedpointNumbers'. -/
def fixedpointNumbersCard : Claim7 := { stood := { row := fixedpointNumbersRow, standIns := [], harness := (true, "e7e2eecf8ee6f8fe512bf7e45573d6b412f789a5bfa66f1c212f2e0b529d7888"), looks := false }, kinds := [], alts := [], laidByText := true, laidKinds := [.data, .data, .data, .data, .pinned], laidTests := true, laidLooks := .later }
def FixedpointNumbersCardSaid : Prop := Claim7.holds Tryd.pinned (.plain (OpenSpec.ofChange fixedpointNumbersSpec)) fixedpointNumbersCard

/-- THE TIED CARD OF 'apographlaw02.FixedpointBack'. -/
def fixedpointBackCard : Claim7 := { stood := { row := fixedpointBackRow, standIns := [], harness := (true, "e7e2eecf8ee6f8fe512bf7e45573d6b412f789a5bfa66f1c212f2e0b529d7888"), looks := false }, kinds := [], alts := [], laidByText := true, laidKinds := [.data, .data, .data, .data, .pinned], laidTests := true, laidLooks := .later }
def FixedpointBackCardSaid : Prop := Claim7.holds Tryd.pinned (.plain (OpenSpec.ofChange fixedpointBackSpec)) fixedpointBackCard

/-- THE TIED CARD OF 'apographlaw02.FixedpointScales'. -/
def fixedpointScalesCard : Claim7 := { stood := { row := fixedpointScalesRow, standIns := [], harness := (true, "e7e2eecf8ee6f8fe512bf7e45573d6b412f789a5bfa66f1c212f2e0b529d7888"), looks := false }, kinds := [], alts := [], laidByText := true, laidKinds := [.data, .data, .data, .data, .pinned], laidTests := true, laidLooks := .later }
def FixedpointScalesCardSaid : Prop := Claim7.holds Tryd.pinned (.plain (OpenSpec.ofChange fixedpointScalesSpec)) fixedpointScalesCard

/-- THE TIED CARD OF 'apographlaw02.FixedpointBad'. -/
def fixedpointBadCard : Claim7 := { stood := { row := fixedpointBadRow, standIns := [], harness := (true, "e7e2eecf8ee6f8fe512bf7e45573d6b412f789a5bfa66f1c212f2e0b529d7888"), looks := false }, kinds := [], alts := [], laidByText := true, laidKinds := [.data, .data, .data, .data, .pinned], laidTests := true, laidLooks := .later }
def FixedpointBadCardSaid : Prop := Claim7.holds Tryd.pinned (.plain (OpenSpec.ofChange fixedpointBadSpec)) fixedpointBadCard

/-- THE TIED CARD OF 'apographlaw02.FixedpointDistributes'. -/
def fixedpointDistributesCard : Claim7 := { stood := { row := fixedpointDistributesRow, standIns := [], harness := (true, "e7e2eecf8ee6f8fe512bf7e45573d6b412f789a5bfa66f1c212f2e0b529d7888"), looks := false }, kinds := [], alts := [], laidByText := true, laidKinds := [.data, .data, .data, .data, .pinned], laidTests := true, laidLooks := .later }
def FixedpointDistributesCardSaid : Prop := Claim7.holds Tryd.pinned (.plain (OpenSpec.ofChange fixedpointDistributesSpec)) fixedpointDistributesCard

/-- THE TIED CARD OF 'apographlaw02.FixedpointAdds'. -/
def fixedpointAddsCard : Claim7 := { stood := { row := fixedpointAddsRow, standIns := [], harness := (true, "e7e2eecf8ee6f8fe512bf7e45573d6b412f789a5bfa66f1c212f2e0b529d7888"), looks := false }, kinds := [], alts := [], laidByText := true, laidKinds := [.data, .data, .data, .data, .pinned], laidTests := true, laidLooks := .later }
def FixedpointAddsCardSaid : Prop := Claim7.holds Tryd.pinned (.plain (OpenSpec.ofChange fixedpointAddsSpec)) fixedpointAddsCard

/-- THE SECOND FORM's CARD OF 'apographlaw02.FixedpointTexts'. -/
def fixedpointTextsUptoCard : Claim7 := { stood := { row := fixedpointTextsUptoRow, standIns := [], harness := (true, "e7e2eecf8ee6f8fe512bf7e45573d6b412f789a5bfa66f1c212f2e0b529d7888"), looks := false }, kinds := [], alts := [], laidByText := true, laidKinds := [.data, .data, .data, .data, .pinned], laidTests := true, laidLooks := .later }
def FixedpointTextsUptoCardSaid : Prop := Claim7.holds Tryd.pinned (.plain (OpenSpec.upto fixedpointTextsSpec)) fixedpointTextsUptoCard

/-- THE SECOND FORM's CARD OF 'apographlaw02.FixedpointNumbers'. -/
def fixedpointNumbersUptoCard : Claim7 := { stood := { row := fixedpointNumbersUptoRow, standIns := [], harness := (true, "e7e2eecf8ee6f8fe512bf7e45573d6b412f789a5bfa66f1c212f2e0b529d7888"), looks := false }, kinds := [], alts := [], laidByText := true, laidKinds := [.data, .data, .data, .data, .pinned], laidTests := true, laidLooks := .later }
def FixedpointNumbersUptoCardSaid : Prop := Claim7.holds Tryd.pinned (.plain (OpenSpec.upto fixedpointNumbersSpec)) fixedpointNumbersUptoCard

/-- THE SECOND FORM's CARD OF 'apographlaw02.FixedpointBack'. -/
def fixedpointBackUptoCard : Claim7 := { stood := { row := fixedpointBackUptoRow, standIns := [], harness := (true, "e7e2eecf8ee6f8fe512bf7e45573d6b412f789a5bfa66f1c212f2e0b529d7888"), looks := false }, kinds := [], alts := [], laidByText := true, laidKinds := [.data, .data, .data, .data, .pinned], laidTests := true, laidLooks := .later }
def FixedpointBackUptoCardSaid : Prop := Claim7.holds Tryd.pinned (.plain (OpenSpec.upto fixedpointBackSpec)) fixedpointBackUptoCard

/-- THE SECOND FORM's CARD OF 'apographlaw02.FixedpointScales'. -/
def fixedpointScalesUptoCard : Claim7 := { stood := { row := fixedpointScalesUptoRow, standIns := [], harness := (true, "e7e2eecf8ee6f8fe512bf7e45573d6b412f789a5bfa66f1c212f2e0b529d7888"), looks := false }, kinds := [], alts := [], laidByText := true, laidKinds := [.data, .data, .data, .data, .pinned], laidTests := true, laidLooks := .later }
def FixedpointScalesUptoCardSaid : Prop := Claim7.holds Tryd.pinned (.plain (OpenSpec.upto fixedpointScalesSpec)) fixedpointScalesUptoCard

/-- THE SECOND FORM's CARD OF 'apographlaw02.FixedpointBad'. -/
def fixedpointBadUptoCard : Claim7 := { stood := { row := fixedpointBadUptoRow, standIns := [], harness := (true, "e7e2eecf8ee6f8fe512bf7e45573d6b412f789a5bfa66f1c212f2e0b529d7888"), looks := false }, kinds := [], alts := [], laidByText := true, laidKinds := [.data, .data, .data, .data, .pinned], laidTests := true, laidLooks := .later }
def FixedpointBadUptoCardSaid : Prop := Claim7.holds Tryd.pinned (.plain (OpenSpec.upto fixedpointBadSpec)) fixedpointBadUptoCard

/-- THE SECOND FORM's CARD OF 'apographlaw02.FixedpointDistributes'. -/
def fixedpointDistributesUptoCard : Claim7 := { stood := { row := fixedpointDistributesUptoRow, standIns := [], harness := (true, "e7e2eecf8ee6f8fe512bf7e45573d6b412f789a5bfa66f1c212f2e0b529d7888"), looks := false }, kinds := [], alts := [], laidByText := true, laidKinds := [.data, .data, .data, .data, .pinned], laidTests := true, laidLooks := .later }
def FixedpointDistributesUptoCardSaid : Prop := Claim7.holds Tryd.pinned (.plain (OpenSpec.upto fixedpointDistributesSpec)) fixedpointDistributesUptoCard

/-- THE SECOND FORM's CARD OF 'apographlaw02.FixedpointAdds'. -/
def fixedpointAddsUptoCard : Claim7 := { stood := { row := fixedpointAddsUptoRow, standIns := [], harness := (true, "e7e2eecf8ee6f8fe512bf7e45573d6b412f789a5bfa66f1c212f2e0b529d7888"), looks := false }, kinds := [], alts := [], laidByText := true, laidKinds := [.data, .data, .data, .data, .pinned], laidTests := true, laidLooks := .later }
def FixedpointAddsUptoCardSaid : Prop := Claim7.holds Tryd.pinned (.plain (OpenSpec.upto fixedpointAddsSpec)) fixedpointAddsUptoCard
end Rows
end Go.Proofs.YtkimmlhcaanfjaaDoor
