/-
  DERIVED. GIVEN WITH THE SEED: THE CARDS: each row of YtpfemholpigdeaaDoorRows.lean that lists a variable, with what it lists TIED to the program's text (the seventh form; the later family's looks); each row that meets fmt, with fmt's text TOLD by the authors' own Lean function (tested against real Go, not proved from fmt's source: count such statements apart). THE CARD IS WHAT COUNTS. Prove the row's statement (the work); the ties are given (YtpfemholpigdeaaDoorTie.lean); close each card by the builder's one call (the guide's Derived/Test/ToyasCard.lean, 'card_holds'). Laid BY PROGRAM, IN A SANDBOX (cutbox-door.mjs). By AI agents, Wed Nov 11 2026. No macro, syntax, notation, axiom, sorry.
-/
import Derived.Test.YtpfemholpigdeaaDoorRows
import GoSem.ClaimSeven
namespace Go.Proofs.YtpfemholpigdeaaDoor
namespace Rows

/-- THE TIED CARD OF 'apographlaw36.StemmaBack'. -/
def stemmaBackCard : Claim7 := { stood := { row := stemmaBackRow, standIns := [], harness := (true, "328eb78ba0fa0abbfe8ef91a054f84885b00a7ae7396bf8fdf38638e3e243a57"), looks := false }, kinds := [], alts := [], laidByText := true, laidKinds := [.data, .pinned], laidTests := true, laidLooks := .later }
def StemmaBackCardSaid : Prop := Claim7.holds Tryd.pinned (.plain (OpenSpec.ofChange stemmaBackSpec)) stemmaBackCard

/-- THE TIED CARD OF 'apographlaw36.StemmaRoots'. -/
def stemmaRootsCard : Claim7 := { stood := { row := stemmaRootsRow, standIns := [], harness := (true, "328eb78ba0fa0abbfe8ef91a054f84885b00a7ae7396bf8fdf38638e3e243a57"), looks := false }, kinds := [], alts := [], laidByText := true, laidKinds := [.data, .pinned], laidTests := true, laidLooks := .later }
def StemmaRootsCardSaid : Prop := Claim7.holds Tryd.pinned (.plain (OpenSpec.ofChange stemmaRootsSpec)) stemmaRootsCard

/-- THE TIED CARD OF 'apographlaw36.StemmaContaminates'. -/
def stemmaContaminatesCard : Claim7 := { stood := { row := stemmaContaminatesRow, standIns := [], harness := (true, "328eb78ba0fa0abbfe8ef91a054f84885b00a7ae7396bf8fdf38638e3e243a57"), looks := false }, kinds := [], alts := [], laidByText := true, laidKinds := [.data, .pinned], laidTests := true, laidLooks := .later }
def StemmaContaminatesCardSaid : Prop := Claim7.holds Tryd.pinned (.plain (OpenSpec.ofChange stemmaContaminatesSpec)) stemmaContaminatesCard

/-- THE TIED CARD OF 'apographlaw36.StemmaRemoves'. -/
def stemmaRemovesCard : Claim7 := { stood := { row := stemmaRemovesRow, standIns := [], harness := (true, "328eb78ba0fa0abbfe8ef91a054f84885b00a7ae7396bf8fdf38638e3e243a57"), looks := false }, kinds := [], alts := [], laidByText := true, laidKinds := [.data, .pinned], laidTests := true, laidLooks := .later }
def StemmaRemovesCardSaid : Prop := Claim7.holds Tryd.pinned (.plain (OpenSpec.ofChange stemmaRemovesSpec)) stemmaRemovesCard

/-- THE TIED CARD OF 'apographlaw36.StemmaExtends'. -/
def stemmaExtendsCard : Claim7 := { stood := { row := stemmaExtendsRow, standIns := [], harness := (true, "328eb78ba0fa0abbfe8ef91a054f84885b00a7ae7396bf8fdf38638e3e243a57"), looks := false }, kinds := [], alts := [], laidByText := true, laidKinds := [.data, .pinned], laidTests := true, laidLooks := .later }
def StemmaExtendsCardSaid : Prop := Claim7.holds Tryd.pinned (.plain (OpenSpec.ofChange stemmaExtendsSpec)) stemmaExtendsCard

/-- THE TIED CARD OF 'apographtop.TopDatesText'. -/
def topDatesTextCard : Claim7 := { stood := { row := topDatesTextRow, standIns := [], harness := (true, "328eb78ba0fa0abbfe8ef91a054f84885b00a7ae7396bf8fdf38638e3e243a57"), looks := false }, kinds := [], alts := [], laidByText := true, laidKinds := [.data, .pinned], laidTests := true, laidLooks := .later }
def TopDatesTextCardSaid : Prop := Claim7.holds Tryd.pinned (.plain (OpenSpec.ofChange topDatesTextSpec)) topDatesTextCard

/-- THE TIED CARD OF 'apographtop.TopDatesRemoved'. -/
def topDatesRemovedCard : Claim7 := { stood := { row := topDatesRemovedRow, standIns := [], harness := (true, "328eb78ba0fa0abbfe8ef91a054f84885b00a7ae7396bf8fdf38638e3e243a57"), looks := false }, kinds := [], alts := [], laidByText := true, laidKinds := [.data, .pinned], laidTests := true, laidLooks := .later }
def TopDatesRemovedCardSaid : Prop := Claim7.holds Tryd.pinned (.plain (OpenSpec.ofChange topDatesRemovedSpec)) topDatesRemovedCard

/-- THE SECOND FORM's CARD OF 'apographlaw36.StemmaBack'. -/
def stemmaBackUptoCard : Claim7 := { stood := { row := stemmaBackUptoRow, standIns := [], harness := (true, "328eb78ba0fa0abbfe8ef91a054f84885b00a7ae7396bf8fdf38638e3e243a57"), looks := false }, kinds := [], alts := [], laidByText := true, laidKinds := [.data, .pinned], laidTests := true, laidLooks := .later }
def StemmaBackUptoCardSaid : Prop := Claim7.holds Tryd.pinned (.plain (OpenSpec.upto stemmaBackSpec)) stemmaBackUptoCard

/-- THE SECOND FORM's CARD OF 'apographlaw36.StemmaRoots'. -/
def stemmaRootsUptoCard : Claim7 := { stood := { row := stemmaRootsUptoRow, standIns := [], harness := (true, "328eb78ba0fa0abbfe8ef91a054f84885b00a7ae7396bf8fdf38638e3e243a57"), looks := false }, kinds := [], alts := [], laidByText := true, laidKinds := [.data, .pinned], laidTests := true, laidLooks := .later }
def StemmaRootsUptoCardSaid : Prop := Claim7.holds Tryd.pinned (.plain (OpenSpec.upto stemmaRootsSpec)) stemmaRootsUptoCard

/-- THE SECOND FORM's CARD OF 'apographlaw36.StemmaContaminates'. -/
def stemmaContaminatesUptoCard : Claim7 := { stood := { row := stemmaContaminatesUptoRow, standIns := [], harness := (true, "328eb78ba0fa0abbfe8ef91a054f84885b00a7ae7396bf8fdf38638e3e243a57"), looks := false }, kinds := [], alts := [], laidByText := true, laidKinds := [.data, .pinned], laidTests := true, laidLooks := .later }
def StemmaContaminatesUptoCardSaid : Prop := Claim7.holds Tryd.pinned (.plain (OpenSpec.upto stemmaContaminatesSpec)) stemmaContaminatesUptoCard

/-- THE SECOND FORM's CARD OF 'apographlaw36.StemmaRemoves'. -/
def stemmaRemovesUptoCard : Claim7 := { stood := { row := stemmaRemovesUptoRow, standIns := [], harness := (true, "328eb78ba0fa0abbfe8ef91a054f84885b00a7ae7396bf8fdf38638e3e243a57"), looks := false }, kinds := [], alts := [], laidByText := true, laidKinds := [.data, .pinned], laidTests := true, laidLooks := .later }
def StemmaRemovesUptoCardSaid : Prop := Claim7.holds Tryd.pinned (.plain (OpenSpec.upto stemmaRemovesSpec)) stemmaRemovesUptoCard

/-- THE SECOND FORM's CARD OF 'apographlaw36.StemmaExtends'. -/
def stemmaExtendsUptoCard : Claim7 := { stood := { row := stemmaExtendsUptoRow, standIns := [], harness := (true, "328eb78ba0fa0abbfe8ef91a054f84885b00a7ae7396bf8fdf38638e3e243a57"), looks := false }, kinds := [], alts := [], laidByText := true, laidKinds := [.data, .pinned], laidTests := true, laidLooks := .later }
def StemmaExtendsUptoCardSaid : Prop := Claim7.holds Tryd.pinned (.plain (OpenSpec.upto stemmaExtendsSpec)) stemmaExtendsUptoCard

/-- THE SECOND FORM's CARD OF 'apographtop.TopDatesText'. -/
def topDatesTextUptoCard : Claim7 := { stood := { row := topDatesTextUptoRow, standIns := [], harness := (true, "328eb78ba0fa0abbfe8ef91a054f84885b00a7ae7396bf8fdf38638e3e243a57"), looks := false }, kinds := [], alts := [], laidByText := true, laidKinds := [.data, .pinned], laidTests := true, laidLooks := .later }
def TopDatesTextUptoCardSaid : Prop := Claim7.holds Tryd.pinned (.plain (OpenSpec.upto topDatesTextSpec)) topDatesTextUptoCard

/-- THE SECOND FORM's CARD OF 'apographtop.TopDatesRemoved'. -/
def topDatesRemovedUptoCard : Claim7 := { stood := { row := topDatesRemovedUptoRow, standIns := [], harness := (true, "328eb78ba0fa0abbfe8ef91a054f84885b00a7ae7396bf8fdf38638e3e243a57"), looks := false }, kinds := [], alts := [], laidByText := true, laidKinds := [.data, .pinned], laidTests := true, laidLooks := .later }
def TopDatesRemovedUptoCardSaid : Prop := Claim7.holds Tryd.pinned (.plain (OpenSpec.upto topDatesRemovedSpec)) topDatesRemovedUptoCard
end Rows
end Go.Proofs.YtpfemholpigdeaaDoor
