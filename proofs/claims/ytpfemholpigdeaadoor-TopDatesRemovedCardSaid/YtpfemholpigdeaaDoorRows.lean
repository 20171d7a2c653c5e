/-
  NARROWER THAN 'FOR EVERY INPUT', by the rows' own cells (each row's printed sentence says how): StemmaBack: laid · StemmaRoots: laid · StemmaContaminates: laid · StemmaRemoves: laid · StemmaExtends: laid · TopDatesText: laid · TopDatesRemoved: laid.
  DERIVED. THE GIVEN ROWS OF THIS SEAT. 7 by the template 'for every input the law returns true; each argument reads behind the call as it read before'; 0 by the template 'total and deterministic' (their statements: YtpfemholpigdeaaDoorTotals.lean).
  GIVEN WITH THE SEED: the statements are not yours to turn. If you find one false, say at which input.
  Laid BY PROGRAM, IN A SANDBOX (cutbox-rows.mjs): the forced cells as the released guide's own fill.sh prints them over the translation 7ad019d093ffcc14… (all of the seat's roots in one cut). By AI agents, Wed Nov 11 2026. No macro, syntax, notation, axiom, sorry.
-/
import Derived.Test.YtpfemholpigdeaaDoorChecked
import GoSem.PinnedTables
import GoSem.Claim
import GoSem.ClaimJoined
import GoSem.ClaimMapViews
import Derived.JoinedTies
import Derived.KernelRfl
namespace Go.Proofs.YtpfemholpigdeaaDoor
/- THE CELL 'sum', in the pinned program and in every row, IS THE sha256 OF THE DUMP (.gsa) THAT YtpfemholpigdeaaDoorProg.lean LOADS. Nothing in Lean hashes anything: it is a label: what it is worth is what the hold of that sum in a sandbox is worth. -/
noncomputable def Tryd.pinned : Pinned := { name := "ytpfemholpigdeaadoor", sum := "7ad019d093ffcc14405b4f940f56fdc9d126143861717192e1f9a313bdb0e280", checked := Tryd.checked }
namespace Rows
def none {H : Type} : Left H := { results := [], args := [] }

/- WHAT THE LISTED PACKAGE-LEVEL VARIABLES READ AS WHEN THE CALL BEGINS. Each datum BY PROGRAM (the guide's laid-datum.mjs) off the statement by which the dump's own 'gosem.cut.vars' lays the variable. In a bare row this is a premise. The card (YtpfemholpigdeaaDoorCards.lean) ties it to the program's text. -/
def laid_unicode_utf8_acceptRanges {H : Type} : DataW H := .agg [.agg [.lit (.int .u8 128), .lit (.int .u8 191)], .agg [.lit (.int .u8 160), .lit (.int .u8 191)], .agg [.lit (.int .u8 128), .lit (.int .u8 159)], .agg [.lit (.int .u8 144), .lit (.int .u8 191)], .agg [.lit (.int .u8 128), .lit (.int .u8 143)], .agg [.lit (.int .u8 0), .lit (.int .u8 0)], .agg [.lit (.int .u8 0), .lit (.int .u8 0)], .agg [.lit (.int .u8 0), .lit (.int .u8 0)], .agg [.lit (.int .u8 0), .lit (.int .u8 0)], .agg [.lit (.int .u8 0), .lit (.int .u8 0)], .agg [.lit (.int .u8 0), .lit (.int .u8 0)], .agg [.lit (.int .u8 0), .lit (.int .u8 0)], .agg [.lit (.int .u8 0), .lit (.int .u8 0)], .agg [.lit (.int .u8 0), .lit (.int .u8 0)], .agg [.lit (.int .u8 0), .lit (.int .u8 0)], .agg [.lit (.int .u8 0), .lit (.int .u8 0)]]
/-- One of Go's own tables, pinned by name: the form's constant. -/
def laid_unicode_utf8_first : DataW Unit := Go.Pinned.utf8First

/-- 'apographlaw36.StemmaBack': WHATEVER THE INPUT: true; the input reads as it did. -/
def stemmaBackSpec : ChangeSpec := { name := "stemmaBack", fn := fun _ => fun
  | [d1, d2] => { results := [.lit (.bool true)], args := [d1, d2] }
  | _ => none }
def stemmaBackRow : OpenClaim := { program := "ytpfemholpigdeaadoor", sum := "7ad019d093ffcc14405b4f940f56fdc9d126143861717192e1f9a313bdb0e280", func := "apograph/apographlaw36.StemmaBack", spec := "stemmaBack", inPlace := ["internal/bytealg.IndexByteString", "internal/bytealg.IndexString", "internal/bytealg.CountString", "internal/abi.NoEscape", "internal/bytealg.MakeNoZero"], unfollowed := true, recurses := true, named := ["internal/bytealg.MaxLen", "unicode/utf8.first", "unicode/utf8.acceptRanges"], apart := false, laid := [("unicode/utf8.acceptRanges", laid_unicode_utf8_acceptRanges), ("unicode/utf8.first", laid_unicode_utf8_first)] }
def StemmaBackSaid : Prop := stemmaBackRow.holds Tryd.pinned (OpenSpec.ofChange stemmaBackSpec)

/-- ITS FALSE NEIGHBOUR: 'it returns false'. Refute it at one input. -/
def stemmaBackWrong : ChangeSpec := { name := "stemmaBack", fn := fun _ => fun
  | [d1, d2] => { results := [.lit (.bool false)], args := [d1, d2] }
  | _ => none }
def StemmaBackWrongFalsely : Prop := stemmaBackRow.holds Tryd.pinned (OpenSpec.ofChange stemmaBackWrong)

/-- 'apographlaw36.StemmaRoots': WHATEVER THE INPUT: true; the input reads as it did. -/
def stemmaRootsSpec : ChangeSpec := { name := "stemmaRoots", fn := fun _ => fun
  | [d] => { results := [.lit (.bool true)], args := [d] }
  | _ => none }
def stemmaRootsRow : OpenClaim := { program := "ytpfemholpigdeaadoor", sum := "7ad019d093ffcc14405b4f940f56fdc9d126143861717192e1f9a313bdb0e280", func := "apograph/apographlaw36.StemmaRoots", spec := "stemmaRoots", inPlace := ["internal/bytealg.IndexByteString", "internal/bytealg.IndexString", "internal/bytealg.CountString", "internal/abi.NoEscape", "internal/bytealg.MakeNoZero"], unfollowed := true, recurses := true, named := ["internal/bytealg.MaxLen", "unicode/utf8.first", "unicode/utf8.acceptRanges"], apart := false, laid := [("unicode/utf8.acceptRanges", laid_unicode_utf8_acceptRanges), ("unicode/utf8.first", laid_unicode_utf8_first)] }
def StemmaRootsSaid : Prop := stemmaRootsRow.holds Tryd.pinned (OpenSpec.ofChange stemmaRootsSpec)

/-- ITS FALSE NEIGHBOUR: 'it returns false'. Refute it at one input. -/
def stemmaRootsWrong : ChangeSpec := { name := "stemmaRoots", fn := fun _ => fun
  | [d] => { results := [.lit (.bool false)], args := [d] }
  | _ => none }
def StemmaRootsWrongFalsely : Prop := stemmaRootsRow.holds Tryd.pinned (OpenSpec.ofChange stemmaRootsWrong)

/-- 'apographlaw36.StemmaContaminates': WHATEVER THE INPUT: true; the input reads as it did. -/
def stemmaContaminatesSpec : ChangeSpec := { name := "stemmaContaminates", fn := fun _ => fun
  | [d1, d2, d3] => { results := [.lit (.bool true)], args := [d1, d2, d3] }
  | _ => none }
def stemmaContaminatesRow : OpenClaim := { program := "ytpfemholpigdeaadoor", sum := "7ad019d093ffcc14405b4f940f56fdc9d126143861717192e1f9a313bdb0e280", func := "apograph/apographlaw36.StemmaContaminates", spec := "stemmaContaminates", inPlace := ["internal/bytealg.IndexByteString", "internal/bytealg.IndexString", "internal/bytealg.CountString", "internal/abi.NoEscape", "internal/bytealg.MakeNoZero"], unfollowed := true, recurses := true, named := ["internal/bytealg.MaxLen", "unicode/utf8.first", "unicode/utf8.acceptRanges"], apart := false, laid := [("unicode/utf8.acceptRanges", laid_unicode_utf8_acceptRanges), ("unicode/utf8.first", laid_unicode_utf8_first)] }
def StemmaContaminatesSaid : Prop := stemmaContaminatesRow.holds Tryd.pinned (OpenSpec.ofChange stemmaContaminatesSpec)

/-- ITS FALSE NEIGHBOUR: 'it returns false'. Refute it at one input. -/
def stemmaContaminatesWrong : ChangeSpec := { name := "stemmaContaminates", fn := fun _ => fun
  | [d1, d2, d3] => { results := [.lit (.bool false)], args := [d1, d2, d3] }
  | _ => none }
def StemmaContaminatesWrongFalsely : Prop := stemmaContaminatesRow.holds Tryd.pinned (OpenSpec.ofChange stemmaContaminatesWrong)

/-- 'apographlaw36.StemmaRemoves': WHATEVER THE INPUT: true; the input reads as it did. -/
def stemmaRemovesSpec : ChangeSpec := { name := "stemmaRemoves", fn := fun _ => fun
  | [d1, d2] => { results := [.lit (.bool true)], args := [d1, d2] }
  | _ => none }
def stemmaRemovesRow : OpenClaim := { program := "ytpfemholpigdeaadoor", sum := "7ad019d093ffcc14405b4f940f56fdc9d126143861717192e1f9a313bdb0e280", func := "apograph/apographlaw36.StemmaRemoves", spec := "stemmaRemoves", inPlace := ["internal/bytealg.IndexByteString", "internal/bytealg.IndexString", "internal/bytealg.CountString", "internal/abi.NoEscape", "internal/bytealg.MakeNoZero"], unfollowed := true, recurses := true, named := ["internal/bytealg.MaxLen", "unicode/utf8.first", "unicode/utf8.acceptRanges"], apart := false, laid := [("unicode/utf8.acceptRanges", laid_unicode_utf8_acceptRanges), ("unicode/utf8.first", laid_unicode_utf8_first)] }
def StemmaRemovesSaid : Prop := stemmaRemovesRow.holds Tryd.pinned (OpenSpec.ofChange stemmaRemovesSpec)

/-- ITS FALSE NEIGHBOUR: 'it returns false'. Refute it at one input. -/
def stemmaRemovesWrong : ChangeSpec := { name := "stemmaRemoves", fn := fun _ => fun
  | [d1, d2] => { results := [.lit (.bool false)], args := [d1, d2] }
  | _ => none }
def StemmaRemovesWrongFalsely : Prop := stemmaRemovesRow.holds Tryd.pinned (OpenSpec.ofChange stemmaRemovesWrong)

/-- 'apographlaw36.StemmaExtends': WHATEVER THE INPUT: true; the input reads as it did. -/
def stemmaExtendsSpec : ChangeSpec := { name := "stemmaExtends", fn := fun _ => fun
  | [d1, d2, d3] => { results := [.lit (.bool true)], args := [d1, d2, d3] }
  | _ => none }
def stemmaExtendsRow : OpenClaim := { program := "ytpfemholpigdeaadoor", sum := "7ad019d093ffcc14405b4f940f56fdc9d126143861717192e1f9a313bdb0e280", func := "apograph/apographlaw36.StemmaExtends", spec := "stemmaExtends", inPlace := ["internal/bytealg.IndexByteString", "internal/bytealg.IndexString", "internal/bytealg.CountString", "internal/abi.NoEscape", "internal/bytealg.MakeNoZero"], unfollowed := true, recurses := true, named := ["internal/bytealg.MaxLen", "unicode/utf8.first", "unicode/utf8.acceptRanges"], apart := false, laid := [("unicode/utf8.acceptRanges", laid_unicode_utf8_acceptRanges), ("unicode/utf8.first", laid_unicode_utf8_first)] }
def StemmaExtendsSaid : Prop := stemmaExtendsRow.holds Tryd.pinned (OpenSpec.ofChange stemmaExtendsSpec)

/-- ITS FALSE NEIGHBOUR: 'it returns false'. Refute it at one input. -/
def stemmaExtendsWrong : ChangeSpec := { name := "stemmaExtends", fn := fun _ => fun
  | [d1, d2, d3] => { results := [.lit (.bool false)], args := [d1, d2, d3] }
  | _ => none }
def StemmaExtendsWrongFalsely : Prop := stemmaExtendsRow.holds Tryd.pinned (OpenSpec.ofChange stemmaExtendsWrong)

/-- 'apographtop.TopDatesText': WHATEVER THE INPUT: true; the input reads as it did. -/
def topDatesTextSpec : ChangeSpec := { name := "topDatesText", fn := fun _ => fun
  | [d1, d2] => { results := [.lit (.bool true)], args := [d1, d2] }
  | _ => none }
def topDatesTextRow : OpenClaim := { program := "ytpfemholpigdeaadoor", sum := "7ad019d093ffcc14405b4f940f56fdc9d126143861717192e1f9a313bdb0e280", func := "apograph/apographtop.TopDatesText", spec := "topDatesText", inPlace := ["internal/bytealg.IndexByteString", "internal/bytealg.IndexString", "internal/bytealg.CountString", "internal/abi.NoEscape", "internal/bytealg.MakeNoZero"], unfollowed := true, recurses := true, named := ["internal/bytealg.MaxLen", "unicode/utf8.first", "unicode/utf8.acceptRanges"], apart := false, laid := [("unicode/utf8.acceptRanges", laid_unicode_utf8_acceptRanges), ("unicode/utf8.first", laid_unicode_utf8_first)] }
def TopDatesTextSaid : Prop := topDatesTextRow.holds Tryd.pinned (OpenSpec.ofChange topDatesTextSpec)

/-- ITS FALSE NEIGHBOUR: 'it returns false'. Refute it at one input. -/
def topDatesTextWrong : ChangeSpec := { name := "topDatesText", fn := fun _ => fun
  | [d1, d2] => { results := [.lit (.bool false)], args := [d1, d2] }
  | _ => none }
def TopDatesTextWrongFalsely : Prop := topDatesTextRow.holds Tryd.pinned (OpenSpec.ofChange topDatesTextWrong)

/-- 'apographtop.TopDatesRemoved': WHATEVER THE INPUT: true; the input reads as it did. -/
def topDatesRemovedSpec : ChangeSpec := { name := "topDatesRemoved", fn := fun _ => fun
  | [d1, d2, d3] => { results := [.lit (.bool true)], args := [d1, d2, d3] }
  | _ => none }
def topDatesRemovedRow : OpenClaim := { program := "ytpfemholpigdeaadoor", sum := "7ad019d093ffcc14405b4f940f56fdc9d126143861717192e1f9a313bdb0e280", func := "apograph/apographtop.TopDatesRemoved", spec := "topDatesRemoved", inPlace := ["internal/bytealg.IndexByteString", "internal/bytealg.IndexString", "internal/bytealg.CountString"], unfollowed := true, recurses := true, named := ["internal/bytealg.MaxLen", "unicode/utf8.first", "unicode/utf8.acceptRanges"], apart := false, laid := [("unicode/utf8.acceptRanges", laid_unicode_utf8_acceptRanges), ("unicode/utf8.first", laid_unicode_utf8_first)] }
def TopDatesRemovedSaid : Prop := topDatesRemovedRow.holds Tryd.pinned (OpenSpec.ofChange topDatesRemovedSpec)

/-- ITS FALSE NEIGHBOUR: 'it returns false'. Refute it at one input. -/
def topDatesRemovedWrong : ChangeSpec := { name := "topDatesRemoved", fn := fun _ => fun
  | [d1, d2, d3] => { results := [.lit (.bool false)], args := [d1, d2, d3] }
  | _ => none }
def TopDatesRemovedWrongFalsely : Prop := topDatesRemovedRow.holds Tryd.pinned (OpenSpec.ofChange topDatesRemovedWrong)

/- THE SECOND FORM. 'bulk': how many values and letters a reading holds, each counted each time it is reached (what is shared counts as often as it is met; a slice's spare places count too). A statement '..UptoSaid' is the law's where the arguments, and the package variables that the reading takes, are together of bulk at most 1048576: NARROWER than '..Said'. Prove '..Said' where nothing that the law and all that it calls make is longer than what came in: it says more and counts as full. Else prove '..UptoSaid'. A law counts once. -/
mutual
def uptoBulk {H : Type} : DataW H → Nat
  | .lit (.string bytes) => bytes.length + 1
  | .lit _ => 1
  | .nil => 1
  | .ptr d => uptoBulk d + 1
  | .slice elems spare => uptoBulkAll elems + uptoBulkAll spare + 1
  | .agg parts => uptoBulkAll parts + 1
  | .iface _ d => uptoBulk d + 1
  | .map entries => uptoBulkEntries entries + 1
  | .held _ => 1
def uptoBulkAll {H : Type} : List (DataW H) → Nat
  | [] => 0
  | d :: r => uptoBulk d + uptoBulkAll r
def uptoBulkEntries {H : Type} : List (Lit × DataW H) → Nat
  | [] => 0
  | x :: r => uptoBulkEntry x + uptoBulkEntries r
def uptoBulkEntry {H : Type} : Lit × DataW H → Nat
  | (.string bytes, d) => bytes.length + uptoBulk d + 1
  | (_, d) => uptoBulk d + 1
 end
def uptoSmall : (H : Type) → List (DataW H) → Bool := fun _ ds => decide (uptoBulkAll ds ≤ 1048576)
def OpenSpec.upto (s : _root_.Go.ChangeSpec) : _root_.Go.OpenSpec := { _root_.Go.OpenSpec.ofChange s with cond := some uptoSmall }

/-- 'apographlaw36.StemmaBack', WHERE WHAT IT READS IS OF BULK AT MOST 1048576: true; the input reads as it did. -/
def stemmaBackUptoRow : OpenClaim := { program := "ytpfemholpigdeaadoor", sum := "7ad019d093ffcc14405b4f940f56fdc9d126143861717192e1f9a313bdb0e280", func := "apograph/apographlaw36.StemmaBack", spec := "stemmaBack", inPlace := ["internal/bytealg.IndexByteString", "internal/bytealg.IndexString", "internal/bytealg.CountString", "internal/abi.NoEscape", "internal/bytealg.MakeNoZero"], unfollowed := true, recurses := true, named := ["internal/bytealg.MaxLen", "unicode/utf8.first", "unicode/utf8.acceptRanges"], apart := false, laid := [("unicode/utf8.acceptRanges", laid_unicode_utf8_acceptRanges), ("unicode/utf8.first", laid_unicode_utf8_first)], narrowed := true }
def StemmaBackUptoSaid : Prop := stemmaBackUptoRow.holds Tryd.pinned (OpenSpec.upto stemmaBackSpec)

/-- 'apographlaw36.StemmaRoots', WHERE WHAT IT READS IS OF BULK AT MOST 1048576: true; the input reads as it did. -/
def stemmaRootsUptoRow : OpenClaim := { program := "ytpfemholpigdeaadoor", sum := "7ad019d093ffcc14405b4f940f56fdc9d126143861717192e1f9a313bdb0e280", func := "apograph/apographlaw36.StemmaRoots", spec := "stemmaRoots", inPlace := ["internal/bytealg.IndexByteString", "internal/bytealg.IndexString", "internal/bytealg.CountString", "internal/abi.NoEscape", "internal/bytealg.MakeNoZero"], unfollowed := true, recurses := true, named := ["internal/bytealg.MaxLen", "unicode/utf8.first", "unicode/utf8.acceptRanges"], apart := false, laid := [("unicode/utf8.acceptRanges", laid_unicode_utf8_acceptRanges), ("unicode/utf8.first", laid_unicode_utf8_first)], narrowed := true }
def StemmaRootsUptoSaid : Prop := stemmaRootsUptoRow.holds Tryd.pinned (OpenSpec.upto stemmaRootsSpec)

/-- 'apographlaw36.StemmaContaminates', WHERE WHAT IT READS IS OF BULK AT MOST 1048576: true; the input reads as it did. -/
def stemmaContaminatesUptoRow : OpenClaim := { program := "ytpfemholpigdeaadoor", sum := "7ad019d093ffcc14405b4f940f56fdc9d126143861717192e1f9a313bdb0e280", func := "apograph/apographlaw36.StemmaContaminates", spec := "stemmaContaminates", inPlace := ["internal/bytealg.IndexByteString", "internal/bytealg.IndexString", "internal/bytealg.CountString", "internal/abi.NoEscape", "internal/bytealg.MakeNoZero"], unfollowed := true, recurses := true, named := ["internal/bytealg.MaxLen", "unicode/utf8.first", "unicode/utf8.acceptRanges"], apart := false, laid := [("unicode/utf8.acceptRanges", laid_unicode_utf8_acceptRanges), ("unicode/utf8.first", laid_unicode_utf8_first)], narrowed := true }
def StemmaContaminatesUptoSaid : Prop := stemmaContaminatesUptoRow.holds Tryd.pinned (OpenSpec.upto stemmaContaminatesSpec)

/-- 'apographlaw36.StemmaRemoves', WHERE WHAT IT READS IS OF BULK AT MOST 1048576: true; the input reads as it did. -/
def stemmaRemovesUptoRow : OpenClaim := { program := "ytpfemholpigdeaadoor", sum := "7ad019d093ffcc14405b4f940f56fdc9d126143861717192e1f9a313bdb0e280", func := "apograph/apographlaw36.StemmaRemoves", spec := "stemmaRemoves", inPlace := ["internal/bytealg.IndexByteString", "internal/bytealg.IndexString", "internal/bytealg.CountString", "internal/abi.NoEscape", "internal/bytealg.MakeNoZero"], unfollowed := true, recurses := true, named := ["internal/bytealg.MaxLen", "unicode/utf8.first", "unicode/utf8.acceptRanges"], apart := false, laid := [("unicode/utf8.acceptRanges", laid_unicode_utf8_acceptRanges), ("unicode/utf8.first", laid_unicode_utf8_first)], narrowed := true }
def StemmaRemovesUptoSaid : Prop := stemmaRemovesUptoRow.holds Tryd.pinned (OpenSpec.upto stemmaRemovesSpec)

/-- 'apographlaw36.StemmaExtends', WHERE WHAT IT READS IS OF BULK AT MOST 1048576: true; the input reads as it did. -/
def stemmaExtendsUptoRow : OpenClaim := { program := "ytpfemholpigdeaadoor", sum := "7ad019d093ffcc14405b4f940f56fdc9d126143861717192e1f9a313bdb0e280", func := "apograph/apographlaw36.StemmaExtends", spec := "stemmaExtends", inPlace := ["internal/bytealg.IndexByteString", "internal/bytealg.IndexString", "internal/bytealg.CountString", "internal/abi.NoEscape", "internal/bytealg.MakeNoZero"], unfollowed := true, recurses := true, named := ["internal/bytealg.MaxLen", "unicode/utf8.first", "unicode/utf8.acceptRanges"], apart := false, laid := [("unicode/utf8.acceptRanges", laid_unicode_utf8_acceptRanges), ("unicode/utf8.first", laid_unicode_utf8_first)], narrowed := true }
def StemmaExtendsUptoSaid : Prop := stemmaExtendsUptoRow.holds Tryd.pinned (OpenSpec.upto stemmaExtendsSpec)

/-- 'apographtop.TopDatesText', WHERE WHAT IT READS IS OF BULK AT MOST 1048576: true; the input reads as it did. -/
def topDatesTextUptoRow : OpenClaim := { program := "ytpfemholpigdeaadoor", sum := "7ad019d093ffcc14405b4f940f56fdc9d126143861717192e1f9a313bdb0e280", func := "apograph/apographtop.TopDatesText", spec := "topDatesText", inPlace := ["internal/bytealg.IndexByteString", "internal/bytealg.IndexString", "internal/bytealg.CountString", "internal/abi.NoEscape", "internal/bytealg.MakeNoZero"], unfollowed := true, recurses := true, named := ["internal/bytealg.MaxLen", "unicode/utf8.first", "unicode/utf8.acceptRanges"], apart := false, laid := [("unicode/utf8.acceptRanges", laid_unicode_utf8_acceptRanges), ("unicode/utf8.first", laid_unicode_utf8_first)], narrowed := true }
def TopDatesTextUptoSaid : Prop := topDatesTextUptoRow.holds Tryd.pinned (OpenSpec.upto topDatesTextSpec)

/-- 'apographtop.TopDatesRemoved', WHERE WHAT IT READS IS OF BULK AT MOST 1048576: true; the input reads as it did. -/
def topDatesRemovedUptoRow : OpenClaim := { program := "ytpfemholpigdeaadoor", sum := "7ad019d093ffcc14405b4f940f56fdc9d126143861717192e1f9a313bdb0e280", func := "apograph/apographtop.TopDatesRemoved", spec := "topDatesRemoved", inPlace := ["internal/bytealg.IndexByteString", "internal/bytealg.IndexString", "internal/bytealg.CountString"], unfollowed := true, recurses := true, named := ["internal/bytealg.MaxLen", "unicode/utf8.first", "unicode/utf8.acceptRanges"], apart := false, laid := [("unicode/utf8.acceptRanges", laid_unicode_utf8_acceptRanges), ("unicode/utf8.first", laid_unicode_utf8_first)], narrowed := true }
def TopDatesRemovedUptoSaid : Prop := topDatesRemovedUptoRow.holds Tryd.pinned (OpenSpec.upto topDatesRemovedSpec)

end Rows
end Go.Proofs.YtpfemholpigdeaaDoor
