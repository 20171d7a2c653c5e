/-
  DERIVED. GIVEN WITH THE SEED: THE PROGRAM's TIES (one call each: nine closed facts by the kernel) AND EACH ROW's TIE, after the 31st guide's Derived/Test/Toyas{Tie, Card}.lean. No idea stands in it: it is a product of the set-up. Laid BY PROGRAM, IN A SANDBOX (cutbox-door.mjs). By AI agents, Wed Nov 11 2026. No macro, syntax, notation, axiom, sorry.
-/
import Derived.Test.YthnlnffmmioapaaGreatDoorRows
import Derived.LaidByTextLater
import Derived.SevenTiedAt
import Derived.LaidSub
import Derived.LaidOnce
namespace Go.Proofs.YthnlnffmmioapaaGreatDoor
open Go
set_option maxRecDepth 100000
theorem seatTie1 : Tryz.prog.laidByTextLater [("math/bits.deBruijn32tab", Rows.laid_math_bits_deBruijn32tab), ("math/bits.deBruijn64tab", Rows.laid_math_bits_deBruijn64tab), ("internal/strconv.uint64pow10", Rows.laid_internal_strconv_uint64pow10), ("apograph/rulelang.kinds", Rows.laid_apograph_rulelang_kinds), ("apograph/classify.kinds", Rows.laid_apograph_classify_kinds)] [.data, .data, .data, .widerDeep, .funcs] true :=
  Program.laidByTextLater_by_one 47 8 71 (by kernel_rfl) (by kernel_rfl) (by kernel_rfl) (by kernel_rfl) (by kernel_rfl) (by kernel_rfl) (fun _ _ => by kernel_rfl)
theorem noOwnUnsafe : Tryz.pinned.checked.prog.headLifts.contains "ownunsafe" = false := by kernel_rfl
theorem tie : Tryz.prog.laidByTextLater [("math/bits.deBruijn32tab", Rows.laid_math_bits_deBruijn32tab), ("math/bits.deBruijn64tab", Rows.laid_math_bits_deBruijn64tab), ("internal/strconv.uint64pow10", Rows.laid_internal_strconv_uint64pow10), ("apograph/rulelang.kinds", Rows.laid_apograph_rulelang_kinds), ("apograph/classify.kinds", Rows.laid_apograph_classify_kinds)] [.data, .data, .data, .widerDeep, .funcs] true :=
  Program.laidByTextLater.sub seatTie1 ["math/bits.deBruijn32tab", "math/bits.deBruijn64tab", "internal/strconv.uint64pow10", "apograph/rulelang.kinds", "apograph/classify.kinds"] (by kernel_rfl) (by kernel_rfl)
theorem classifyHolds_row_tie : Rows.classifyHoldsRow.laidByTextAt .later Tryz.pinned [.data, .data, .data, .widerDeep, .funcs] true :=
  OpenClaim.laidByTextAt_later rfl rfl tie noOwnUnsafe
theorem classifyClasses_row_tie : Rows.classifyClassesRow.laidByTextAt .later Tryz.pinned [.data, .data, .data, .widerDeep, .funcs] true :=
  OpenClaim.laidByTextAt_later rfl rfl tie noOwnUnsafe
theorem classifyHoldsUpto_row_tie : Rows.classifyHoldsUptoRow.laidByTextAt .later Tryz.pinned [.data, .data, .data, .widerDeep, .funcs] true :=
  OpenClaim.laidByTextAt_later rfl rfl tie noOwnUnsafe
theorem classifyClassesUpto_row_tie : Rows.classifyClassesUptoRow.laidByTextAt .later Tryz.pinned [.data, .data, .data, .widerDeep, .funcs] true :=
  OpenClaim.laidByTextAt_later rfl rfl tie noOwnUnsafe
end Go.Proofs.YthnlnffmmioapaaGreatDoor
