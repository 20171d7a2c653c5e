/-
  DERIVED. GIVEN WITH THE SEED: THE PROGRAM's TIES (one call each: nine closed facts by the kernel) AND EACH ROW's TIE, after the 31st guide's Derived/Test/Toyas{Tie, Card}.lean. No idea stands in it: it is a product of the set-up. Laid BY PROGRAM, IN A SANDBOX (cutbox-door.mjs). By AI agents, Wed Nov 11 2026. No macro, syntax, notation, axiom, sorry.
-/
import Derived.Test.YthnlnffmmioapaaDoorRows
import Derived.LaidByTextLater
import Derived.SevenTiedAt
import Derived.LaidSub
import Derived.LaidOnce
namespace Go.Proofs.YthnlnffmmioapaaDoor
open Go
set_option maxRecDepth 100000
theorem seatTie1 : Tryd.prog.laidByTextLater [("math/bits.deBruijn32tab", Rows.laid_math_bits_deBruijn32tab), ("math/bits.deBruijn64tab", Rows.laid_math_bits_deBruijn64tab), ("internal/strconv.uint64pow10", Rows.laid_internal_strconv_uint64pow10), ("apograph/rulelang.kinds", Rows.laid_apograph_rulelang_kinds), ("apograph/classify.kinds", Rows.laid_apograph_classify_kinds)] [.data, .data, .data, .widerDeep, .funcs] true :=
  Program.laidByTextLater_by_one 47 8 71 (by kernel_rfl) (by kernel_rfl) (by kernel_rfl) (by kernel_rfl) (by kernel_rfl) (by kernel_rfl) (fun _ _ => by kernel_rfl)
theorem noOwnUnsafe : Tryd.pinned.checked.prog.headLifts.contains "ownunsafe" = false := by kernel_rfl
theorem tie : Tryd.prog.laidByTextLater [("math/bits.deBruijn32tab", Rows.laid_math_bits_deBruijn32tab), ("math/bits.deBruijn64tab", Rows.laid_math_bits_deBruijn64tab), ("internal/strconv.uint64pow10", Rows.laid_internal_strconv_uint64pow10), ("apograph/rulelang.kinds", Rows.laid_apograph_rulelang_kinds), ("apograph/classify.kinds", Rows.laid_apograph_classify_kinds)] [.data, .data, .data, .widerDeep, .funcs] true :=
  Program.laidByTextLater.sub seatTie1 ["math/bits.deBruijn32tab", "math/bits.deBruijn64tab", "internal/strconv.uint64pow10", "apograph/rulelang.kinds", "apograph/classify.kinds"] (by kernel_rfl) (by kernel_rfl)
theorem classifyLogic_row_tie : Rows.classifyLogicRow.laidByTextAt .later Tryd.pinned [.data, .data, .data, .widerDeep, .funcs] true :=
  OpenClaim.laidByTextAt_later rfl rfl tie noOwnUnsafe
theorem classifyKinds_row_tie : Rows.classifyKindsRow.laidByTextAt .later Tryd.pinned [.data, .data, .data, .widerDeep, .funcs] true :=
  OpenClaim.laidByTextAt_later rfl rfl tie noOwnUnsafe
theorem classifySources_row_tie : Rows.classifySourcesRow.laidByTextAt .later Tryd.pinned [.data, .data, .data, .widerDeep, .funcs] true :=
  OpenClaim.laidByTextAt_later rfl rfl tie noOwnUnsafe
theorem classifyImplied_row_tie : Rows.classifyImpliedRow.laidByTextAt .later Tryd.pinned [.data, .data, .data, .widerDeep, .funcs] true :=
  OpenClaim.laidByTextAt_later rfl rfl tie noOwnUnsafe
theorem classifyUnits_row_tie : Rows.classifyUnitsRow.laidByTextAt .later Tryd.pinned [.data, .data, .data, .widerDeep, .funcs] true :=
  OpenClaim.laidByTextAt_later rfl rfl tie noOwnUnsafe
theorem classifyFirst_row_tie : Rows.classifyFirstRow.laidByTextAt .later Tryd.pinned [.data, .data, .data, .widerDeep, .funcs] true :=
  OpenClaim.laidByTextAt_later rfl rfl tie noOwnUnsafe
theorem classifyUnused_row_tie : Rows.classifyUnusedRow.laidByTextAt .later Tryd.pinned [.data, .data, .data, .widerDeep, .funcs] true :=
  OpenClaim.laidByTextAt_later rfl rfl tie noOwnUnsafe
theorem classifyLogicUpto_row_tie : Rows.classifyLogicUptoRow.laidByTextAt .later Tryd.pinned [.data, .data, .data, .widerDeep, .funcs] true :=
  OpenClaim.laidByTextAt_later rfl rfl tie noOwnUnsafe
theorem classifyKindsUpto_row_tie : Rows.classifyKindsUptoRow.laidByTextAt .later Tryd.pinned [.data, .data, .data, .widerDeep, .funcs] true :=
  OpenClaim.laidByTextAt_later rfl rfl tie noOwnUnsafe
theorem classifySourcesUpto_row_tie : Rows.classifySourcesUptoRow.laidByTextAt .later Tryd.pinned [.data, .data, .data, .widerDeep, .funcs] true :=
  OpenClaim.laidByTextAt_later rfl rfl tie noOwnUnsafe
theorem classifyImpliedUpto_row_tie : Rows.classifyImpliedUptoRow.laidByTextAt .later Tryd.pinned [.data, .data, .data, .widerDeep, .funcs] true :=
  OpenClaim.laidByTextAt_later rfl rfl tie noOwnUnsafe
theorem classifyUnitsUpto_row_tie : Rows.classifyUnitsUptoRow.laidByTextAt .later Tryd.pinned [.data, .data, .data, .widerDeep, .funcs] true :=
  OpenClaim.laidByTextAt_later rfl rfl tie noOwnUnsafe
theorem classifyFirstUpto_row_tie : Rows.classifyFirstUptoRow.laidByTextAt .later Tryd.pinned [.data, .data, .data, .widerDeep, .funcs] true :=
  OpenClaim.laidByTextAt_later rfl rfl tie noOwnUnsafe
theorem classifyUnusedUpto_row_tie : Rows.classifyUnusedUptoRow.laidByTextAt .later Tryd.pinned [.data, .data, .data, .widerDeep, .funcs] true :=
  OpenClaim.laidByTextAt_later rfl rfl tie noOwnUnsafe
end Go.Proofs.YthnlnffmmioapaaDoor
