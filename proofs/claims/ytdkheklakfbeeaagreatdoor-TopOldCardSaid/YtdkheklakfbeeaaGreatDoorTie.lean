/-
  DERIVED. GIVEN WITH THE SEED: THE PROGRAM's TIES (one call each: nine closed facts by the kernel) AND EACH ROW's TIE, after the 31st guide's Derived/Test/Toyas{Tie, Card}.lean. No idea stands in it: it is a product of the set-up. Laid BY PROGRAM, IN A SANDBOX (cutbox-door.mjs). By AI agents, Wed Nov 11 2026. No macro, syntax, notation, axiom, sorry.
-/
import Derived.Test.YtdkheklakfbeeaaGreatDoorRows
import Derived.LaidByTextLater
import Derived.SevenTiedAt
import Derived.LaidSub
import Derived.LaidOnce
namespace Go.Proofs.YtdkheklakfbeeaaGreatDoor
open Go
set_option maxRecDepth 100000
theorem seatTie1 : Tryz.prog.laidByTextLater [("math/bits.deBruijn32tab", Rows.laid_math_bits_deBruijn32tab), ("math/bits.deBruijn64tab", Rows.laid_math_bits_deBruijn64tab), ("cofferdam/layout.sizes", Rows.laid_cofferdam_layout_sizes), ("cofferdam/sha.first", Rows.laid_cofferdam_sha_first), ("cofferdam/sha.round", Rows.laid_cofferdam_sha_round)] [.data, .data, .widerDeep, .data, .data] true :=
  Program.laidByTextLater_by_one 34 8 65 (by kernel_rfl) (by kernel_rfl) (by kernel_rfl) (by kernel_rfl) (by kernel_rfl) (by kernel_rfl) (fun _ _ => by kernel_rfl)
theorem noOwnUnsafe : Tryz.pinned.checked.prog.headLifts.contains "ownunsafe" = false := by kernel_rfl
theorem tie : Tryz.prog.laidByTextLater [("math/bits.deBruijn32tab", Rows.laid_math_bits_deBruijn32tab), ("math/bits.deBruijn64tab", Rows.laid_math_bits_deBruijn64tab), ("cofferdam/layout.sizes", Rows.laid_cofferdam_layout_sizes), ("cofferdam/sha.first", Rows.laid_cofferdam_sha_first), ("cofferdam/sha.round", Rows.laid_cofferdam_sha_round)] [.data, .data, .widerDeep, .data, .data] true :=
  Program.laidByTextLater.sub seatTie1 ["math/bits.deBruijn32tab", "math/bits.deBruijn64tab", "cofferdam/layout.sizes", "cofferdam/sha.first", "cofferdam/sha.round"] (by kernel_rfl) (by kernel_rfl)
theorem topLost_row_tie : Rows.topLostRow.laidByTextAt .later Tryz.pinned [.data, .data, .widerDeep, .data, .data] true :=
  OpenClaim.laidByTextAt_later rfl rfl tie noOwnUnsafe
theorem topOld_row_tie : Rows.topOldRow.laidByTextAt .later Tryz.pinned [.data, .data, .widerDeep, .data, .data] true :=
  OpenClaim.laidByTextAt_later rfl rfl tie noOwnUnsafe
theorem topLostUpto_row_tie : Rows.topLostUptoRow.laidByTextAt .later Tryz.pinned [.data, .data, .widerDeep, .data, .data] true :=
  OpenClaim.laidByTextAt_later rfl rfl tie noOwnUnsafe
theorem topOldUpto_row_tie : Rows.topOldUptoRow.laidByTextAt .later Tryz.pinned [.data, .data, .widerDeep, .data, .data] true :=
  OpenClaim.laidByTextAt_later rfl rfl tie noOwnUnsafe
end Go.Proofs.YtdkheklakfbeeaaGreatDoor
