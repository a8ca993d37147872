/-
  DERIVED. GIVEN WITH THE SEED: THE PROGRAM's TIES (one call each: nine closed facts by the kernel) AND EACH ROW's TIE, after the 31st guide's Derived/Test/Toyas{Tie, Card}.lean. No idea stands in it: it is a product of the set-up. Laid BY PROGRAM, IN A SANDBOX (cutbox-door.mjs). By AI agents, Wed Nov 11 2026. No macro, syntax, notation, axiom, sorry.
-/
import Derived.Test.YtbabbianbhcjiaaGreatDoorRows
import Derived.LaidByTextLater
import Derived.SevenTiedAt
import Derived.LaidSub
import Derived.LaidOnce
namespace Go.Proofs.YtbabbianbhcjiaaGreatDoor
open Go
set_option maxRecDepth 100000
theorem seatTie1 : Tryz.prog.laidByTextLater [("unicode.White_Space", Rows.laid_unicode_White_Space), ("strings.asciiSpace", Rows.laid_strings_asciiSpace), ("bodkin/ops.more", Rows.laid_bodkin_ops_more)] [.listed, .data, .data] true :=
  Program.laidByTextLater_by_one 38 8 257 (by kernel_rfl) (by kernel_rfl) (by kernel_rfl) (by kernel_rfl) (by kernel_rfl) (by kernel_rfl) (fun _ _ => by kernel_rfl)
theorem noOwnUnsafe : Tryz.pinned.checked.prog.headLifts.contains "ownunsafe" = false := by kernel_rfl
theorem tie : Tryz.prog.laidByTextLater [("unicode.White_Space", Rows.laid_unicode_White_Space), ("strings.asciiSpace", Rows.laid_strings_asciiSpace), ("bodkin/ops.more", Rows.laid_bodkin_ops_more)] [.listed, .data, .data] true :=
  Program.laidByTextLater.sub seatTie1 ["unicode.White_Space", "strings.asciiSpace", "bodkin/ops.more"] (by kernel_rfl) (by kernel_rfl)
theorem shapeMay_row_tie : Rows.shapeMayRow.laidByTextAt .later Tryz.pinned [.listed, .data, .data] true :=
  OpenClaim.laidByTextAt_later rfl rfl tie noOwnUnsafe
theorem shapeOne_row_tie : Rows.shapeOneRow.laidByTextAt .later Tryz.pinned [.listed, .data, .data] true :=
  OpenClaim.laidByTextAt_later rfl rfl tie noOwnUnsafe
theorem shapeNest_row_tie : Rows.shapeNestRow.laidByTextAt .later Tryz.pinned [.listed, .data, .data] true :=
  OpenClaim.laidByTextAt_later rfl rfl tie noOwnUnsafe
theorem shapeSame_row_tie : Rows.shapeSameRow.laidByTextAt .later Tryz.pinned [.listed, .data, .data] true :=
  OpenClaim.laidByTextAt_later rfl rfl tie noOwnUnsafe
theorem shapeOwn_row_tie : Rows.shapeOwnRow.laidByTextAt .later Tryz.pinned [.listed, .data, .data] true :=
  OpenClaim.laidByTextAt_later rfl rfl tie noOwnUnsafe
theorem shapeInside_row_tie : Rows.shapeInsideRow.laidByTextAt .later Tryz.pinned [.listed, .data, .data] true :=
  OpenClaim.laidByTextAt_later rfl rfl tie noOwnUnsafe
theorem shapeMayUpto_row_tie : Rows.shapeMayUptoRow.laidByTextAt .later Tryz.pinned [.listed, .data, .data] true :=
  OpenClaim.laidByTextAt_later rfl rfl tie noOwnUnsafe
theorem shapeOneUpto_row_tie : Rows.shapeOneUptoRow.laidByTextAt .later Tryz.pinned [.listed, .data, .data] true :=
  OpenClaim.laidByTextAt_later rfl rfl tie noOwnUnsafe
theorem shapeNestUpto_row_tie : Rows.shapeNestUptoRow.laidByTextAt .later Tryz.pinned [.listed, .data, .data] true :=
  OpenClaim.laidByTextAt_later rfl rfl tie noOwnUnsafe
theorem shapeSameUpto_row_tie : Rows.shapeSameUptoRow.laidByTextAt .later Tryz.pinned [.listed, .data, .data] true :=
  OpenClaim.laidByTextAt_later rfl rfl tie noOwnUnsafe
theorem shapeOwnUpto_row_tie : Rows.shapeOwnUptoRow.laidByTextAt .later Tryz.pinned [.listed, .data, .data] true :=
  OpenClaim.laidByTextAt_later rfl rfl tie noOwnUnsafe
theorem shapeInsideUpto_row_tie : Rows.shapeInsideUptoRow.laidByTextAt .later Tryz.pinned [.listed, .data, .data] true :=
  OpenClaim.laidByTextAt_later rfl rfl tie noOwnUnsafe
end Go.Proofs.YtbabbianbhcjiaaGreatDoor
