/-
  DERIVED. GIVEN WITH THE SEED: THE PROGRAM's TIES (one call each: nine closed facts by the kernel) AND EACH ROW's TIE, after the 31st guide's Derived/Test/Toyas{Tie, Card}.lean. No idea stands in it: it is a product of the set-up. Laid BY PROGRAM, IN A SANDBOX (cutbox-door.mjs). By AI agents, Wed Nov 11 2026. No macro, syntax, notation, axiom, sorry.
-/
import Derived.Test.YtgehpjjpeddomaaGreatDoorRows
import Derived.LaidByTextLater
import Derived.SevenTiedAt
import Derived.LaidSub
import Derived.LaidOnce
namespace Go.Proofs.YtgehpjjpeddomaaGreatDoor
open Go
set_option maxRecDepth 100000
theorem seatTie1 : Tryz.prog.laidByTextLater [("unicode.White_Space", Rows.laid_unicode_White_Space), ("strings.asciiSpace", Rows.laid_strings_asciiSpace), ("bodkin/ops.more", Rows.laid_bodkin_ops_more)] [.listed, .data, .data] true :=
  Program.laidByTextLater_by_one 38 8 257 (by kernel_rfl) (by kernel_rfl) (by kernel_rfl) (by kernel_rfl) (by kernel_rfl) (by kernel_rfl) (fun _ _ => by kernel_rfl)
theorem noOwnUnsafe : Tryz.pinned.checked.prog.headLifts.contains "ownunsafe" = false := by kernel_rfl
theorem tie : Tryz.prog.laidByTextLater [("unicode.White_Space", Rows.laid_unicode_White_Space), ("strings.asciiSpace", Rows.laid_strings_asciiSpace), ("bodkin/ops.more", Rows.laid_bodkin_ops_more)] [.listed, .data, .data] true :=
  Program.laidByTextLater.sub seatTie1 ["unicode.White_Space", "strings.asciiSpace", "bodkin/ops.more"] (by kernel_rfl) (by kernel_rfl)
theorem encodeModule_row_tie : Rows.encodeModuleRow.laidByTextAt .later Tryz.pinned [.listed, .data, .data] true :=
  OpenClaim.laidByTextAt_later rfl rfl tie noOwnUnsafe
theorem encodeCode_row_tie : Rows.encodeCodeRow.laidByTextAt .later Tryz.pinned [.listed, .data, .data] true :=
  OpenClaim.laidByTextAt_later rfl rfl tie noOwnUnsafe
theorem encodeApart_row_tie : Rows.encodeApartRow.laidByTextAt .later Tryz.pinned [.listed, .data, .data] true :=
  OpenClaim.laidByTextAt_later rfl rfl tie noOwnUnsafe
theorem encodeDeep_row_tie : Rows.encodeDeepRow.laidByTextAt .later Tryz.pinned [.listed, .data, .data] true :=
  OpenClaim.laidByTextAt_later rfl rfl tie noOwnUnsafe
theorem encodeInstr_row_tie : Rows.encodeInstrRow.laidByTextAt .later Tryz.pinned [.listed, .data, .data] true :=
  OpenClaim.laidByTextAt_later rfl rfl tie noOwnUnsafe
theorem encodeParts_row_tie : Rows.encodePartsRow.laidByTextAt .later Tryz.pinned [.listed, .data, .data] true :=
  OpenClaim.laidByTextAt_later rfl rfl tie noOwnUnsafe
theorem decodeBack_row_tie : Rows.decodeBackRow.laidByTextAt .later Tryz.pinned [.listed, .data, .data] true :=
  OpenClaim.laidByTextAt_later rfl rfl tie noOwnUnsafe
theorem decodeAgain_row_tie : Rows.decodeAgainRow.laidByTextAt .later Tryz.pinned [.listed, .data, .data] true :=
  OpenClaim.laidByTextAt_later rfl rfl tie noOwnUnsafe
theorem decodeDeep_row_tie : Rows.decodeDeepRow.laidByTextAt .later Tryz.pinned [.listed, .data, .data] true :=
  OpenClaim.laidByTextAt_later rfl rfl tie noOwnUnsafe
theorem decodeInstr_row_tie : Rows.decodeInstrRow.laidByTextAt .later Tryz.pinned [.listed, .data, .data] true :=
  OpenClaim.laidByTextAt_later rfl rfl tie noOwnUnsafe
theorem decodeConst_row_tie : Rows.decodeConstRow.laidByTextAt .later Tryz.pinned [.listed, .data, .data] true :=
  OpenClaim.laidByTextAt_later rfl rfl tie noOwnUnsafe
theorem encodeModuleUpto_row_tie : Rows.encodeModuleUptoRow.laidByTextAt .later Tryz.pinned [.listed, .data, .data] true :=
  OpenClaim.laidByTextAt_later rfl rfl tie noOwnUnsafe
theorem encodeCodeUpto_row_tie : Rows.encodeCodeUptoRow.laidByTextAt .later Tryz.pinned [.listed, .data, .data] true :=
  OpenClaim.laidByTextAt_later rfl rfl tie noOwnUnsafe
theorem encodeApartUpto_row_tie : Rows.encodeApartUptoRow.laidByTextAt .later Tryz.pinned [.listed, .data, .data] true :=
  OpenClaim.laidByTextAt_later rfl rfl tie noOwnUnsafe
theorem encodeDeepUpto_row_tie : Rows.encodeDeepUptoRow.laidByTextAt .later Tryz.pinned [.listed, .data, .data] true :=
  OpenClaim.laidByTextAt_later rfl rfl tie noOwnUnsafe
theorem encodeInstrUpto_row_tie : Rows.encodeInstrUptoRow.laidByTextAt .later Tryz.pinned [.listed, .data, .data] true :=
  OpenClaim.laidByTextAt_later rfl rfl tie noOwnUnsafe
theorem encodePartsUpto_row_tie : Rows.encodePartsUptoRow.laidByTextAt .later Tryz.pinned [.listed, .data, .data] true :=
  OpenClaim.laidByTextAt_later rfl rfl tie noOwnUnsafe
theorem decodeBackUpto_row_tie : Rows.decodeBackUptoRow.laidByTextAt .later Tryz.pinned [.listed, .data, .data] true :=
  OpenClaim.laidByTextAt_later rfl rfl tie noOwnUnsafe
theorem decodeAgainUpto_row_tie : Rows.decodeAgainUptoRow.laidByTextAt .later Tryz.pinned [.listed, .data, .data] true :=
  OpenClaim.laidByTextAt_later rfl rfl tie noOwnUnsafe
theorem decodeDeepUpto_row_tie : Rows.decodeDeepUptoRow.laidByTextAt .later Tryz.pinned [.listed, .data, .data] true :=
  OpenClaim.laidByTextAt_later rfl rfl tie noOwnUnsafe
theorem decodeInstrUpto_row_tie : Rows.decodeInstrUptoRow.laidByTextAt .later Tryz.pinned [.listed, .data, .data] true :=
  OpenClaim.laidByTextAt_later rfl rfl tie noOwnUnsafe
theorem decodeConstUpto_row_tie : Rows.decodeConstUptoRow.laidByTextAt .later Tryz.pinned [.listed, .data, .data] true :=
  OpenClaim.laidByTextAt_later rfl rfl tie noOwnUnsafe
end Go.Proofs.YtgehpjjpeddomaaGreatDoor
