/-
  DERIVED. GIVEN WITH THE SEED: THE PROGRAM's TIES (one call each: nine closed facts by the kernel) AND EACH ROW's TIE, after the 31st guide's Derived/Test/Toyas{Tie, Card}.lean. No idea stands in it: it is a product of the set-up. Laid BY PROGRAM, IN A SANDBOX (cutbox-door.mjs). By AI agents, Wed Nov 11 2026. No macro, syntax, notation, axiom, sorry.
-/
import Derived.Test.YthabegpfnfbmaaaGreatDoorRows
import Derived.LaidByTextLater
import Derived.SevenTiedAt
import Derived.LaidSub
import Derived.LaidOnce
namespace Go.Proofs.YthabegpfnfbmaaaGreatDoor
open Go
set_option maxRecDepth 100000
theorem seatTie1 : Tryz.prog.laidByTextLater [("math/bits.deBruijn64tab", Rows.laid_math_bits_deBruijn64tab), ("paternoster/api.ErrEnd", Rows.laid_paternoster_api_ErrEnd), ("paternoster/api.ErrShape", Rows.laid_paternoster_api_ErrShape), ("paternoster/api.ErrRange", Rows.laid_paternoster_api_ErrRange), ("paternoster/api.ErrMany", Rows.laid_paternoster_api_ErrMany), ("paternoster/api.ErrPower", Rows.laid_paternoster_api_ErrPower), ("paternoster/api.ErrNone", Rows.laid_paternoster_api_ErrNone), ("paternoster/api.ErrKind", Rows.laid_paternoster_api_ErrKind), ("paternoster/api.ErrOrder", Rows.laid_paternoster_api_ErrOrder), ("paternoster/api.ErrDoor", Rows.laid_paternoster_api_ErrDoor), ("paternoster/api.ErrFloor", Rows.laid_paternoster_api_ErrFloor), ("paternoster/api.ErrTwice", Rows.laid_paternoster_api_ErrTwice), ("paternoster/api.ErrWord", Rows.laid_paternoster_api_ErrWord), ("paternoster/api.ErrNumber", Rows.laid_paternoster_api_ErrNumber)] [.data, .sentinel, .sentinel, .sentinel, .sentinel, .sentinel, .sentinel, .sentinel, .sentinel, .sentinel, .sentinel, .sentinel, .sentinel, .sentinel] true :=
  Program.laidByTextLater_by_one 261 8 65 (by kernel_rfl) (by kernel_rfl) (by kernel_rfl) (by kernel_rfl) (by kernel_rfl) (by kernel_rfl) (fun _ _ => by kernel_rfl)
theorem noOwnUnsafe : Tryz.pinned.checked.prog.headLifts.contains "ownunsafe" = false := by kernel_rfl
theorem tie : Tryz.prog.laidByTextLater [("math/bits.deBruijn64tab", Rows.laid_math_bits_deBruijn64tab), ("paternoster/api.ErrRange", Rows.laid_paternoster_api_ErrRange), ("paternoster/api.ErrMany", Rows.laid_paternoster_api_ErrMany), ("paternoster/api.ErrPower", Rows.laid_paternoster_api_ErrPower), ("paternoster/api.ErrNone", Rows.laid_paternoster_api_ErrNone), ("paternoster/api.ErrKind", Rows.laid_paternoster_api_ErrKind), ("paternoster/api.ErrOrder", Rows.laid_paternoster_api_ErrOrder), ("paternoster/api.ErrTwice", Rows.laid_paternoster_api_ErrTwice)] [.data, .sentinel, .sentinel, .sentinel, .sentinel, .sentinel, .sentinel, .sentinel] true :=
  Program.laidByTextLater.sub seatTie1 ["math/bits.deBruijn64tab", "paternoster/api.ErrRange", "paternoster/api.ErrMany", "paternoster/api.ErrPower", "paternoster/api.ErrNone", "paternoster/api.ErrKind", "paternoster/api.ErrOrder", "paternoster/api.ErrTwice"] (by kernel_rfl) (by kernel_rfl)
theorem nodeBeats_row_tie : Rows.nodeBeatsRow.laidByTextAt .later Tryz.pinned [.data, .sentinel, .sentinel, .sentinel, .sentinel, .sentinel, .sentinel, .sentinel] true :=
  OpenClaim.laidByTextAt_later rfl rfl tie noOwnUnsafe
theorem nodeAlone_row_tie : Rows.nodeAloneRow.laidByTextAt .later Tryz.pinned [.data, .sentinel, .sentinel, .sentinel, .sentinel, .sentinel, .sentinel, .sentinel] true :=
  OpenClaim.laidByTextAt_later rfl rfl tie noOwnUnsafe
theorem nodeTokens_row_tie : Rows.nodeTokensRow.laidByTextAt .later Tryz.pinned [.data, .sentinel, .sentinel, .sentinel, .sentinel, .sentinel, .sentinel, .sentinel] true :=
  OpenClaim.laidByTextAt_later rfl rfl tie noOwnUnsafe
theorem tie2 : Tryz.prog.laidByTextLater [("math/bits.deBruijn64tab", Rows.laid_math_bits_deBruijn64tab), ("paternoster/api.ErrEnd", Rows.laid_paternoster_api_ErrEnd), ("paternoster/api.ErrShape", Rows.laid_paternoster_api_ErrShape), ("paternoster/api.ErrRange", Rows.laid_paternoster_api_ErrRange), ("paternoster/api.ErrMany", Rows.laid_paternoster_api_ErrMany), ("paternoster/api.ErrPower", Rows.laid_paternoster_api_ErrPower), ("paternoster/api.ErrNone", Rows.laid_paternoster_api_ErrNone), ("paternoster/api.ErrKind", Rows.laid_paternoster_api_ErrKind), ("paternoster/api.ErrOrder", Rows.laid_paternoster_api_ErrOrder), ("paternoster/api.ErrDoor", Rows.laid_paternoster_api_ErrDoor), ("paternoster/api.ErrFloor", Rows.laid_paternoster_api_ErrFloor), ("paternoster/api.ErrTwice", Rows.laid_paternoster_api_ErrTwice), ("paternoster/api.ErrWord", Rows.laid_paternoster_api_ErrWord), ("paternoster/api.ErrNumber", Rows.laid_paternoster_api_ErrNumber)] [.data, .sentinel, .sentinel, .sentinel, .sentinel, .sentinel, .sentinel, .sentinel, .sentinel, .sentinel, .sentinel, .sentinel, .sentinel, .sentinel] true :=
  Program.laidByTextLater.sub seatTie1 ["math/bits.deBruijn64tab", "paternoster/api.ErrEnd", "paternoster/api.ErrShape", "paternoster/api.ErrRange", "paternoster/api.ErrMany", "paternoster/api.ErrPower", "paternoster/api.ErrNone", "paternoster/api.ErrKind", "paternoster/api.ErrOrder", "paternoster/api.ErrDoor", "paternoster/api.ErrFloor", "paternoster/api.ErrTwice", "paternoster/api.ErrWord", "paternoster/api.ErrNumber"] (by kernel_rfl) (by kernel_rfl)
theorem nodeBoots_row_tie : Rows.nodeBootsRow.laidByTextAt .later Tryz.pinned [.data, .sentinel, .sentinel, .sentinel, .sentinel, .sentinel, .sentinel, .sentinel, .sentinel, .sentinel, .sentinel, .sentinel, .sentinel, .sentinel] true :=
  OpenClaim.laidByTextAt_later rfl rfl tie2 noOwnUnsafe
theorem nodePlays_row_tie : Rows.nodePlaysRow.laidByTextAt .later Tryz.pinned [.data, .sentinel, .sentinel, .sentinel, .sentinel, .sentinel, .sentinel, .sentinel, .sentinel, .sentinel, .sentinel, .sentinel, .sentinel, .sentinel] true :=
  OpenClaim.laidByTextAt_later rfl rfl tie2 noOwnUnsafe
theorem nodeBeatsUpto_row_tie : Rows.nodeBeatsUptoRow.laidByTextAt .later Tryz.pinned [.data, .sentinel, .sentinel, .sentinel, .sentinel, .sentinel, .sentinel, .sentinel] true :=
  OpenClaim.laidByTextAt_later rfl rfl tie noOwnUnsafe
theorem nodeBootsUpto_row_tie : Rows.nodeBootsUptoRow.laidByTextAt .later Tryz.pinned [.data, .sentinel, .sentinel, .sentinel, .sentinel, .sentinel, .sentinel, .sentinel, .sentinel, .sentinel, .sentinel, .sentinel, .sentinel, .sentinel] true :=
  OpenClaim.laidByTextAt_later rfl rfl tie2 noOwnUnsafe
theorem nodeAloneUpto_row_tie : Rows.nodeAloneUptoRow.laidByTextAt .later Tryz.pinned [.data, .sentinel, .sentinel, .sentinel, .sentinel, .sentinel, .sentinel, .sentinel] true :=
  OpenClaim.laidByTextAt_later rfl rfl tie noOwnUnsafe
theorem nodeTokensUpto_row_tie : Rows.nodeTokensUptoRow.laidByTextAt .later Tryz.pinned [.data, .sentinel, .sentinel, .sentinel, .sentinel, .sentinel, .sentinel, .sentinel] true :=
  OpenClaim.laidByTextAt_later rfl rfl tie noOwnUnsafe
theorem nodePlaysUpto_row_tie : Rows.nodePlaysUptoRow.laidByTextAt .later Tryz.pinned [.data, .sentinel, .sentinel, .sentinel, .sentinel, .sentinel, .sentinel, .sentinel, .sentinel, .sentinel, .sentinel, .sentinel, .sentinel, .sentinel] true :=
  OpenClaim.laidByTextAt_later rfl rfl tie2 noOwnUnsafe
end Go.Proofs.YthabegpfnfbmaaaGreatDoor
