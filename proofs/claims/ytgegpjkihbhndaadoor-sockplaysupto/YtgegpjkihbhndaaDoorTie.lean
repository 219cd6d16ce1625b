/-
  DERIVED. GIVEN WITH THE SEED: THE PROGRAM's TIES (one call each: nine closed facts by the kernel) AND EACH ROW's TIE, after the 31st guide's Derived/Test/Toyas{Tie, Card}.lean. No idea stands in it: it is a product of the set-up. Laid BY PROGRAM, IN A SANDBOX (cutbox-door.mjs). By AI agents, Wed Nov 11 2026. No macro, syntax, notation, axiom, sorry.
-/
import Derived.Test.YtgegpjkihbhndaaDoorRows
import Derived.LaidByTextLater
import Derived.SevenTiedAt
import Derived.LaidSub
import Derived.LaidOnce
namespace Go.Proofs.YtgegpjkihbhndaaDoor
open Go
set_option maxRecDepth 100000
theorem seatTie1 : Tryd.prog.laidByTextLater [("jackfield/api.ErrRange", Rows.laid_jackfield_api_ErrRange), ("jackfield/api.ErrShort", Rows.laid_jackfield_api_ErrShort), ("jackfield/api.ErrLong", Rows.laid_jackfield_api_ErrLong), ("jackfield/api.ErrTail", Rows.laid_jackfield_api_ErrTail), ("jackfield/api.ErrBroken", Rows.laid_jackfield_api_ErrBroken), ("jackfield/api.ErrPower", Rows.laid_jackfield_api_ErrPower), ("jackfield/api.ErrFrame", Rows.laid_jackfield_api_ErrFrame), ("jackfield/api.ErrFull", Rows.laid_jackfield_api_ErrFull), ("jackfield/api.ErrGap", Rows.laid_jackfield_api_ErrGap), ("jackfield/api.ErrName", Rows.laid_jackfield_api_ErrName), ("jackfield/api.ErrTaken", Rows.laid_jackfield_api_ErrTaken), ("jackfield/api.ErrNone", Rows.laid_jackfield_api_ErrNone), ("jackfield/api.ErrOwner", Rows.laid_jackfield_api_ErrOwner), ("jackfield/api.ErrProof", Rows.laid_jackfield_api_ErrProof), ("jackfield/api.ErrWindow", Rows.laid_jackfield_api_ErrWindow), ("jackfield/api.ErrStream", Rows.laid_jackfield_api_ErrStream), ("jackfield/api.ErrState", Rows.laid_jackfield_api_ErrState), ("jackfield/api.ErrBusy", Rows.laid_jackfield_api_ErrBusy), ("jackfield/hash.round", Rows.laid_jackfield_hash_round)] [.sentinel, .sentinel, .sentinel, .sentinel, .sentinel, .sentinel, .sentinel, .sentinel, .sentinel, .sentinel, .sentinel, .sentinel, .sentinel, .sentinel, .sentinel, .sentinel, .sentinel, .sentinel, .data] true :=
  Program.laidByTextLater_by_one 356 8 65 (by kernel_rfl) (by kernel_rfl) (by kernel_rfl) (by kernel_rfl) (by kernel_rfl) (by kernel_rfl) (fun _ _ => by kernel_rfl)
theorem noOwnUnsafe : Tryd.pinned.checked.prog.headLifts.contains "ownunsafe" = false := by kernel_rfl
theorem tie : Tryd.prog.laidByTextLater [("jackfield/api.ErrRange", Rows.laid_jackfield_api_ErrRange), ("jackfield/api.ErrShort", Rows.laid_jackfield_api_ErrShort), ("jackfield/api.ErrLong", Rows.laid_jackfield_api_ErrLong), ("jackfield/api.ErrTail", Rows.laid_jackfield_api_ErrTail), ("jackfield/api.ErrBroken", Rows.laid_jackfield_api_ErrBroken), ("jackfield/api.ErrPower", Rows.laid_jackfield_api_ErrPower), ("jackfield/api.ErrFrame", Rows.laid_jackfield_api_ErrFrame), ("jackfield/api.ErrFull", Rows.laid_jackfield_api_ErrFull), ("jackfield/api.ErrGap", Rows.laid_jackfield_api_ErrGap), ("jackfield/api.ErrName", Rows.laid_jackfield_api_ErrName), ("jackfield/api.ErrTaken", Rows.laid_jackfield_api_ErrTaken), ("jackfield/api.ErrNone", Rows.laid_jackfield_api_ErrNone), ("jackfield/api.ErrOwner", Rows.laid_jackfield_api_ErrOwner), ("jackfield/api.ErrProof", Rows.laid_jackfield_api_ErrProof), ("jackfield/api.ErrWindow", Rows.laid_jackfield_api_ErrWindow), ("jackfield/api.ErrStream", Rows.laid_jackfield_api_ErrStream), ("jackfield/api.ErrState", Rows.laid_jackfield_api_ErrState), ("jackfield/api.ErrBusy", Rows.laid_jackfield_api_ErrBusy)] [.sentinel, .sentinel, .sentinel, .sentinel, .sentinel, .sentinel, .sentinel, .sentinel, .sentinel, .sentinel, .sentinel, .sentinel, .sentinel, .sentinel, .sentinel, .sentinel, .sentinel, .sentinel] true :=
  Program.laidByTextLater.sub seatTie1 ["jackfield/api.ErrRange", "jackfield/api.ErrShort", "jackfield/api.ErrLong", "jackfield/api.ErrTail", "jackfield/api.ErrBroken", "jackfield/api.ErrPower", "jackfield/api.ErrFrame", "jackfield/api.ErrFull", "jackfield/api.ErrGap", "jackfield/api.ErrName", "jackfield/api.ErrTaken", "jackfield/api.ErrNone", "jackfield/api.ErrOwner", "jackfield/api.ErrProof", "jackfield/api.ErrWindow", "jackfield/api.ErrStream", "jackfield/api.ErrState", "jackfield/api.ErrBusy"] (by kernel_rfl) (by kernel_rfl)
theorem sockPlays_row_tie : Rows.sockPlaysRow.laidByTextAt .later Tryd.pinned [.sentinel, .sentinel, .sentinel, .sentinel, .sentinel, .sentinel, .sentinel, .sentinel, .sentinel, .sentinel, .sentinel, .sentinel, .sentinel, .sentinel, .sentinel, .sentinel, .sentinel, .sentinel] true :=
  OpenClaim.laidByTextAt_later rfl rfl tie noOwnUnsafe
theorem tie2 : Tryd.prog.laidByTextLater [("jackfield/api.ErrRange", Rows.laid_jackfield_api_ErrRange), ("jackfield/api.ErrShort", Rows.laid_jackfield_api_ErrShort), ("jackfield/api.ErrLong", Rows.laid_jackfield_api_ErrLong), ("jackfield/api.ErrTail", Rows.laid_jackfield_api_ErrTail), ("jackfield/api.ErrPower", Rows.laid_jackfield_api_ErrPower), ("jackfield/api.ErrFull", Rows.laid_jackfield_api_ErrFull), ("jackfield/api.ErrNone", Rows.laid_jackfield_api_ErrNone), ("jackfield/api.ErrState", Rows.laid_jackfield_api_ErrState), ("jackfield/hash.round", Rows.laid_jackfield_hash_round)] [.sentinel, .sentinel, .sentinel, .sentinel, .sentinel, .sentinel, .sentinel, .sentinel, .data] true :=
  Program.laidByTextLater.sub seatTie1 ["jackfield/api.ErrRange", "jackfield/api.ErrShort", "jackfield/api.ErrLong", "jackfield/api.ErrTail", "jackfield/api.ErrPower", "jackfield/api.ErrFull", "jackfield/api.ErrNone", "jackfield/api.ErrState", "jackfield/hash.round"] (by kernel_rfl) (by kernel_rfl)
theorem journalAnew_row_tie : Rows.journalAnewRow.laidByTextAt .later Tryd.pinned [.sentinel, .sentinel, .sentinel, .sentinel, .sentinel, .sentinel, .sentinel, .sentinel, .data] true :=
  OpenClaim.laidByTextAt_later rfl rfl tie2 noOwnUnsafe
theorem journalOpens_row_tie : Rows.journalOpensRow.laidByTextAt .later Tryd.pinned [.sentinel, .sentinel, .sentinel, .sentinel, .sentinel, .sentinel, .sentinel, .sentinel, .data] true :=
  OpenClaim.laidByTextAt_later rfl rfl tie2 noOwnUnsafe
theorem journalRoom_row_tie : Rows.journalRoomRow.laidByTextAt .later Tryd.pinned [.sentinel, .sentinel, .sentinel, .sentinel, .sentinel, .sentinel, .sentinel, .sentinel, .data] true :=
  OpenClaim.laidByTextAt_later rfl rfl tie2 noOwnUnsafe
theorem journalWhole_row_tie : Rows.journalWholeRow.laidByTextAt .later Tryd.pinned [.sentinel, .sentinel, .sentinel, .sentinel, .sentinel, .sentinel, .sentinel, .sentinel, .data] true :=
  OpenClaim.laidByTextAt_later rfl rfl tie2 noOwnUnsafe
theorem journalCuts_row_tie : Rows.journalCutsRow.laidByTextAt .later Tryd.pinned [.sentinel, .sentinel, .sentinel, .sentinel, .sentinel, .sentinel, .sentinel, .sentinel, .data] true :=
  OpenClaim.laidByTextAt_later rfl rfl tie2 noOwnUnsafe
theorem sockPlaysUpto_row_tie : Rows.sockPlaysUptoRow.laidByTextAt .later Tryd.pinned [.sentinel, .sentinel, .sentinel, .sentinel, .sentinel, .sentinel, .sentinel, .sentinel, .sentinel, .sentinel, .sentinel, .sentinel, .sentinel, .sentinel, .sentinel, .sentinel, .sentinel, .sentinel] true :=
  OpenClaim.laidByTextAt_later rfl rfl tie noOwnUnsafe
theorem journalAnewUpto_row_tie : Rows.journalAnewUptoRow.laidByTextAt .later Tryd.pinned [.sentinel, .sentinel, .sentinel, .sentinel, .sentinel, .sentinel, .sentinel, .sentinel, .data] true :=
  OpenClaim.laidByTextAt_later rfl rfl tie2 noOwnUnsafe
theorem journalOpensUpto_row_tie : Rows.journalOpensUptoRow.laidByTextAt .later Tryd.pinned [.sentinel, .sentinel, .sentinel, .sentinel, .sentinel, .sentinel, .sentinel, .sentinel, .data] true :=
  OpenClaim.laidByTextAt_later rfl rfl tie2 noOwnUnsafe
theorem journalRoomUpto_row_tie : Rows.journalRoomUptoRow.laidByTextAt .later Tryd.pinned [.sentinel, .sentinel, .sentinel, .sentinel, .sentinel, .sentinel, .sentinel, .sentinel, .data] true :=
  OpenClaim.laidByTextAt_later rfl rfl tie2 noOwnUnsafe
theorem journalWholeUpto_row_tie : Rows.journalWholeUptoRow.laidByTextAt .later Tryd.pinned [.sentinel, .sentinel, .sentinel, .sentinel, .sentinel, .sentinel, .sentinel, .sentinel, .data] true :=
  OpenClaim.laidByTextAt_later rfl rfl tie2 noOwnUnsafe
theorem journalCutsUpto_row_tie : Rows.journalCutsUptoRow.laidByTextAt .later Tryd.pinned [.sentinel, .sentinel, .sentinel, .sentinel, .sentinel, .sentinel, .sentinel, .sentinel, .data] true :=
  OpenClaim.laidByTextAt_later rfl rfl tie2 noOwnUnsafe
end Go.Proofs.YtgegpjkihbhndaaDoor
