/-
  DERIVED. GIVEN WITH THE SEED: THE PROGRAM's TIES (one call each: nine closed facts by the kernel) AND EACH ROW's TIE, after the 31st guide's Derived/Test/Toyas{Tie, Card}.lean. No idea stands in it: it is a product of the set-up. Laid BY PROGRAM, IN A SANDBOX (cutbox-door.mjs). By AI agents, Wed Nov 11 2026. No macro, syntax, notation, axiom, sorry.
-/
import Derived.Test.YteigdhpchkkloaaDoorRows
import Derived.LaidByTextLater
import Derived.SevenTiedAt
import Derived.LaidSub
import Derived.LaidOnce
namespace Go.Proofs.YteigdhpchkkloaaDoor
open Go
set_option maxRecDepth 100000
theorem seatTie1 : Tryd.prog.laidByTextLater [("plenum/pid.blocks", Rows.laid_plenum_pid_blocks)] [.funcsDeep] true :=
  Program.laidByTextLater_by_one 28 8 2 (by kernel_rfl) (by kernel_rfl) (by kernel_rfl) (by kernel_rfl) (by kernel_rfl) (by kernel_rfl) (fun _ _ => by kernel_rfl)
theorem noOwnUnsafe : Tryd.pinned.checked.prog.headLifts.contains "ownunsafe" = false := by kernel_rfl
theorem tie : Tryd.prog.laidByTextLater [("plenum/pid.blocks", Rows.laid_plenum_pid_blocks)] [.funcsDeep] true :=
  Program.laidByTextLater.sub seatTie1 ["plenum/pid.blocks"] (by kernel_rfl) (by kernel_rfl)
theorem pidVelocity_row_tie : Rows.pidVelocityRow.laidByTextAt .later Tryd.pinned [.funcsDeep] true :=
  OpenClaim.laidByTextAt_later rfl rfl tie noOwnUnsafe
theorem pidFollows_row_tie : Rows.pidFollowsRow.laidByTextAt .later Tryd.pinned [.funcsDeep] true :=
  OpenClaim.laidByTextAt_later rfl rfl tie noOwnUnsafe
theorem pidSettles_row_tie : Rows.pidSettlesRow.laidByTextAt .later Tryd.pinned [.funcsDeep] true :=
  OpenClaim.laidByTextAt_later rfl rfl tie noOwnUnsafe
theorem pidTracks_row_tie : Rows.pidTracksRow.laidByTextAt .later Tryd.pinned [.funcsDeep] true :=
  OpenClaim.laidByTextAt_later rfl rfl tie noOwnUnsafe
theorem pidVelocityUpto_row_tie : Rows.pidVelocityUptoRow.laidByTextAt .later Tryd.pinned [.funcsDeep] true :=
  OpenClaim.laidByTextAt_later rfl rfl tie noOwnUnsafe
theorem pidFollowsUpto_row_tie : Rows.pidFollowsUptoRow.laidByTextAt .later Tryd.pinned [.funcsDeep] true :=
  OpenClaim.laidByTextAt_later rfl rfl tie noOwnUnsafe
theorem pidSettlesUpto_row_tie : Rows.pidSettlesUptoRow.laidByTextAt .later Tryd.pinned [.funcsDeep] true :=
  OpenClaim.laidByTextAt_later rfl rfl tie noOwnUnsafe
theorem pidTracksUpto_row_tie : Rows.pidTracksUptoRow.laidByTextAt .later Tryd.pinned [.funcsDeep] true :=
  OpenClaim.laidByTextAt_later rfl rfl tie noOwnUnsafe
end Go.Proofs.YteigdhpchkkloaaDoor
