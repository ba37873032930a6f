/-
  The closed facts of the row of DriverArgs; no condition.
-/
import Derived.Test.YtcemejmegbefgaaGreatDoorArgB
set_option maxRecDepth 100000
namespace Go.Proofs.YtcemejmegbefgaaGreatDoor.driverArgs
open Go.ChangeShapes Go.WideShapes Go.ChangeAt Go.RowKit Go.Proofs.YtcemejmegbefgaaGreatDoor.Em
open driverDecodes (own laidOut laidWorld)
theorem and_mk {a b : Bool} (h : a = true) (k : b = true) : (a && b) = true := by rw [h, k]; rfl
theorem fInPlace : (Rows.driverArgsRow.inPlace == Tryz.pinned.checked.prog.inPlace 6) = true := by kernel_rfl
theorem fUnfollowed : (Rows.driverArgsRow.unfollowed == Tryz.pinned.checked.prog.unfollowed 6) = true := by kernel_rfl
theorem fRecurses : (Rows.driverArgsRow.recurses == Tryz.pinned.checked.prog.recurses 6) = true := by kernel_rfl
theorem fNamed : (Rows.driverArgsRow.named == Tryz.pinned.checked.prog.varsNamed 6) = true := by kernel_rfl
set_option maxHeartbeats 2000000 in
theorem closed : joinedFacts Tryz.pinned.checked.prog 6 Tryz.f6 (OpenSpec.ofChange Rows.driverArgsSpec).bare Rows.driverArgsRow = true := by
  unfold joinedFacts
  refine (and_mk (and_mk (and_mk (and_mk (and_mk (and_mk (and_mk (and_mk (and_mk (and_mk (and_mk (and_mk (and_mk (and_mk (and_mk (and_mk (and_mk (and_mk (and_mk (and_mk (and_mk (and_mk (and_mk ?_ fInPlace) fUnfollowed) fRecurses) fNamed) ?_) ?_) ?_) ?_) ?_) ?_) ?_) ?_) ?_) ?_) ?_) ?_) ?_) ?_) ?_) ?_) ?_) ?_) ?_)
  all_goals kernel_rfl
end Go.Proofs.YtcemejmegbefgaaGreatDoor.driverArgs
