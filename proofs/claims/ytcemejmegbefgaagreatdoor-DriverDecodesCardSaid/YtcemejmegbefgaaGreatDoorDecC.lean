/-
  The closed facts of the row of DriverDecodes; no condition.
-/
import Derived.Test.YtcemejmegbefgaaGreatDoorDecB
set_option maxRecDepth 100000
namespace Go.Proofs.YtcemejmegbefgaaGreatDoor.driverDecodes
open Go.ChangeShapes Go.WideShapes Go.ChangeAt Go.RowKit Go.Proofs.YtcemejmegbefgaaGreatDoor.Em
theorem and_mk {a b : Bool} (h : a = true) (k : b = true) : (a && b) = true := by rw [h, k]; rfl
theorem fInPlace : (Rows.driverDecodesRow.inPlace == Tryz.pinned.checked.prog.inPlace 5) = true := by kernel_rfl
theorem fUnfollowed : (Rows.driverDecodesRow.unfollowed == Tryz.pinned.checked.prog.unfollowed 5) = true := by kernel_rfl
theorem fRecurses : (Rows.driverDecodesRow.recurses == Tryz.pinned.checked.prog.recurses 5) = true := by kernel_rfl
theorem fNamed : (Rows.driverDecodesRow.named == Tryz.pinned.checked.prog.varsNamed 5) = true := by kernel_rfl
set_option maxHeartbeats 2000000 in
theorem closed : joinedFacts Tryz.pinned.checked.prog 5 Tryz.f5 (OpenSpec.ofChange Rows.driverDecodesSpec).bare Rows.driverDecodesRow = true := by
  unfold joinedFacts
  refine (and_mk (and_mk (and_mk (and_mk (and_mk (and_mk (and_mk (and_mk (and_mk (and_mk (and_mk (and_mk (and_mk (and_mk (and_mk (and_mk (and_mk (and_mk (and_mk (and_mk (and_mk (and_mk (and_mk ?_ fInPlace) fUnfollowed) fRecurses) fNamed) ?_) ?_) ?_) ?_) ?_) ?_) ?_) ?_) ?_) ?_) ?_) ?_) ?_) ?_) ?_) ?_) ?_) ?_) ?_)
  all_goals kernel_rfl
end Go.Proofs.YtcemejmegbefgaaGreatDoor.driverDecodes
