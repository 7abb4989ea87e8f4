/-
  The statement NotebookLimits: its closed facts. (Printed by wip/gen/nlaw.py.)
-/
import Derived.Test.YtenhciieboegbaaGreatDoorNr1
import Derived.Test.YtenhciieboegbaaGreatDoorTie
import Derived.Test.YtenhciieboegbaaGreatDoorCards
import Derived.Lay
import Derived.LaidOnce
import Derived.SevenTiedAt
namespace Go.Proofs.YtenhciieboegbaaGreatDoor
open Go Go.RowKit Go.ChangeShapes Go.WideShapes Go.ChangeAt Go.Joins
theorem notebookLimits_named : Tryz.checked.prog.funcNamed Rows.notebookLimitsRow.func = some 4 := by kernel_rfl
theorem notebookLimits_closed : joinedFacts Tryz.checked.prog 4 Tryz.f4 Rows.notebookLimitsSpec Rows.notebookLimitsRow = true := by kernel_rfl
end Go.Proofs.YtenhciieboegbaaGreatDoor
