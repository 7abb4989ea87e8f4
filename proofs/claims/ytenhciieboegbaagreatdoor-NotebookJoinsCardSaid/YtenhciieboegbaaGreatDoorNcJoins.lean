/-
  The statement NotebookJoins: its closed facts. (Printed by wip/gen/nlaw.py.)
-/
import Derived.Test.YtenhciieboegbaaGreatDoorRws
import Derived.Test.YtenhciieboegbaaGreatDoorTie
import Derived.Test.YtenhciieboegbaaGreatDoorCards
import Derived.Lay
import Derived.LaidOnce
import Derived.SevenTiedAt
namespace Go.Proofs.YtenhciieboegbaaGreatDoor
open Go Go.RowKit Go.ChangeShapes Go.WideShapes Go.ChangeAt Go.Joins
theorem notebookJoins_named : Tryz.checked.prog.funcNamed Rows.notebookJoinsRow.func = some 7 := by kernel_rfl
theorem notebookJoins_closed : joinedFacts Tryz.checked.prog 7 Tryz.f7 Rows.notebookJoinsSpec Rows.notebookJoinsRow = true := by kernel_rfl
end Go.Proofs.YtenhciieboegbaaGreatDoor
