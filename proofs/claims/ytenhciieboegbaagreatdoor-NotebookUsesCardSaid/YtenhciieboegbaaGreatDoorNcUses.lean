/-
  The statement NotebookUses: its closed facts. (Printed by wip/gen/nlaw.py.)
-/
import Derived.Test.YtenhciieboegbaaGreatDoorNrr
import Derived.Test.YtenhciieboegbaaGreatDoorTie
import Derived.Test.YtenhciieboegbaaGreatDoorCards
import Derived.Lay
import Derived.LaidOnce
import Derived.SevenTiedAt
namespace Go.Proofs.YtenhciieboegbaaGreatDoor
open Go Go.RowKit Go.ChangeShapes Go.WideShapes Go.ChangeAt Go.Joins
theorem notebookUses_named : Tryz.checked.prog.funcNamed Rows.notebookUsesRow.func = some 8 := by kernel_rfl
theorem notebookUses_closed : joinedFacts Tryz.checked.prog 8 Tryz.f8 Rows.notebookUsesSpec Rows.notebookUsesRow = true := by kernel_rfl
end Go.Proofs.YtenhciieboegbaaGreatDoor
