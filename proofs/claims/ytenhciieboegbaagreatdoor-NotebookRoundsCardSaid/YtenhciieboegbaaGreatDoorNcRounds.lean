/-
  The statement NotebookRounds: its closed facts. (Printed by wip/gen/nlaw.py.)
-/
import Derived.Test.YtenhciieboegbaaGreatDoorNrr
import Derived.Test.YtenhciieboegbaaGreatDoorTie
import Derived.Test.YtenhciieboegbaaGreatDoorCards
import Derived.Lay
import Derived.LaidOnce
import Derived.SevenTiedAt
namespace Go.Proofs.YtenhciieboegbaaGreatDoor
open Go Go.RowKit Go.ChangeShapes Go.WideShapes Go.ChangeAt Go.Joins
theorem notebookRounds_named : Tryz.checked.prog.funcNamed Rows.notebookRoundsRow.func = some 6 := by kernel_rfl
theorem notebookRounds_closed : joinedFacts Tryz.checked.prog 6 Tryz.f6 Rows.notebookRoundsSpec Rows.notebookRoundsRow = true := by kernel_rfl
end Go.Proofs.YtenhciieboegbaaGreatDoor
