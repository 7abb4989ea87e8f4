/-
  The statement NotebookReads: its closed facts. (Printed by wip/gen/nlaw.py.)
-/
import Derived.Test.YtenhciieboegbaaGreatDoorNr1
import Derived.Test.YtenhciieboegbaaGreatDoorTie
import Derived.Test.YtenhciieboegbaaGreatDoorCards
import Derived.Lay
import Derived.LaidOnce
import Derived.SevenTiedAt
namespace Go.Proofs.YtenhciieboegbaaGreatDoor
open Go Go.RowKit Go.ChangeShapes Go.WideShapes Go.ChangeAt Go.Joins
theorem notebookReads_named:Tryz.checked.prog.funcNamed Rows.notebookReadsRow.func=some 5:=by kernel_rfl
theorem notebookReads_closed:joinedFacts Tryz.checked.prog 5 Tryz.f5 Rows.notebookReadsSpec Rows.notebookReadsRow=true:=by kernel_rfl
end Go.Proofs.YtenhciieboegbaaGreatDoor
