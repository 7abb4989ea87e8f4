/-
  The statement NotebookMatchesReference: its closed facts. (Printed by wip/gen/nlaw.py.)
-/
import Derived.Test.YtenhciieboegbaaGreatDoorNr1
import Derived.Test.YtenhciieboegbaaGreatDoorTie
import Derived.Test.YtenhciieboegbaaGreatDoorCards
import Derived.Lay
import Derived.LaidOnce
import Derived.SevenTiedAt
namespace Go.Proofs.YtenhciieboegbaaGreatDoor
open Go Go.RowKit Go.ChangeShapes Go.WideShapes Go.ChangeAt Go.Joins
theorem notebookMatchesReference_named:Tryz.checked.prog.funcNamed Rows.notebookMatchesReferenceRow.func=some 3:=by kernel_rfl
theorem notebookMatchesReference_closed:joinedFacts Tryz.checked.prog 3 Tryz.f3 Rows.notebookMatchesReferenceSpec Rows.notebookMatchesReferenceRow=true:=by kernel_rfl
end Go.Proofs.YtenhciieboegbaaGreatDoor
