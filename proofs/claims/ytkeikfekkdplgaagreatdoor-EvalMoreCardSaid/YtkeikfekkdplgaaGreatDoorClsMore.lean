/- Lemmas. -/
import Derived.Test.YtkeikfekkdplgaaGreatDoorBwd
import Derived.Test.YtkeikfekkdplgaaGreatDoorTie
import Derived.Test.YtkeikfekkdplgaaGreatDoorCards
import Derived.Lay
import Derived.LaidOnce
import Derived.SevenTiedAt
namespace Go.Proofs.YtkeikfekkdplgaaGreatDoor
open Go Go.RowKit Go.ChangeShapes Go.WideShapes Go.ChangeAt Go.Joins
theorem evalMore_named:Tryz.checked.prog.funcNamed Rows.evalMoreRow.func=some 5:=by kernel_rfl
theorem evalMore_closed:joinedFacts Tryz.checked.prog 5 Tryz.f5 Rows.evalMoreSpec Rows.evalMoreRow=true:=by kernel_rfl
end Go.Proofs.YtkeikfekkdplgaaGreatDoor
