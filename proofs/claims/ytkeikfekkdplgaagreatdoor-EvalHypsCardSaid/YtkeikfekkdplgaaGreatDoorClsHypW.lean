/- Lemmas. -/
import Derived.Test.YtkeikfekkdplgaaGreatDoorTre
import Derived.Test.YtkeikfekkdplgaaGreatDoorTie
import Derived.Test.YtkeikfekkdplgaaGreatDoorCards
import Derived.Lay
import Derived.LaidOnce
import Derived.SevenTiedAt
namespace Go.Proofs.YtkeikfekkdplgaaGreatDoor
open Go Go.RowKit Go.ChangeShapes Go.WideShapes Go.ChangeAt Go.Joins
theorem evalHyps_named:Tryz.checked.prog.funcNamed Rows.evalHypsRow.func=some 7:=by kernel_rfl
theorem evalHyps_closed:joinedFacts Tryz.checked.prog 7 Tryz.f7 Rows.evalHypsSpec Rows.evalHypsRow=true:=by kernel_rfl
end Go.Proofs.YtkeikfekkdplgaaGreatDoor
