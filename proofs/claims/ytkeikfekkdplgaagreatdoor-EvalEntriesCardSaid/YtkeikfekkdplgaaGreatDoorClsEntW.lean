/- Lemmas. -/
import Derived.Test.YtkeikfekkdplgaaGreatDoorTre
import Derived.Test.YtkeikfekkdplgaaGreatDoorTie
import Derived.Test.YtkeikfekkdplgaaGreatDoorCards
import Derived.Lay
import Derived.LaidOnce
import Derived.SevenTiedAt
namespace Go.Proofs.YtkeikfekkdplgaaGreatDoor
open Go Go.RowKit Go.ChangeShapes Go.WideShapes Go.ChangeAt Go.Joins
theorem evalEntries_named:Tryz.checked.prog.funcNamed Rows.evalEntriesRow.func=some 6:=by kernel_rfl
theorem evalEntries_closed:joinedFacts Tryz.checked.prog 6 Tryz.f6 Rows.evalEntriesSpec Rows.evalEntriesRow=true:=by kernel_rfl
end Go.Proofs.YtkeikfekkdplgaaGreatDoor
