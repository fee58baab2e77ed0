/- A closed fact on the program, by the kernel; there are no conditions. -/
import Derived.Test.YtkbielcbkpglhaaGreatDoorJ1
import Derived.Test.YtkbielcbkpglhaaGreatDoorJ2
import Derived.Test.YtkbielcbkpglhaaGreatDoorJ3
import Derived.Test.YtkbielcbkpglhaaGreatDoorJ4
import Derived.Test.YtkbielcbkpglhaaGreatDoorJ7
import Derived.Test.YtkbielcbkpglhaaGreatDoorJ8
import Derived.Test.YtkbielcbkpglhaaGreatDoorJ9
set_option linter.unusedVariables false
set_option linter.unusedSimpArgs false
namespace Go.Proofs.YtkbielcbkpglhaaGreatDoor.Thread
open Go.ChangeShapes Go.WideShapes Go.ChangeAt Go.RowKit Go.Ev Go.Proofs.Tryz
theorem bys_joined : joinedFacts Tryz.pinned.checked.prog 4 Tryz.f4 (Rows.OpenSpec.upto Rows.threadBysSpec).bare Rows.threadBysUptoRow = true := by
  unfold joinedFacts
  rw [bys_j1, bys_j2, bys_j3, bys_j4, mayEnter, liftsFinal, stopsHeard, stopsNone, stopKnobsNone, plainKeys, show laidOutB Tryz.pinned.checked.prog = true from laidOut, show mapsRowed Tryz.pinned.checked.prog = true from mapsRow]
  kernel_rfl
end Go.Proofs.YtkbielcbkpglhaaGreatDoor.Thread
