/- A closed fact on the program, by the kernel; there are no conditions. -/
import Derived.Test.YtkbielcbkpglhaaGreatDoorR2
set_option linter.unusedVariables false
set_option linter.unusedSimpArgs false
namespace Go.Proofs.YtkbielcbkpglhaaGreatDoor.Thread
open Go.ChangeShapes Go.WideShapes Go.ChangeAt Go.RowKit Go.Ev Go.Proofs.Tryz
theorem bys_goes : false = Rows.threadBysUptoRow.goesBy Tryz.pinned.checked.prog := by kernel_rfl
end Go.Proofs.YtkbielcbkpglhaaGreatDoor.Thread
