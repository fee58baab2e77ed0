/- A closed fact on the program, by the kernel; there are no conditions. -/
import Derived.Test.YtkbielcbkpglhaaGreatDoorR2
set_option linter.unusedVariables false
namespace Go.Proofs.YtkbielcbkpglhaaGreatDoor.Thread
open Go.Proofs.Tryz
theorem bys_j3 : (Rows.threadBysUptoRow.recurses == Tryz.pinned.checked.prog.recurses 4) = true := by kernel_rfl
end Go.Proofs.YtkbielcbkpglhaaGreatDoor.Thread
