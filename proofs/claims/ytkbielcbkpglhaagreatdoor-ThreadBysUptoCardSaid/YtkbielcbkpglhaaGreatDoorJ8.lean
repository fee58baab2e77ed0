/- A closed fact on the program, by the kernel; there are no conditions. -/
import Derived.Test.YtkbielcbkpglhaaGreatDoorR2
set_option linter.unusedVariables false
namespace Go.Proofs.YtkbielcbkpglhaaGreatDoor.Thread
open Go.Proofs.Tryz
theorem liftsFinal : Tryz.pinned.checked.prog.liftsFinal = false := by kernel_rfl
theorem stopsHeard : Tryz.pinned.checked.prog.stopsHeard = true := by kernel_rfl
end Go.Proofs.YtkbielcbkpglhaaGreatDoor.Thread
