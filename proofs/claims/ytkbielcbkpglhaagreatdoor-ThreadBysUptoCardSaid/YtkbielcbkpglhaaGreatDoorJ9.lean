/- A closed fact on the program, by the kernel; there are no conditions. -/
import Derived.Test.YtkbielcbkpglhaaGreatDoorR2
set_option linter.unusedVariables false
namespace Go.Proofs.YtkbielcbkpglhaaGreatDoor.Thread
open Go.Proofs.Tryz
theorem stopsNone : (Tryz.pinned.checked.prog.stops == []) = true := by kernel_rfl
theorem stopKnobsNone : (Tryz.pinned.checked.prog.stopKnobs == []) = true := by kernel_rfl
theorem plainKeys : Tryz.pinned.checked.prog.plainKeys = true := by kernel_rfl
end Go.Proofs.YtkbielcbkpglhaaGreatDoor.Thread
