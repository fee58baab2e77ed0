/- A law of the program answers true and leaves its arguments as they were, where what it reads is of bulk at most 1048576. -/
import Derived.Test.YtkbielcbkpglhaaGreatDoorR3
import Derived.Test.YtkbielcbkpglhaaGreatDoorR4
import Derived.Test.YtkbielcbkpglhaaGreatDoorJ6
set_option linter.unusedVariables false
set_option linter.unusedSimpArgs false
namespace Go.Proofs.YtkbielcbkpglhaaGreatDoor.Thread
open Go.ChangeShapes Go.WideShapes Go.ChangeAt Go.RowKit Go.Ev Go.Proofs.Tryz
/-- The card of ThreadBys. -/
theorem bys_cardUpto : Rows.ThreadBysUptoCardSaid :=
  Claim7.holds_tied_plain_at .later [] _ _ _ _ bys_saidUpto (fun _ h => by cases h) (by kernel_rfl) (fun _ h => by cases h) threadBysUpto_row_tie rfl ⟨rfl, rfl⟩ (by kernel_rfl) rfl bys_plain bys_goes
end Go.Proofs.YtkbielcbkpglhaaGreatDoor.Thread
