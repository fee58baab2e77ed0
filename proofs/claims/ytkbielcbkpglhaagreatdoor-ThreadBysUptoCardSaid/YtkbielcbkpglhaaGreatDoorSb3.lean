/- Facts on the program of this seat, by the kernel; there are no conditions. -/
import Derived.Test.YtkbielcbkpglhaaGreatDoorSb2
namespace Go.Proofs
namespace Tryz
open Go.Ev
theorem known_run (m : Int) : saysTrue (ev Tryz.E1 100000 (.call 20 []) (startNum 7 0 m)) = true := by kernel_rfl
theorem known (w : World) (m : Int) (hc : w.cell? ⟨0, 0, none⟩ = some (.int .i64 m)) : Calls Tryz.prog 20 #[] w fun e w' => e = .returned (.bool true) ∧ Keep (Froz.world w) w w' :=
  closed_true (E := Tryz.E1) Tryz.mixed Tryz.noNum Tryz.prims1 globalsSize.symm (by decide) hc (known_run m)
theorem prims : PrimsOk Tryz.E := by
  intro f p hp F φ st w args vs r st' hR ha h
  simp only [Tryz.E] at hp
  split at hp
  · rename_i hf
    simp only [Option.some.injEq] at hp; subst hp hf
    exact primTrue_ok (P := Tryz.prog) (by decide) known hR ha h
  · exact prims1 f p hp F φ st w args vs r st' hR ha h
end Tryz
end Go.Proofs
