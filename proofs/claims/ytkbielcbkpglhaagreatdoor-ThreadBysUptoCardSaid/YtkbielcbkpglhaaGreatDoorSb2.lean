/- Facts on the program of this seat, by the kernel; there are no conditions. -/
import Derived.Test.YtkbielcbkpglhaaGreatDoorSb1
namespace Go.Proofs
namespace Tryz
open Go.Ev
/-! ### What the chapter's own check of the program comes to -/
theorem orders_run (m : Int) : saysTrue (ev Tryz.E0 100000 (.call 77 []) (startNum 7 0 m)) = true := by kernel_rfl
theorem orders (w : World) (m : Int) (hc : w.cell? ⟨0, 0, none⟩ = some (.int .i64 m)) : Calls Tryz.prog 77 #[] w fun e w' => e = .returned (.bool true) ∧ Keep (Froz.world w) w w' :=
  closed_true (E := Tryz.E0) Tryz.mixed Tryz.noNum Tryz.prims0 globalsSize.symm (by decide) hc (orders_run m)
theorem prims1 : PrimsOk Tryz.E1 := by
  intro f p hp F φ st w args vs r st' hR ha h
  simp only [Tryz.E1] at hp
  split at hp
  · rename_i hf
    simp only [Option.some.injEq] at hp; subst hp hf
    exact primTrue_ok (P := Tryz.prog) (by decide) orders hR ha h
  · exact prims0 f p hp F φ st w args vs r st' hR ha h
end Tryz
end Go.Proofs
