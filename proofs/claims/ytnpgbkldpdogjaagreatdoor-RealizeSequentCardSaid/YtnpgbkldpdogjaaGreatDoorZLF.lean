/-
Facts of the program alone.
-/
import Derived.Test.YtnpgbkldpdogjaaGreatDoorKA9
import Derived.Test.YtnpgbkldpdogjaaGreatDoorTie

set_option maxRecDepth 100000
namespace Go.Proofs.YtnpgbkldpdogjaaGreatDoor.V
open Go Go.Proofs Go.RowKit Go.ChangeShapes Go.WideShapes Go.ChangeAt
theorem band {a b : Bool} (h : a = true) (k : b = true) : (a && b) = true := by rw [h, k]; rfl
theorem jp1 : (laidOutB Tryz.prog) = true := by kernel_rfl
theorem jp2 : (mapsRowed Tryz.prog) = true := by kernel_rfl
theorem jp6 : ((Tryz.prog.stops == [])) = true := by kernel_rfl
theorem jp8 : ((Tryz.prog.stopKnobs == [])) = true := by kernel_rfl
theorem jp24 : (Tryz.prog.stopsHeard) = true := by kernel_rfl
theorem jp25 : (Tryz.prog.mayEnter) = true := by kernel_rfl
theorem jmain : Tryz.prog.mainIs = some (true, ("6d91bb1f4fd387d8dac2e67064aa80095c2991145a69c939b88e89e650b51e9c" : String).toList) := by kernel_rfl
theorem jlooks : false = Tryz.prog.looks [] := by kernel_rfl
end Go.Proofs.YtnpgbkldpdogjaaGreatDoor.V
