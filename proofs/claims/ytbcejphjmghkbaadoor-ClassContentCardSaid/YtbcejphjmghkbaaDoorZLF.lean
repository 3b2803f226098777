/-
Facts of the program alone.
-/
import Derived.Test.YtbcejphjmghkbaaDoorKB8
import Derived.Test.YtbcejphjmghkbaaDoorTie

set_option maxRecDepth 100000
namespace Go.Proofs.YtbcejphjmghkbaaDoor.V
open Go Go.Proofs Go.RowKit Go.ChangeShapes Go.WideShapes Go.ChangeAt
theorem band {a b : Bool} (h : a = true) (k : b = true) : (a && b) = true := by rw [h, k]; rfl
theorem jp1 : (laidOutB Tryd.prog) = true := by kernel_rfl
theorem jp2 : (mapsRowed Tryd.prog) = true := by kernel_rfl
theorem jp6 : ((Tryd.prog.stops == [])) = true := by kernel_rfl
theorem jp8 : ((Tryd.prog.stopKnobs == [])) = true := by kernel_rfl
theorem jp24 : (Tryd.prog.stopsHeard) = true := by kernel_rfl
theorem jp25 : (Tryd.prog.mayEnter) = true := by kernel_rfl
theorem jmain : Tryd.prog.mainIs = some (true, ("ebf6f3acd1ac89f459e64affaee35303df0101f447d8263f811e1eeebce302cb" : String).toList) := by kernel_rfl
theorem jlooks : false = Tryd.prog.looks [] := by kernel_rfl
end Go.Proofs.YtbcejphjmghkbaaDoor.V
