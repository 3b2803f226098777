/-
Facts of the program alone.
-/
import Derived.Test.YtcgmhnlmgomlgaaGreatDoorKC8
import Derived.Test.YtcgmhnlmgomlgaaGreatDoorTie

set_option maxRecDepth 100000
namespace Go.Proofs.YtcgmhnlmgomlgaaGreatDoor.V
open Go Go.Proofs Go.RowKit Go.ChangeShapes Go.WideShapes Go.ChangeAt
theorem band {a b : Bool} (h : a = true) (k : b = true) : (a && b) = true := by rw [h, k]; rfl
theorem jp1 : (laidOutB Tryz.prog) = true := by kernel_rfl
theorem jp2 : (mapsRowed Tryz.prog) = true := by kernel_rfl
theorem jp6 : ((Tryz.prog.stops == [])) = true := by kernel_rfl
theorem jp8 : ((Tryz.prog.stopKnobs == [])) = true := by kernel_rfl
theorem jp24 : (Tryz.prog.stopsHeard) = true := by kernel_rfl
theorem jp25 : (Tryz.prog.mayEnter) = true := by kernel_rfl
theorem jmain : Tryz.prog.mainIs = some (true, ("6b8439c5a281966c24d2e955ca7e67ad9239f4fbf5cf0ce71d08d35417f60ad8" : String).toList) := by kernel_rfl
theorem jlooks : false = Tryz.prog.looks [] := by kernel_rfl
end Go.Proofs.YtcgmhnlmgomlgaaGreatDoor.V
