/-
The law ClassBounds returns true, whatever numbers and boolean it is called with, and its arguments read behind the call as before. Conditions: the row's own (loops, laid); the card is tied.
-/
import Derived.Test.YtcgmhnlmgomlgaaGreatDoorZL5b
import Derived.Test.YtcgmhnlmgomlgaaGreatDoorTie
import Derived.Test.YtcgmhnlmgomlgaaGreatDoorCards
import Derived.SevenTiedAt

set_option maxRecDepth 100000
namespace Go.Proofs.YtcgmhnlmgomlgaaGreatDoor.V
open Go Go.Proofs Go.RowKit Go.ChangeShapes Go.WideShapes Go.ChangeAt
theorem card5 : Rows.ClassBoundsCardSaid :=
  Claim7.holds_tied_plain_at .later [] [.data] true (true, "6b8439c5a281966c24d2e955ca7e67ad9239f4fbf5cf0ce71d08d35417f60ad8") false
    row5 (fun _ h => by cases h) words5 (fun _ h => by cases h) classBounds_row_tie rfl ⟨rfl, rfl⟩ jmain rfl
    (fun f fn hf hfn => by
      obtain rfl : f = 5 := Option.some.inj (named5.symm.trans hf) |>.symm
      obtain rfl : fn = Tryz.f5 := (Option.some.inj (Tryz.func5.symm.trans hfn)).symm
      exact ⟨jlooks, fun j t ht => by
        rw [Tryz.params5] at ht
        have hm : t ∈ [22, 4] := by simpa using Array.mem_of_getElem? ht
        have hall : ([22, 4].all fun u => !Tryz.prog.wantsStandIn u) = true := by kernel_rfl
        exact (show Tryz.prog.wantsStandIn t = false by simpa using List.all_eq_true.1 hall t hm)⟩)
    goes5
#print axioms card5
end Go.Proofs.YtcgmhnlmgomlgaaGreatDoor.V
