/-
The law RealizePut returns true, whatever numbers it is called with, and its argument reads behind the call as before. Conditions: the row's own (loops, laid); the card is tied.
-/
import Derived.Test.YtnpgbkldpdogjaaGreatDoorZL4b
import Derived.Test.YtnpgbkldpdogjaaGreatDoorTie
import Derived.Test.YtnpgbkldpdogjaaGreatDoorCards
import Derived.SevenTiedAt

set_option maxRecDepth 100000
namespace Go.Proofs.YtnpgbkldpdogjaaGreatDoor.V
open Go Go.Proofs Go.RowKit Go.ChangeShapes Go.WideShapes Go.ChangeAt
theorem card4 : Rows.RealizePutCardSaid :=
  Claim7.holds_tied_plain_at .later [] [.data] true (true, "6d91bb1f4fd387d8dac2e67064aa80095c2991145a69c939b88e89e650b51e9c") false
    row4 (fun _ h => by cases h) words4 (fun _ h => by cases h) realizePut_row_tie rfl ⟨rfl, rfl⟩ jmain rfl
    (fun f fn hf hfn => by
      obtain rfl : f = 4 := Option.some.inj (named4.symm.trans hf) |>.symm
      obtain rfl : fn = Tryz.f4 := (Option.some.inj (Tryz.func4.symm.trans hfn)).symm
      exact ⟨jlooks, fun j t ht => by
        rw [Tryz.params4] at ht
        have hm : t ∈ [22] := by simpa using Array.mem_of_getElem? ht
        have hall : ([22].all fun u => !Tryz.prog.wantsStandIn u) = true := by kernel_rfl
        exact (show Tryz.prog.wantsStandIn t = false by simpa using List.all_eq_true.1 hall t hm)⟩)
    goes4
#print axioms card4
end Go.Proofs.YtnpgbkldpdogjaaGreatDoor.V
