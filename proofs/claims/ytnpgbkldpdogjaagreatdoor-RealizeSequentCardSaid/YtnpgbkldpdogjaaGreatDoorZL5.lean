/-
The law RealizeSequent returns true, whatever numbers it is called with, and its argument reads behind the call as before. Conditions: the row's own (loops, laid); the card is tied.
-/
import Derived.Test.YtnpgbkldpdogjaaGreatDoorZL5b
import Derived.Test.YtnpgbkldpdogjaaGreatDoorTie
import Derived.Test.YtnpgbkldpdogjaaGreatDoorCards
import Derived.SevenTiedAt

set_option maxRecDepth 100000
namespace Go.Proofs.YtnpgbkldpdogjaaGreatDoor.V
open Go Go.Proofs Go.RowKit Go.ChangeShapes Go.WideShapes Go.ChangeAt
theorem card5 : Rows.RealizeSequentCardSaid :=
  Claim7.holds_tied_plain_at .later [] [.data] true (true, "6d91bb1f4fd387d8dac2e67064aa80095c2991145a69c939b88e89e650b51e9c") false
    row5 (fun _ h => by cases h) words5 (fun _ h => by cases h) realizeSequent_row_tie rfl ⟨rfl, rfl⟩ jmain rfl
    (fun f fn hf hfn => by
      obtain rfl : f = 5 := Option.some.inj (named5.symm.trans hf) |>.symm
      obtain rfl : fn = Tryz.f5 := (Option.some.inj (Tryz.func5.symm.trans hfn)).symm
      exact ⟨jlooks, fun j t ht => by
        rw [Tryz.params5] at ht
        have hm : t ∈ [22] := by simpa using Array.mem_of_getElem? ht
        have hall : ([22].all fun u => !Tryz.prog.wantsStandIn u) = true := by kernel_rfl
        exact (show Tryz.prog.wantsStandIn t = false by simpa using List.all_eq_true.1 hall t hm)⟩)
    goes5
#print axioms card5
end Go.Proofs.YtnpgbkldpdogjaaGreatDoor.V
