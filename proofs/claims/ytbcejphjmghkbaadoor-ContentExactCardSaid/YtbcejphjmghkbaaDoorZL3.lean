/-
The law ContentExact returns true, whatever numbers, formula and sequent it is called with, and its arguments read behind the call as before. Conditions: the row's own (loops, laid); the card is tied.
-/
import Derived.Test.YtbcejphjmghkbaaDoorZL3b
import Derived.Test.YtbcejphjmghkbaaDoorTie
import Derived.Test.YtbcejphjmghkbaaDoorCards
import Derived.SevenTiedAt

set_option maxRecDepth 100000
namespace Go.Proofs.YtbcejphjmghkbaaDoor.V
open Go Go.Proofs Go.RowKit Go.ChangeShapes Go.WideShapes Go.ChangeAt
theorem card3 : Rows.ContentExactCardSaid :=
  Claim7.holds_tied_plain_at .later [] [.data] true (true, "ebf6f3acd1ac89f459e64affaee35303df0101f447d8263f811e1eeebce302cb") false
    row3 (fun _ h => by cases h) words3 (fun _ h => by cases h) contentExact_row_tie rfl ⟨rfl, rfl⟩ jmain rfl
    (fun f fn hf hfn => by
      obtain rfl : f = 3 := Option.some.inj (named3.symm.trans hf) |>.symm
      obtain rfl : fn = Tryd.f3 := (Option.some.inj (Tryd.func3.symm.trans hfn)).symm
      exact ⟨jlooks, fun j t ht => by
        rw [Tryd.params3] at ht
        have hm : t ∈ [22, 29, 31] := by simpa using Array.mem_of_getElem? ht
        have hall : ([22, 29, 31].all fun u => !Tryd.prog.wantsStandIn u) = true := by kernel_rfl
        exact (show Tryd.prog.wantsStandIn t = false by simpa using List.all_eq_true.1 hall t hm)⟩)
    goes3
#print axioms card3
end Go.Proofs.YtbcejphjmghkbaaDoor.V
