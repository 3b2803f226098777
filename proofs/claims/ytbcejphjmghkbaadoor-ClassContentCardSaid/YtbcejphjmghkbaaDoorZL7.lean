/-
The law ClassContent returns true, whatever numbers it is called with, and its argument reads behind the call as before. Conditions: the row's own (loops, laid); the card is tied.
-/
import Derived.Test.YtbcejphjmghkbaaDoorZL7b
import Derived.Test.YtbcejphjmghkbaaDoorTie
import Derived.Test.YtbcejphjmghkbaaDoorCards
import Derived.SevenTiedAt

set_option maxRecDepth 100000
namespace Go.Proofs.YtbcejphjmghkbaaDoor.V
open Go Go.Proofs Go.RowKit Go.ChangeShapes Go.WideShapes Go.ChangeAt
theorem card7 : Rows.ClassContentCardSaid :=
  Claim7.holds_tied_plain_at .later [] [.data] true (true, "ebf6f3acd1ac89f459e64affaee35303df0101f447d8263f811e1eeebce302cb") false
    row7 (fun _ h => by cases h) words7 (fun _ h => by cases h) classContent_row_tie rfl ⟨rfl, rfl⟩ jmain rfl
    (fun f fn hf hfn => by
      obtain rfl : f = 7 := Option.some.inj (named7.symm.trans hf) |>.symm
      obtain rfl : fn = Tryd.f7 := (Option.some.inj (Tryd.func7.symm.trans hfn)).symm
      exact ⟨jlooks, fun j t ht => by
        rw [Tryd.params7] at ht
        have hm : t ∈ [22] := by simpa using Array.mem_of_getElem? ht
        have hall : ([22].all fun u => !Tryd.prog.wantsStandIn u) = true := by kernel_rfl
        exact (show Tryd.prog.wantsStandIn t = false by simpa using List.all_eq_true.1 hall t hm)⟩)
    goes7
#print axioms card7
end Go.Proofs.YtbcejphjmghkbaaDoor.V
