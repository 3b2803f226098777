/-
The law ContentKeeps returns true, whatever numbers it is called with, and its argument reads behind the call as before. Conditions: the row's own (loops, laid); the card is tied.
-/
import Derived.Test.YtbcejphjmghkbaaDoorZL4a
import Derived.Test.YtbcejphjmghkbaaDoorZLF

set_option maxRecDepth 100000
namespace Go.Proofs.YtbcejphjmghkbaaDoor.V
open Go Go.Proofs Go.RowKit Go.ChangeShapes Go.WideShapes Go.ChangeAt
theorem j4_0 : (Rows.contentKeepsRow.wf (OpenSpec.ofChange Rows.contentKeepsSpec)) = true := by kernel_rfl
theorem j4_3 : (Tryd.f4.params.all (Tryd.prog.readableRec ·)) = true := by kernel_rfl
theorem j4_4 : (namedTie Tryd.prog Rows.contentKeepsRow.named Rows.contentKeepsSpec.vars) = true := by kernel_rfl
theorem j4_5 : ((Rows.contentKeepsRow.stops == [])) = true := by kernel_rfl
theorem j4_7 : ((Rows.contentKeepsRow.knobs == [])) = true := by kernel_rfl
theorem j4_9 : ((Rows.contentKeepsRow.inPlace == Tryd.prog.inPlace 4)) = true := by kernel_rfl
theorem j4_10 : ((Rows.contentKeepsRow.unfollowed == Tryd.prog.unfollowed 4)) = true := by kernel_rfl
theorem j4_11 : ((Rows.contentKeepsRow.recurses == Tryd.prog.recurses 4)) = true := by kernel_rfl
theorem j4_12 : ((Rows.contentKeepsRow.named == Tryd.prog.varsNamed 4)) = true := by kernel_rfl
theorem j4_13 : ((Rows.contentKeepsRow.maps == (Tryd.f4.params.toList ++ Rows.contentKeepsSpec.plain.varTypes Tryd.prog).any (Tryd.prog.mapsRec ·))) = true := by kernel_rfl
theorem j4_14 : ((Rows.contentKeepsRow.ifaces == (Tryd.f4.params.toList ++ Rows.contentKeepsSpec.plain.varTypes Tryd.prog).any (Tryd.prog.ifacesRec ·))) = true := by kernel_rfl
theorem j4_15 : ((Rows.contentKeepsRow.mapsOut == Tryd.prog.mapsAmong Tryd.f4.resultTypes.toList)) = true := by kernel_rfl
theorem j4_16 : ((Rows.contentKeepsRow.loops == (Tryd.f4.params.toList ++ Rows.contentKeepsSpec.plain.varTypes Tryd.prog).any (Tryd.prog.loopsFrom ·))) = true := by kernel_rfl
theorem j4_17 : ((Rows.contentKeepsRow.wideKeys == (Tryd.f4.params.toList ++ Rows.contentKeepsSpec.plain.varTypes Tryd.prog ++ Tryd.f4.resultTypes.toList).any (Tryd.prog.wideKeysFrom ·))) = true := by kernel_rfl
theorem j4_18 : (Rows.contentKeepsSpec.vars.all (Tryd.prog.varReadable ·)) = true := by kernel_rfl
theorem j4_19 : (Tryd.f4.resultTypes.all (fun t => Tryd.prog.readableRec t && decide (t < Tryd.prog.types.size))) = true := by kernel_rfl
theorem j4_20 : ((Rows.contentKeepsRow.ifacesOut == Tryd.f4.resultTypes.toList.any (Tryd.prog.ifacesRec ·))) = true := by kernel_rfl
theorem j4_21 : ((Rows.contentKeepsRow.loopsOut == Tryd.f4.resultTypes.toList.any (Tryd.prog.loopsFrom ·))) = true := by kernel_rfl
theorem j4_22 : ((Rows.contentKeepsRow.plainKeys == Tryd.prog.plainKeys)) = true := by kernel_rfl
theorem j4_23 : (Rows.contentKeepsRow.shortTexts.isNone) = true := by kernel_rfl
theorem j4_26 : ((Rows.contentKeepsRow.lifted == Tryd.prog.liftsFinal)) = true := by kernel_rfl
theorem j4_27 : ((Tryd.prog.make == some Rows.contentKeepsRow.make)) = true := by kernel_rfl
theorem j4_28 : ((Rows.contentKeepsRow.kinds == (if Rows.contentKeepsRow.domain.isEmpty then [] else Tryd.f4.params.toList.map fun t => match Tryd.prog.underlying t with | some (.int k) => some k | _ => none))) = true := by kernel_rfl
theorem j4_29 : ((Rows.contentKeepsRow.pinned == Rows.contentKeepsRow.pinnedBy)) = true := by kernel_rfl
theorem j4_30 : ((Rows.contentKeepsRow.veiled == (Tryd.f4.params.toList ++ Rows.contentKeepsSpec.plain.varTypes Tryd.prog ++ Tryd.f4.resultTypes.toList).any (Tryd.prog.veiledRec ·))) = true := by kernel_rfl
theorem j4_31 : (Rows.contentKeepsRow.veiledFits Tryd.prog Tryd.f4.params.toList (Tryd.f4.params.toList ++ Rows.contentKeepsSpec.plain.varTypes Tryd.prog ++ Tryd.f4.resultTypes.toList)) = true := by kernel_rfl
theorem closed4 : joinedFacts Tryd.prog 4 Tryd.f4 Rows.contentKeepsSpec Rows.contentKeepsRow = true := by
  unfold joinedFacts
  exact (band (band (band (band (band (band (band (band (band (band (band (band (band (band (band (band (band (band (band (band (band (band (band (band (band (band (band (band (band (band (band j4_0 jp1) jp2) j4_3) j4_4) j4_5) jp6) j4_7) jp8) j4_9) j4_10) j4_11) j4_12) j4_13) j4_14) j4_15) j4_16) j4_17) j4_18) j4_19) j4_20) j4_21) j4_22) j4_23) jp24) jp25) j4_26) j4_27) j4_28) j4_29) j4_30) j4_31)
theorem named4 : Tryd.prog.funcNamed "proofprograms/proofprogramslaw23.ContentKeeps" = some 4 := by kernel_rfl
theorem goes4 : false = Rows.contentKeepsRow.goesBy Tryd.prog := by kernel_rfl
theorem words4 : Rows.contentKeepsRow.wfByText (OpenSpec.ofChange Rows.contentKeepsSpec) = true := by kernel_rfl
theorem row4 : Rows.ContentKeepsSaid :=
  OpenClaim.holds_of_wide 4 Tryd.f4 rfl rfl rfl rfl rfl rfl rfl ⟨rfl, rfl, rfl, rfl, rfl⟩ rfl rfl rfl rfl rfl named4 Tryd.func4 closed4
    (of_decide_eq_true (by kernel_rfl)) (by unfold Func.isWrapper; first | (rw [if_pos (by decide +kernel)]; kernel_rfl) | (rw [if_neg (by decide +kernel)]; exact ⟨rfl, rfl⟩))
    (fun os started H enc _ => lifted4 os started H enc)
end Go.Proofs.YtbcejphjmghkbaaDoor.V
