/-
The law ContentUniform returns true, whatever numbers it is called with, and its argument reads behind the call as before. Conditions: the row's own (loops, laid); the card is tied.
-/
import Derived.Test.YtbcejphjmghkbaaDoorZL6a
import Derived.Test.YtbcejphjmghkbaaDoorZLF

set_option maxRecDepth 100000
namespace Go.Proofs.YtbcejphjmghkbaaDoor.V
open Go Go.Proofs Go.RowKit Go.ChangeShapes Go.WideShapes Go.ChangeAt
theorem j6_0 : (Rows.contentUniformRow.wf (OpenSpec.ofChange Rows.contentUniformSpec)) = true := by kernel_rfl
theorem j6_3 : (Tryd.f6.params.all (Tryd.prog.readableRec ·)) = true := by kernel_rfl
theorem j6_4 : (namedTie Tryd.prog Rows.contentUniformRow.named Rows.contentUniformSpec.vars) = true := by kernel_rfl
theorem j6_5 : ((Rows.contentUniformRow.stops == [])) = true := by kernel_rfl
theorem j6_7 : ((Rows.contentUniformRow.knobs == [])) = true := by kernel_rfl
theorem j6_9 : ((Rows.contentUniformRow.inPlace == Tryd.prog.inPlace 6)) = true := by kernel_rfl
theorem j6_10 : ((Rows.contentUniformRow.unfollowed == Tryd.prog.unfollowed 6)) = true := by kernel_rfl
theorem j6_11 : ((Rows.contentUniformRow.recurses == Tryd.prog.recurses 6)) = true := by kernel_rfl
theorem j6_12 : ((Rows.contentUniformRow.named == Tryd.prog.varsNamed 6)) = true := by kernel_rfl
theorem j6_13 : ((Rows.contentUniformRow.maps == (Tryd.f6.params.toList ++ Rows.contentUniformSpec.plain.varTypes Tryd.prog).any (Tryd.prog.mapsRec ·))) = true := by kernel_rfl
theorem j6_14 : ((Rows.contentUniformRow.ifaces == (Tryd.f6.params.toList ++ Rows.contentUniformSpec.plain.varTypes Tryd.prog).any (Tryd.prog.ifacesRec ·))) = true := by kernel_rfl
theorem j6_15 : ((Rows.contentUniformRow.mapsOut == Tryd.prog.mapsAmong Tryd.f6.resultTypes.toList)) = true := by kernel_rfl
theorem j6_16 : ((Rows.contentUniformRow.loops == (Tryd.f6.params.toList ++ Rows.contentUniformSpec.plain.varTypes Tryd.prog).any (Tryd.prog.loopsFrom ·))) = true := by kernel_rfl
theorem j6_17 : ((Rows.contentUniformRow.wideKeys == (Tryd.f6.params.toList ++ Rows.contentUniformSpec.plain.varTypes Tryd.prog ++ Tryd.f6.resultTypes.toList).any (Tryd.prog.wideKeysFrom ·))) = true := by kernel_rfl
theorem j6_18 : (Rows.contentUniformSpec.vars.all (Tryd.prog.varReadable ·)) = true := by kernel_rfl
theorem j6_19 : (Tryd.f6.resultTypes.all (fun t => Tryd.prog.readableRec t && decide (t < Tryd.prog.types.size))) = true := by kernel_rfl
theorem j6_20 : ((Rows.contentUniformRow.ifacesOut == Tryd.f6.resultTypes.toList.any (Tryd.prog.ifacesRec ·))) = true := by kernel_rfl
theorem j6_21 : ((Rows.contentUniformRow.loopsOut == Tryd.f6.resultTypes.toList.any (Tryd.prog.loopsFrom ·))) = true := by kernel_rfl
theorem j6_22 : ((Rows.contentUniformRow.plainKeys == Tryd.prog.plainKeys)) = true := by kernel_rfl
theorem j6_23 : (Rows.contentUniformRow.shortTexts.isNone) = true := by kernel_rfl
theorem j6_26 : ((Rows.contentUniformRow.lifted == Tryd.prog.liftsFinal)) = true := by kernel_rfl
theorem j6_27 : ((Tryd.prog.make == some Rows.contentUniformRow.make)) = true := by kernel_rfl
theorem j6_28 : ((Rows.contentUniformRow.kinds == (if Rows.contentUniformRow.domain.isEmpty then [] else Tryd.f6.params.toList.map fun t => match Tryd.prog.underlying t with | some (.int k) => some k | _ => none))) = true := by kernel_rfl
theorem j6_29 : ((Rows.contentUniformRow.pinned == Rows.contentUniformRow.pinnedBy)) = true := by kernel_rfl
theorem j6_30 : ((Rows.contentUniformRow.veiled == (Tryd.f6.params.toList ++ Rows.contentUniformSpec.plain.varTypes Tryd.prog ++ Tryd.f6.resultTypes.toList).any (Tryd.prog.veiledRec ·))) = true := by kernel_rfl
theorem j6_31 : (Rows.contentUniformRow.veiledFits Tryd.prog Tryd.f6.params.toList (Tryd.f6.params.toList ++ Rows.contentUniformSpec.plain.varTypes Tryd.prog ++ Tryd.f6.resultTypes.toList)) = true := by kernel_rfl
theorem closed6 : joinedFacts Tryd.prog 6 Tryd.f6 Rows.contentUniformSpec Rows.contentUniformRow = true := by
  unfold joinedFacts
  exact (band (band (band (band (band (band (band (band (band (band (band (band (band (band (band (band (band (band (band (band (band (band (band (band (band (band (band (band (band (band (band j6_0 jp1) jp2) j6_3) j6_4) j6_5) jp6) j6_7) jp8) j6_9) j6_10) j6_11) j6_12) j6_13) j6_14) j6_15) j6_16) j6_17) j6_18) j6_19) j6_20) j6_21) j6_22) j6_23) jp24) jp25) j6_26) j6_27) j6_28) j6_29) j6_30) j6_31)
theorem named6 : Tryd.prog.funcNamed "proofprograms/proofprogramslaw23.ContentUniform" = some 6 := by kernel_rfl
theorem goes6 : false = Rows.contentUniformRow.goesBy Tryd.prog := by kernel_rfl
theorem words6 : Rows.contentUniformRow.wfByText (OpenSpec.ofChange Rows.contentUniformSpec) = true := by kernel_rfl
theorem row6 : Rows.ContentUniformSaid :=
  OpenClaim.holds_of_wide 6 Tryd.f6 rfl rfl rfl rfl rfl rfl rfl ⟨rfl, rfl, rfl, rfl, rfl⟩ rfl rfl rfl rfl rfl named6 Tryd.func6 closed6
    (of_decide_eq_true (by kernel_rfl)) (by unfold Func.isWrapper; first | (rw [if_pos (by decide +kernel)]; kernel_rfl) | (rw [if_neg (by decide +kernel)]; exact ⟨rfl, rfl⟩))
    (fun os started H enc _ => lifted6 os started H enc)
end Go.Proofs.YtbcejphjmghkbaaDoor.V
