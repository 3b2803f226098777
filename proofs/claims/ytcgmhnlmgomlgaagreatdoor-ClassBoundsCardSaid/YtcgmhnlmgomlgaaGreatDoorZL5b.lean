/-
The law ClassBounds returns true, whatever numbers and boolean it is called with, and its arguments read behind the call as before. Conditions: the row's own (loops, laid); the card is tied.
-/
import Derived.Test.YtcgmhnlmgomlgaaGreatDoorZL5a
import Derived.Test.YtcgmhnlmgomlgaaGreatDoorZLF

set_option maxRecDepth 100000
namespace Go.Proofs.YtcgmhnlmgomlgaaGreatDoor.V
open Go Go.Proofs Go.RowKit Go.ChangeShapes Go.WideShapes Go.ChangeAt
theorem j5_0 : (Rows.classBoundsRow.wf (OpenSpec.ofChange Rows.classBoundsSpec)) = true := by kernel_rfl
theorem j5_3 : (Tryz.f5.params.all (Tryz.prog.readableRec ·)) = true := by kernel_rfl
theorem j5_4 : (namedTie Tryz.prog Rows.classBoundsRow.named Rows.classBoundsSpec.vars) = true := by kernel_rfl
theorem j5_5 : ((Rows.classBoundsRow.stops == [])) = true := by kernel_rfl
theorem j5_7 : ((Rows.classBoundsRow.knobs == [])) = true := by kernel_rfl
theorem j5_9 : ((Rows.classBoundsRow.inPlace == Tryz.prog.inPlace 5)) = true := by kernel_rfl
theorem j5_10 : ((Rows.classBoundsRow.unfollowed == Tryz.prog.unfollowed 5)) = true := by kernel_rfl
theorem j5_11 : ((Rows.classBoundsRow.recurses == Tryz.prog.recurses 5)) = true := by kernel_rfl
theorem j5_12 : ((Rows.classBoundsRow.named == Tryz.prog.varsNamed 5)) = true := by kernel_rfl
theorem j5_13 : ((Rows.classBoundsRow.maps == (Tryz.f5.params.toList ++ Rows.classBoundsSpec.plain.varTypes Tryz.prog).any (Tryz.prog.mapsRec ·))) = true := by kernel_rfl
theorem j5_14 : ((Rows.classBoundsRow.ifaces == (Tryz.f5.params.toList ++ Rows.classBoundsSpec.plain.varTypes Tryz.prog).any (Tryz.prog.ifacesRec ·))) = true := by kernel_rfl
theorem j5_15 : ((Rows.classBoundsRow.mapsOut == Tryz.prog.mapsAmong Tryz.f5.resultTypes.toList)) = true := by kernel_rfl
theorem j5_16 : ((Rows.classBoundsRow.loops == (Tryz.f5.params.toList ++ Rows.classBoundsSpec.plain.varTypes Tryz.prog).any (Tryz.prog.loopsFrom ·))) = true := by kernel_rfl
theorem j5_17 : ((Rows.classBoundsRow.wideKeys == (Tryz.f5.params.toList ++ Rows.classBoundsSpec.plain.varTypes Tryz.prog ++ Tryz.f5.resultTypes.toList).any (Tryz.prog.wideKeysFrom ·))) = true := by kernel_rfl
theorem j5_18 : (Rows.classBoundsSpec.vars.all (Tryz.prog.varReadable ·)) = true := by kernel_rfl
theorem j5_19 : (Tryz.f5.resultTypes.all (fun t => Tryz.prog.readableRec t && decide (t < Tryz.prog.types.size))) = true := by kernel_rfl
theorem j5_20 : ((Rows.classBoundsRow.ifacesOut == Tryz.f5.resultTypes.toList.any (Tryz.prog.ifacesRec ·))) = true := by kernel_rfl
theorem j5_21 : ((Rows.classBoundsRow.loopsOut == Tryz.f5.resultTypes.toList.any (Tryz.prog.loopsFrom ·))) = true := by kernel_rfl
theorem j5_22 : ((Rows.classBoundsRow.plainKeys == Tryz.prog.plainKeys)) = true := by kernel_rfl
theorem j5_23 : (Rows.classBoundsRow.shortTexts.isNone) = true := by kernel_rfl
theorem j5_26 : ((Rows.classBoundsRow.lifted == Tryz.prog.liftsFinal)) = true := by kernel_rfl
theorem j5_27 : ((Tryz.prog.make == some Rows.classBoundsRow.make)) = true := by kernel_rfl
theorem j5_28 : ((Rows.classBoundsRow.kinds == (if Rows.classBoundsRow.domain.isEmpty then [] else Tryz.f5.params.toList.map fun t => match Tryz.prog.underlying t with | some (.int k) => some k | _ => none))) = true := by kernel_rfl
theorem j5_29 : ((Rows.classBoundsRow.pinned == Rows.classBoundsRow.pinnedBy)) = true := by kernel_rfl
theorem j5_30 : ((Rows.classBoundsRow.veiled == (Tryz.f5.params.toList ++ Rows.classBoundsSpec.plain.varTypes Tryz.prog ++ Tryz.f5.resultTypes.toList).any (Tryz.prog.veiledRec ·))) = true := by kernel_rfl
theorem j5_31 : (Rows.classBoundsRow.veiledFits Tryz.prog Tryz.f5.params.toList (Tryz.f5.params.toList ++ Rows.classBoundsSpec.plain.varTypes Tryz.prog ++ Tryz.f5.resultTypes.toList)) = true := by kernel_rfl
theorem closed5 : joinedFacts Tryz.prog 5 Tryz.f5 Rows.classBoundsSpec Rows.classBoundsRow = true := by
  unfold joinedFacts
  exact (band (band (band (band (band (band (band (band (band (band (band (band (band (band (band (band (band (band (band (band (band (band (band (band (band (band (band (band (band (band (band j5_0 jp1) jp2) j5_3) j5_4) j5_5) jp6) j5_7) jp8) j5_9) j5_10) j5_11) j5_12) j5_13) j5_14) j5_15) j5_16) j5_17) j5_18) j5_19) j5_20) j5_21) j5_22) j5_23) jp24) jp25) j5_26) j5_27) j5_28) j5_29) j5_30) j5_31)
theorem named5 : Tryz.prog.funcNamed "proofprograms/proofprogramslaw08.ClassBounds" = some 5 := by kernel_rfl
theorem goes5 : false = Rows.classBoundsRow.goesBy Tryz.prog := by kernel_rfl
theorem words5 : Rows.classBoundsRow.wfByText (OpenSpec.ofChange Rows.classBoundsSpec) = true := by kernel_rfl
theorem row5 : Rows.ClassBoundsSaid :=
  OpenClaim.holds_of_wide 5 Tryz.f5 rfl rfl rfl rfl rfl rfl rfl ⟨rfl, rfl, rfl, rfl, rfl⟩ rfl rfl rfl rfl rfl named5 Tryz.func5 closed5
    (of_decide_eq_true (by kernel_rfl)) (by unfold Func.isWrapper; first | (rw [if_pos (by decide +kernel)]; kernel_rfl) | (rw [if_neg (by decide +kernel)]; exact ⟨rfl, rfl⟩))
    (fun os started H enc _ => lifted5 os started H enc)
end Go.Proofs.YtcgmhnlmgomlgaaGreatDoor.V
