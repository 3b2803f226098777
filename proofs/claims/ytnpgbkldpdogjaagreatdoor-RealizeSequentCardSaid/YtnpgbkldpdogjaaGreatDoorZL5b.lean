/-
The law RealizeSequent returns true, whatever numbers it is called with, and its argument reads behind the call as before. Conditions: the row's own (loops, laid); the card is tied.
-/
import Derived.Test.YtnpgbkldpdogjaaGreatDoorZL5a
import Derived.Test.YtnpgbkldpdogjaaGreatDoorZLF

set_option maxRecDepth 100000
namespace Go.Proofs.YtnpgbkldpdogjaaGreatDoor.V
open Go Go.Proofs Go.RowKit Go.ChangeShapes Go.WideShapes Go.ChangeAt
theorem j5_0 : (Rows.realizeSequentRow.wf (OpenSpec.ofChange Rows.realizeSequentSpec)) = true := by kernel_rfl
theorem j5_3 : (Tryz.f5.params.all (Tryz.prog.readableRec ·)) = true := by kernel_rfl
theorem j5_4 : (namedTie Tryz.prog Rows.realizeSequentRow.named Rows.realizeSequentSpec.vars) = true := by kernel_rfl
theorem j5_5 : ((Rows.realizeSequentRow.stops == [])) = true := by kernel_rfl
theorem j5_7 : ((Rows.realizeSequentRow.knobs == [])) = true := by kernel_rfl
theorem j5_9 : ((Rows.realizeSequentRow.inPlace == Tryz.prog.inPlace 5)) = true := by kernel_rfl
theorem j5_10 : ((Rows.realizeSequentRow.unfollowed == Tryz.prog.unfollowed 5)) = true := by kernel_rfl
theorem j5_11 : ((Rows.realizeSequentRow.recurses == Tryz.prog.recurses 5)) = true := by kernel_rfl
theorem j5_12 : ((Rows.realizeSequentRow.named == Tryz.prog.varsNamed 5)) = true := by kernel_rfl
theorem j5_13 : ((Rows.realizeSequentRow.maps == (Tryz.f5.params.toList ++ Rows.realizeSequentSpec.plain.varTypes Tryz.prog).any (Tryz.prog.mapsRec ·))) = true := by kernel_rfl
theorem j5_14 : ((Rows.realizeSequentRow.ifaces == (Tryz.f5.params.toList ++ Rows.realizeSequentSpec.plain.varTypes Tryz.prog).any (Tryz.prog.ifacesRec ·))) = true := by kernel_rfl
theorem j5_15 : ((Rows.realizeSequentRow.mapsOut == Tryz.prog.mapsAmong Tryz.f5.resultTypes.toList)) = true := by kernel_rfl
theorem j5_16 : ((Rows.realizeSequentRow.loops == (Tryz.f5.params.toList ++ Rows.realizeSequentSpec.plain.varTypes Tryz.prog).any (Tryz.prog.loopsFrom ·))) = true := by kernel_rfl
theorem j5_17 : ((Rows.realizeSequentRow.wideKeys == (Tryz.f5.params.toList ++ Rows.realizeSequentSpec.plain.varTypes Tryz.prog ++ Tryz.f5.resultTypes.toList).any (Tryz.prog.wideKeysFrom ·))) = true := by kernel_rfl
theorem j5_18 : (Rows.realizeSequentSpec.vars.all (Tryz.prog.varReadable ·)) = true := by kernel_rfl
theorem j5_19 : (Tryz.f5.resultTypes.all (fun t => Tryz.prog.readableRec t && decide (t < Tryz.prog.types.size))) = true := by kernel_rfl
theorem j5_20 : ((Rows.realizeSequentRow.ifacesOut == Tryz.f5.resultTypes.toList.any (Tryz.prog.ifacesRec ·))) = true := by kernel_rfl
theorem j5_21 : ((Rows.realizeSequentRow.loopsOut == Tryz.f5.resultTypes.toList.any (Tryz.prog.loopsFrom ·))) = true := by kernel_rfl
theorem j5_22 : ((Rows.realizeSequentRow.plainKeys == Tryz.prog.plainKeys)) = true := by kernel_rfl
theorem j5_23 : (Rows.realizeSequentRow.shortTexts.isNone) = true := by kernel_rfl
theorem j5_26 : ((Rows.realizeSequentRow.lifted == Tryz.prog.liftsFinal)) = true := by kernel_rfl
theorem j5_27 : ((Tryz.prog.make == some Rows.realizeSequentRow.make)) = true := by kernel_rfl
theorem j5_28 : ((Rows.realizeSequentRow.kinds == (if Rows.realizeSequentRow.domain.isEmpty then [] else Tryz.f5.params.toList.map fun t => match Tryz.prog.underlying t with | some (.int k) => some k | _ => none))) = true := by kernel_rfl
theorem j5_29 : ((Rows.realizeSequentRow.pinned == Rows.realizeSequentRow.pinnedBy)) = true := by kernel_rfl
theorem j5_30 : ((Rows.realizeSequentRow.veiled == (Tryz.f5.params.toList ++ Rows.realizeSequentSpec.plain.varTypes Tryz.prog ++ Tryz.f5.resultTypes.toList).any (Tryz.prog.veiledRec ·))) = true := by kernel_rfl
theorem j5_31 : (Rows.realizeSequentRow.veiledFits Tryz.prog Tryz.f5.params.toList (Tryz.f5.params.toList ++ Rows.realizeSequentSpec.plain.varTypes Tryz.prog ++ Tryz.f5.resultTypes.toList)) = true := by kernel_rfl
theorem closed5 : joinedFacts Tryz.prog 5 Tryz.f5 Rows.realizeSequentSpec Rows.realizeSequentRow = true := by
  unfold joinedFacts
  exact (band (band (band (band (band (band (band (band (band (band (band (band (band (band (band (band (band (band (band (band (band (band (band (band (band (band (band (band (band (band (band j5_0 jp1) jp2) j5_3) j5_4) j5_5) jp6) j5_7) jp8) j5_9) j5_10) j5_11) j5_12) j5_13) j5_14) j5_15) j5_16) j5_17) j5_18) j5_19) j5_20) j5_21) j5_22) j5_23) jp24) jp25) j5_26) j5_27) j5_28) j5_29) j5_30) j5_31)
theorem named5 : Tryz.prog.funcNamed "proofprograms/proofprogramslaw24.RealizeSequent" = some 5 := by kernel_rfl
theorem goes5 : false = Rows.realizeSequentRow.goesBy Tryz.prog := by kernel_rfl
theorem words5 : Rows.realizeSequentRow.wfByText (OpenSpec.ofChange Rows.realizeSequentSpec) = true := by kernel_rfl
theorem row5 : Rows.RealizeSequentSaid :=
  OpenClaim.holds_of_wide 5 Tryz.f5 rfl rfl rfl rfl rfl rfl rfl ⟨rfl, rfl, rfl, rfl, rfl⟩ rfl rfl rfl rfl rfl named5 Tryz.func5 closed5
    (of_decide_eq_true (by kernel_rfl)) (by unfold Func.isWrapper; first | (rw [if_pos (by decide +kernel)]; kernel_rfl) | (rw [if_neg (by decide +kernel)]; exact ⟨rfl, rfl⟩))
    (fun os started H enc _ => lifted5 os started H enc)
end Go.Proofs.YtnpgbkldpdogjaaGreatDoor.V
