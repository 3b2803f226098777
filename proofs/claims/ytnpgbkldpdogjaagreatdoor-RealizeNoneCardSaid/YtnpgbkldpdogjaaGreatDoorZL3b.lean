/-
The law RealizeNone returns true, whatever numbers it is called with, and its argument reads behind the call as before. Conditions: the row's own (loops, laid); the card is tied.
-/
import Derived.Test.YtnpgbkldpdogjaaGreatDoorZL3a
import Derived.Test.YtnpgbkldpdogjaaGreatDoorZLF

set_option maxRecDepth 100000
namespace Go.Proofs.YtnpgbkldpdogjaaGreatDoor.V
open Go Go.Proofs Go.RowKit Go.ChangeShapes Go.WideShapes Go.ChangeAt
theorem j3_0 : (Rows.realizeNoneRow.wf (OpenSpec.ofChange Rows.realizeNoneSpec)) = true := by kernel_rfl
theorem j3_3 : (Tryz.f3.params.all (Tryz.prog.readableRec ·)) = true := by kernel_rfl
theorem j3_4 : (namedTie Tryz.prog Rows.realizeNoneRow.named Rows.realizeNoneSpec.vars) = true := by kernel_rfl
theorem j3_5 : ((Rows.realizeNoneRow.stops == [])) = true := by kernel_rfl
theorem j3_7 : ((Rows.realizeNoneRow.knobs == [])) = true := by kernel_rfl
theorem j3_9 : ((Rows.realizeNoneRow.inPlace == Tryz.prog.inPlace 3)) = true := by kernel_rfl
theorem j3_10 : ((Rows.realizeNoneRow.unfollowed == Tryz.prog.unfollowed 3)) = true := by kernel_rfl
theorem j3_11 : ((Rows.realizeNoneRow.recurses == Tryz.prog.recurses 3)) = true := by kernel_rfl
theorem j3_12 : ((Rows.realizeNoneRow.named == Tryz.prog.varsNamed 3)) = true := by kernel_rfl
theorem j3_13 : ((Rows.realizeNoneRow.maps == (Tryz.f3.params.toList ++ Rows.realizeNoneSpec.plain.varTypes Tryz.prog).any (Tryz.prog.mapsRec ·))) = true := by kernel_rfl
theorem j3_14 : ((Rows.realizeNoneRow.ifaces == (Tryz.f3.params.toList ++ Rows.realizeNoneSpec.plain.varTypes Tryz.prog).any (Tryz.prog.ifacesRec ·))) = true := by kernel_rfl
theorem j3_15 : ((Rows.realizeNoneRow.mapsOut == Tryz.prog.mapsAmong Tryz.f3.resultTypes.toList)) = true := by kernel_rfl
theorem j3_16 : ((Rows.realizeNoneRow.loops == (Tryz.f3.params.toList ++ Rows.realizeNoneSpec.plain.varTypes Tryz.prog).any (Tryz.prog.loopsFrom ·))) = true := by kernel_rfl
theorem j3_17 : ((Rows.realizeNoneRow.wideKeys == (Tryz.f3.params.toList ++ Rows.realizeNoneSpec.plain.varTypes Tryz.prog ++ Tryz.f3.resultTypes.toList).any (Tryz.prog.wideKeysFrom ·))) = true := by kernel_rfl
theorem j3_18 : (Rows.realizeNoneSpec.vars.all (Tryz.prog.varReadable ·)) = true := by kernel_rfl
theorem j3_19 : (Tryz.f3.resultTypes.all (fun t => Tryz.prog.readableRec t && decide (t < Tryz.prog.types.size))) = true := by kernel_rfl
theorem j3_20 : ((Rows.realizeNoneRow.ifacesOut == Tryz.f3.resultTypes.toList.any (Tryz.prog.ifacesRec ·))) = true := by kernel_rfl
theorem j3_21 : ((Rows.realizeNoneRow.loopsOut == Tryz.f3.resultTypes.toList.any (Tryz.prog.loopsFrom ·))) = true := by kernel_rfl
theorem j3_22 : ((Rows.realizeNoneRow.plainKeys == Tryz.prog.plainKeys)) = true := by kernel_rfl
theorem j3_23 : (Rows.realizeNoneRow.shortTexts.isNone) = true := by kernel_rfl
theorem j3_26 : ((Rows.realizeNoneRow.lifted == Tryz.prog.liftsFinal)) = true := by kernel_rfl
theorem j3_27 : ((Tryz.prog.make == some Rows.realizeNoneRow.make)) = true := by kernel_rfl
theorem j3_28 : ((Rows.realizeNoneRow.kinds == (if Rows.realizeNoneRow.domain.isEmpty then [] else Tryz.f3.params.toList.map fun t => match Tryz.prog.underlying t with | some (.int k) => some k | _ => none))) = true := by kernel_rfl
theorem j3_29 : ((Rows.realizeNoneRow.pinned == Rows.realizeNoneRow.pinnedBy)) = true := by kernel_rfl
theorem j3_30 : ((Rows.realizeNoneRow.veiled == (Tryz.f3.params.toList ++ Rows.realizeNoneSpec.plain.varTypes Tryz.prog ++ Tryz.f3.resultTypes.toList).any (Tryz.prog.veiledRec ·))) = true := by kernel_rfl
theorem j3_31 : (Rows.realizeNoneRow.veiledFits Tryz.prog Tryz.f3.params.toList (Tryz.f3.params.toList ++ Rows.realizeNoneSpec.plain.varTypes Tryz.prog ++ Tryz.f3.resultTypes.toList)) = true := by kernel_rfl
theorem closed3 : joinedFacts Tryz.prog 3 Tryz.f3 Rows.realizeNoneSpec Rows.realizeNoneRow = true := by
  unfold joinedFacts
  exact (band (band (band (band (band (band (band (band (band (band (band (band (band (band (band (band (band (band (band (band (band (band (band (band (band (band (band (band (band (band (band j3_0 jp1) jp2) j3_3) j3_4) j3_5) jp6) j3_7) jp8) j3_9) j3_10) j3_11) j3_12) j3_13) j3_14) j3_15) j3_16) j3_17) j3_18) j3_19) j3_20) j3_21) j3_22) j3_23) jp24) jp25) j3_26) j3_27) j3_28) j3_29) j3_30) j3_31)
theorem named3 : Tryz.prog.funcNamed "proofprograms/proofprogramslaw24.RealizeNone" = some 3 := by kernel_rfl
theorem goes3 : false = Rows.realizeNoneRow.goesBy Tryz.prog := by kernel_rfl
theorem words3 : Rows.realizeNoneRow.wfByText (OpenSpec.ofChange Rows.realizeNoneSpec) = true := by kernel_rfl
theorem row3 : Rows.RealizeNoneSaid :=
  OpenClaim.holds_of_wide 3 Tryz.f3 rfl rfl rfl rfl rfl rfl rfl ⟨rfl, rfl, rfl, rfl, rfl⟩ rfl rfl rfl rfl rfl named3 Tryz.func3 closed3
    (of_decide_eq_true (by kernel_rfl)) (by unfold Func.isWrapper; first | (rw [if_pos (by decide +kernel)]; kernel_rfl) | (rw [if_neg (by decide +kernel)]; exact ⟨rfl, rfl⟩))
    (fun os started H enc _ => lifted3 os started H enc)
end Go.Proofs.YtnpgbkldpdogjaaGreatDoor.V
