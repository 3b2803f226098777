/-
The law RealizePut returns true, whatever numbers it is called with, and its argument reads behind the call as before. Conditions: the row's own (loops, laid); the card is tied.
-/
import Derived.Test.YtnpgbkldpdogjaaGreatDoorZL4a
import Derived.Test.YtnpgbkldpdogjaaGreatDoorZLF

set_option maxRecDepth 100000
namespace Go.Proofs.YtnpgbkldpdogjaaGreatDoor.V
open Go Go.Proofs Go.RowKit Go.ChangeShapes Go.WideShapes Go.ChangeAt
theorem j4_0 : (Rows.realizePutRow.wf (OpenSpec.ofChange Rows.realizePutSpec)) = true := by kernel_rfl
theorem j4_3 : (Tryz.f4.params.all (Tryz.prog.readableRec ·)) = true := by kernel_rfl
theorem j4_4 : (namedTie Tryz.prog Rows.realizePutRow.named Rows.realizePutSpec.vars) = true := by kernel_rfl
theorem j4_5 : ((Rows.realizePutRow.stops == [])) = true := by kernel_rfl
theorem j4_7 : ((Rows.realizePutRow.knobs == [])) = true := by kernel_rfl
theorem j4_9 : ((Rows.realizePutRow.inPlace == Tryz.prog.inPlace 4)) = true := by kernel_rfl
theorem j4_10 : ((Rows.realizePutRow.unfollowed == Tryz.prog.unfollowed 4)) = true := by kernel_rfl
theorem j4_11 : ((Rows.realizePutRow.recurses == Tryz.prog.recurses 4)) = true := by kernel_rfl
theorem j4_12 : ((Rows.realizePutRow.named == Tryz.prog.varsNamed 4)) = true := by kernel_rfl
theorem j4_13 : ((Rows.realizePutRow.maps == (Tryz.f4.params.toList ++ Rows.realizePutSpec.plain.varTypes Tryz.prog).any (Tryz.prog.mapsRec ·))) = true := by kernel_rfl
theorem j4_14 : ((Rows.realizePutRow.ifaces == (Tryz.f4.params.toList ++ Rows.realizePutSpec.plain.varTypes Tryz.prog).any (Tryz.prog.ifacesRec ·))) = true := by kernel_rfl
theorem j4_15 : ((Rows.realizePutRow.mapsOut == Tryz.prog.mapsAmong Tryz.f4.resultTypes.toList)) = true := by kernel_rfl
theorem j4_16 : ((Rows.realizePutRow.loops == (Tryz.f4.params.toList ++ Rows.realizePutSpec.plain.varTypes Tryz.prog).any (Tryz.prog.loopsFrom ·))) = true := by kernel_rfl
theorem j4_17 : ((Rows.realizePutRow.wideKeys == (Tryz.f4.params.toList ++ Rows.realizePutSpec.plain.varTypes Tryz.prog ++ Tryz.f4.resultTypes.toList).any (Tryz.prog.wideKeysFrom ·))) = true := by kernel_rfl
theorem j4_18 : (Rows.realizePutSpec.vars.all (Tryz.prog.varReadable ·)) = true := by kernel_rfl
theorem j4_19 : (Tryz.f4.resultTypes.all (fun t => Tryz.prog.readableRec t && decide (t < Tryz.prog.types.size))) = true := by kernel_rfl
theorem j4_20 : ((Rows.realizePutRow.ifacesOut == Tryz.f4.resultTypes.toList.any (Tryz.prog.ifacesRec ·))) = true := by kernel_rfl
theorem j4_21 : ((Rows.realizePutRow.loopsOut == Tryz.f4.resultTypes.toList.any (Tryz.prog.loopsFrom ·))) = true := by kernel_rfl
theorem j4_22 : ((Rows.realizePutRow.plainKeys == Tryz.prog.plainKeys)) = true := by kernel_rfl
theorem j4_23 : (Rows.realizePutRow.shortTexts.isNone) = true := by kernel_rfl
theorem j4_26 : ((Rows.realizePutRow.lifted == Tryz.prog.liftsFinal)) = true := by kernel_rfl
theorem j4_27 : ((Tryz.prog.make == some Rows.realizePutRow.make)) = true := by kernel_rfl
theorem j4_28 : ((Rows.realizePutRow.kinds == (if Rows.realizePutRow.domain.isEmpty then [] else Tryz.f4.params.toList.map fun t => match Tryz.prog.underlying t with | some (.int k) => some k | _ => none))) = true := by kernel_rfl
theorem j4_29 : ((Rows.realizePutRow.pinned == Rows.realizePutRow.pinnedBy)) = true := by kernel_rfl
theorem j4_30 : ((Rows.realizePutRow.veiled == (Tryz.f4.params.toList ++ Rows.realizePutSpec.plain.varTypes Tryz.prog ++ Tryz.f4.resultTypes.toList).any (Tryz.prog.veiledRec ·))) = true := by kernel_rfl
theorem j4_31 : (Rows.realizePutRow.veiledFits Tryz.prog Tryz.f4.params.toList (Tryz.f4.params.toList ++ Rows.realizePutSpec.plain.varTypes Tryz.prog ++ Tryz.f4.resultTypes.toList)) = true := by kernel_rfl
theorem closed4 : joinedFacts Tryz.prog 4 Tryz.f4 Rows.realizePutSpec Rows.realizePutRow = true := by
  unfold joinedFacts
  exact (band (band (band (band (band (band (band (band (band (band (band (band (band (band (band (band (band (band (band (band (band (band (band (band (band (band (band (band (band (band (band j4_0 jp1) jp2) j4_3) j4_4) j4_5) jp6) j4_7) jp8) j4_9) j4_10) j4_11) j4_12) j4_13) j4_14) j4_15) j4_16) j4_17) j4_18) j4_19) j4_20) j4_21) j4_22) j4_23) jp24) jp25) j4_26) j4_27) j4_28) j4_29) j4_30) j4_31)
theorem named4 : Tryz.prog.funcNamed "proofprograms/proofprogramslaw24.RealizePut" = some 4 := by kernel_rfl
theorem goes4 : false = Rows.realizePutRow.goesBy Tryz.prog := by kernel_rfl
theorem words4 : Rows.realizePutRow.wfByText (OpenSpec.ofChange Rows.realizePutSpec) = true := by kernel_rfl
theorem row4 : Rows.RealizePutSaid :=
  OpenClaim.holds_of_wide 4 Tryz.f4 rfl rfl rfl rfl rfl rfl rfl ⟨rfl, rfl, rfl, rfl, rfl⟩ rfl rfl rfl rfl rfl named4 Tryz.func4 closed4
    (of_decide_eq_true (by kernel_rfl)) (by unfold Func.isWrapper; first | (rw [if_pos (by decide +kernel)]; kernel_rfl) | (rw [if_neg (by decide +kernel)]; exact ⟨rfl, rfl⟩))
    (fun os started H enc _ => lifted4 os started H enc)
end Go.Proofs.YtnpgbkldpdogjaaGreatDoor.V
