/-
The law ContentNone returns true, whatever numbers it is called with, and its argument reads behind the call as before. Conditions: the row's own (loops, laid); the card is tied.
-/
import Derived.Test.YtbcejphjmghkbaaDoorZL5a
import Derived.Test.YtbcejphjmghkbaaDoorZLF

set_option maxRecDepth 100000
namespace Go.Proofs.YtbcejphjmghkbaaDoor.V
open Go Go.Proofs Go.RowKit Go.ChangeShapes Go.WideShapes Go.ChangeAt
theorem j5_0 : (Rows.contentNoneRow.wf (OpenSpec.ofChange Rows.contentNoneSpec)) = true := by kernel_rfl
theorem j5_3 : (Tryd.f5.params.all (Tryd.prog.readableRec ·)) = true := by kernel_rfl
theorem j5_4 : (namedTie Tryd.prog Rows.contentNoneRow.named Rows.contentNoneSpec.vars) = true := by kernel_rfl
theorem j5_5 : ((Rows.contentNoneRow.stops == [])) = true := by kernel_rfl
theorem j5_7 : ((Rows.contentNoneRow.knobs == [])) = true := by kernel_rfl
theorem j5_9 : ((Rows.contentNoneRow.inPlace == Tryd.prog.inPlace 5)) = true := by kernel_rfl
theorem j5_10 : ((Rows.contentNoneRow.unfollowed == Tryd.prog.unfollowed 5)) = true := by kernel_rfl
theorem j5_11 : ((Rows.contentNoneRow.recurses == Tryd.prog.recurses 5)) = true := by kernel_rfl
theorem j5_12 : ((Rows.contentNoneRow.named == Tryd.prog.varsNamed 5)) = true := by kernel_rfl
theorem j5_13 : ((Rows.contentNoneRow.maps == (Tryd.f5.params.toList ++ Rows.contentNoneSpec.plain.varTypes Tryd.prog).any (Tryd.prog.mapsRec ·))) = true := by kernel_rfl
theorem j5_14 : ((Rows.contentNoneRow.ifaces == (Tryd.f5.params.toList ++ Rows.contentNoneSpec.plain.varTypes Tryd.prog).any (Tryd.prog.ifacesRec ·))) = true := by kernel_rfl
theorem j5_15 : ((Rows.contentNoneRow.mapsOut == Tryd.prog.mapsAmong Tryd.f5.resultTypes.toList)) = true := by kernel_rfl
theorem j5_16 : ((Rows.contentNoneRow.loops == (Tryd.f5.params.toList ++ Rows.contentNoneSpec.plain.varTypes Tryd.prog).any (Tryd.prog.loopsFrom ·))) = true := by kernel_rfl
theorem j5_17 : ((Rows.contentNoneRow.wideKeys == (Tryd.f5.params.toList ++ Rows.contentNoneSpec.plain.varTypes Tryd.prog ++ Tryd.f5.resultTypes.toList).any (Tryd.prog.wideKeysFrom ·))) = true := by kernel_rfl
theorem j5_18 : (Rows.contentNoneSpec.vars.all (Tryd.prog.varReadable ·)) = true := by kernel_rfl
theorem j5_19 : (Tryd.f5.resultTypes.all (fun t => Tryd.prog.readableRec t && decide (t < Tryd.prog.types.size))) = true := by kernel_rfl
theorem j5_20 : ((Rows.contentNoneRow.ifacesOut == Tryd.f5.resultTypes.toList.any (Tryd.prog.ifacesRec ·))) = true := by kernel_rfl
theorem j5_21 : ((Rows.contentNoneRow.loopsOut == Tryd.f5.resultTypes.toList.any (Tryd.prog.loopsFrom ·))) = true := by kernel_rfl
theorem j5_22 : ((Rows.contentNoneRow.plainKeys == Tryd.prog.plainKeys)) = true := by kernel_rfl
theorem j5_23 : (Rows.contentNoneRow.shortTexts.isNone) = true := by kernel_rfl
theorem j5_26 : ((Rows.contentNoneRow.lifted == Tryd.prog.liftsFinal)) = true := by kernel_rfl
theorem j5_27 : ((Tryd.prog.make == some Rows.contentNoneRow.make)) = true := by kernel_rfl
theorem j5_28 : ((Rows.contentNoneRow.kinds == (if Rows.contentNoneRow.domain.isEmpty then [] else Tryd.f5.params.toList.map fun t => match Tryd.prog.underlying t with | some (.int k) => some k | _ => none))) = true := by kernel_rfl
theorem j5_29 : ((Rows.contentNoneRow.pinned == Rows.contentNoneRow.pinnedBy)) = true := by kernel_rfl
theorem j5_30 : ((Rows.contentNoneRow.veiled == (Tryd.f5.params.toList ++ Rows.contentNoneSpec.plain.varTypes Tryd.prog ++ Tryd.f5.resultTypes.toList).any (Tryd.prog.veiledRec ·))) = true := by kernel_rfl
theorem j5_31 : (Rows.contentNoneRow.veiledFits Tryd.prog Tryd.f5.params.toList (Tryd.f5.params.toList ++ Rows.contentNoneSpec.plain.varTypes Tryd.prog ++ Tryd.f5.resultTypes.toList)) = true := by kernel_rfl
theorem closed5 : joinedFacts Tryd.prog 5 Tryd.f5 Rows.contentNoneSpec Rows.contentNoneRow = true := by
  unfold joinedFacts
  exact (band (band (band (band (band (band (band (band (band (band (band (band (band (band (band (band (band (band (band (band (band (band (band (band (band (band (band (band (band (band (band j5_0 jp1) jp2) j5_3) j5_4) j5_5) jp6) j5_7) jp8) j5_9) j5_10) j5_11) j5_12) j5_13) j5_14) j5_15) j5_16) j5_17) j5_18) j5_19) j5_20) j5_21) j5_22) j5_23) jp24) jp25) j5_26) j5_27) j5_28) j5_29) j5_30) j5_31)
theorem named5 : Tryd.prog.funcNamed "proofprograms/proofprogramslaw23.ContentNone" = some 5 := by kernel_rfl
theorem goes5 : false = Rows.contentNoneRow.goesBy Tryd.prog := by kernel_rfl
theorem words5 : Rows.contentNoneRow.wfByText (OpenSpec.ofChange Rows.contentNoneSpec) = true := by kernel_rfl
theorem row5 : Rows.ContentNoneSaid :=
  OpenClaim.holds_of_wide 5 Tryd.f5 rfl rfl rfl rfl rfl rfl rfl ⟨rfl, rfl, rfl, rfl, rfl⟩ rfl rfl rfl rfl rfl named5 Tryd.func5 closed5
    (of_decide_eq_true (by kernel_rfl)) (by unfold Func.isWrapper; first | (rw [if_pos (by decide +kernel)]; kernel_rfl) | (rw [if_neg (by decide +kernel)]; exact ⟨rfl, rfl⟩))
    (fun os started H enc _ => lifted5 os started H enc)
end Go.Proofs.YtbcejphjmghkbaaDoor.V
