/-
The law ClassContent returns true, whatever numbers it is called with, and its argument reads behind the call as before. Conditions: the row's own (loops, laid); the card is tied.
-/
import Derived.Test.YtbcejphjmghkbaaDoorZL7a
import Derived.Test.YtbcejphjmghkbaaDoorZLF

set_option maxRecDepth 100000
namespace Go.Proofs.YtbcejphjmghkbaaDoor.V
open Go Go.Proofs Go.RowKit Go.ChangeShapes Go.WideShapes Go.ChangeAt
theorem j7_0 : (Rows.classContentRow.wf (OpenSpec.ofChange Rows.classContentSpec)) = true := by kernel_rfl
theorem j7_3 : (Tryd.f7.params.all (Tryd.prog.readableRec ·)) = true := by kernel_rfl
theorem j7_4 : (namedTie Tryd.prog Rows.classContentRow.named Rows.classContentSpec.vars) = true := by kernel_rfl
theorem j7_5 : ((Rows.classContentRow.stops == [])) = true := by kernel_rfl
theorem j7_7 : ((Rows.classContentRow.knobs == [])) = true := by kernel_rfl
theorem j7_9 : ((Rows.classContentRow.inPlace == Tryd.prog.inPlace 7)) = true := by kernel_rfl
theorem j7_10 : ((Rows.classContentRow.unfollowed == Tryd.prog.unfollowed 7)) = true := by kernel_rfl
theorem j7_11 : ((Rows.classContentRow.recurses == Tryd.prog.recurses 7)) = true := by kernel_rfl
theorem j7_12 : ((Rows.classContentRow.named == Tryd.prog.varsNamed 7)) = true := by kernel_rfl
theorem j7_13 : ((Rows.classContentRow.maps == (Tryd.f7.params.toList ++ Rows.classContentSpec.plain.varTypes Tryd.prog).any (Tryd.prog.mapsRec ·))) = true := by kernel_rfl
theorem j7_14 : ((Rows.classContentRow.ifaces == (Tryd.f7.params.toList ++ Rows.classContentSpec.plain.varTypes Tryd.prog).any (Tryd.prog.ifacesRec ·))) = true := by kernel_rfl
theorem j7_15 : ((Rows.classContentRow.mapsOut == Tryd.prog.mapsAmong Tryd.f7.resultTypes.toList)) = true := by kernel_rfl
theorem j7_16 : ((Rows.classContentRow.loops == (Tryd.f7.params.toList ++ Rows.classContentSpec.plain.varTypes Tryd.prog).any (Tryd.prog.loopsFrom ·))) = true := by kernel_rfl
theorem j7_17 : ((Rows.classContentRow.wideKeys == (Tryd.f7.params.toList ++ Rows.classContentSpec.plain.varTypes Tryd.prog ++ Tryd.f7.resultTypes.toList).any (Tryd.prog.wideKeysFrom ·))) = true := by kernel_rfl
theorem j7_18 : (Rows.classContentSpec.vars.all (Tryd.prog.varReadable ·)) = true := by kernel_rfl
theorem j7_19 : (Tryd.f7.resultTypes.all (fun t => Tryd.prog.readableRec t && decide (t < Tryd.prog.types.size))) = true := by kernel_rfl
theorem j7_20 : ((Rows.classContentRow.ifacesOut == Tryd.f7.resultTypes.toList.any (Tryd.prog.ifacesRec ·))) = true := by kernel_rfl
theorem j7_21 : ((Rows.classContentRow.loopsOut == Tryd.f7.resultTypes.toList.any (Tryd.prog.loopsFrom ·))) = true := by kernel_rfl
theorem j7_22 : ((Rows.classContentRow.plainKeys == Tryd.prog.plainKeys)) = true := by kernel_rfl
theorem j7_23 : (Rows.classContentRow.shortTexts.isNone) = true := by kernel_rfl
theorem j7_26 : ((Rows.classContentRow.lifted == Tryd.prog.liftsFinal)) = true := by kernel_rfl
theorem j7_27 : ((Tryd.prog.make == some Rows.classContentRow.make)) = true := by kernel_rfl
theorem j7_28 : ((Rows.classContentRow.kinds == (if Rows.classContentRow.domain.isEmpty then [] else Tryd.f7.params.toList.map fun t => match Tryd.prog.underlying t with | some (.int k) => some k | _ => none))) = true := by kernel_rfl
theorem j7_29 : ((Rows.classContentRow.pinned == Rows.classContentRow.pinnedBy)) = true := by kernel_rfl
theorem j7_30 : ((Rows.classContentRow.veiled == (Tryd.f7.params.toList ++ Rows.classContentSpec.plain.varTypes Tryd.prog ++ Tryd.f7.resultTypes.toList).any (Tryd.prog.veiledRec ·))) = true := by kernel_rfl
theorem j7_31 : (Rows.classContentRow.veiledFits Tryd.prog Tryd.f7.params.toList (Tryd.f7.params.toList ++ Rows.classContentSpec.plain.varTypes Tryd.prog ++ Tryd.f7.resultTypes.toList)) = true := by kernel_rfl
theorem closed7 : joinedFacts Tryd.prog 7 Tryd.f7 Rows.classContentSpec Rows.classContentRow = true := by
  unfold joinedFacts
  exact (band (band (band (band (band (band (band (band (band (band (band (band (band (band (band (band (band (band (band (band (band (band (band (band (band (band (band (band (band (band (band j7_0 jp1) jp2) j7_3) j7_4) j7_5) jp6) j7_7) jp8) j7_9) j7_10) j7_11) j7_12) j7_13) j7_14) j7_15) j7_16) j7_17) j7_18) j7_19) j7_20) j7_21) j7_22) j7_23) jp24) jp25) j7_26) j7_27) j7_28) j7_29) j7_30) j7_31)
theorem named7 : Tryd.prog.funcNamed "proofprograms/proofprogramslaw08.ClassContent" = some 7 := by kernel_rfl
theorem goes7 : false = Rows.classContentRow.goesBy Tryd.prog := by kernel_rfl
theorem words7 : Rows.classContentRow.wfByText (OpenSpec.ofChange Rows.classContentSpec) = true := by kernel_rfl
theorem row7 : Rows.ClassContentSaid :=
  OpenClaim.holds_of_wide 7 Tryd.f7 rfl rfl rfl rfl rfl rfl rfl ⟨rfl, rfl, rfl, rfl, rfl⟩ rfl rfl rfl rfl rfl named7 Tryd.func7 closed7
    (of_decide_eq_true (by kernel_rfl)) (by unfold Func.isWrapper; first | (rw [if_pos (by decide +kernel)]; kernel_rfl) | (rw [if_neg (by decide +kernel)]; exact ⟨rfl, rfl⟩))
    (fun os started H enc _ => lifted7 os started H enc)
end Go.Proofs.YtbcejphjmghkbaaDoor.V
