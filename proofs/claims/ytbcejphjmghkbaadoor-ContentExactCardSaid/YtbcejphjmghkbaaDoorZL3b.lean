/-
The law ContentExact returns true, whatever numbers, formula and sequent it is called with, and its arguments read behind the call as before. Conditions: the row's own (loops, laid); the card is tied.
-/
import Derived.Test.YtbcejphjmghkbaaDoorZL3a
import Derived.Test.YtbcejphjmghkbaaDoorZLF

set_option maxRecDepth 100000
namespace Go.Proofs.YtbcejphjmghkbaaDoor.V
open Go Go.Proofs Go.RowKit Go.ChangeShapes Go.WideShapes Go.ChangeAt
theorem j3_0 : (Rows.contentExactRow.wf (OpenSpec.ofChange Rows.contentExactSpec)) = true := by kernel_rfl
theorem j3_3 : (Tryd.f3.params.all (Tryd.prog.readableRec ·)) = true := by kernel_rfl
theorem j3_4 : (namedTie Tryd.prog Rows.contentExactRow.named Rows.contentExactSpec.vars) = true := by kernel_rfl
theorem j3_5 : ((Rows.contentExactRow.stops == [])) = true := by kernel_rfl
theorem j3_7 : ((Rows.contentExactRow.knobs == [])) = true := by kernel_rfl
theorem j3_9 : ((Rows.contentExactRow.inPlace == Tryd.prog.inPlace 3)) = true := by kernel_rfl
theorem j3_10 : ((Rows.contentExactRow.unfollowed == Tryd.prog.unfollowed 3)) = true := by kernel_rfl
theorem j3_11 : ((Rows.contentExactRow.recurses == Tryd.prog.recurses 3)) = true := by kernel_rfl
theorem j3_12 : ((Rows.contentExactRow.named == Tryd.prog.varsNamed 3)) = true := by kernel_rfl
theorem j3_13 : ((Rows.contentExactRow.maps == (Tryd.f3.params.toList ++ Rows.contentExactSpec.plain.varTypes Tryd.prog).any (Tryd.prog.mapsRec ·))) = true := by kernel_rfl
theorem j3_14 : ((Rows.contentExactRow.ifaces == (Tryd.f3.params.toList ++ Rows.contentExactSpec.plain.varTypes Tryd.prog).any (Tryd.prog.ifacesRec ·))) = true := by kernel_rfl
theorem j3_15 : ((Rows.contentExactRow.mapsOut == Tryd.prog.mapsAmong Tryd.f3.resultTypes.toList)) = true := by kernel_rfl
theorem j3_16 : ((Rows.contentExactRow.loops == (Tryd.f3.params.toList ++ Rows.contentExactSpec.plain.varTypes Tryd.prog).any (Tryd.prog.loopsFrom ·))) = true := by kernel_rfl
theorem j3_17 : ((Rows.contentExactRow.wideKeys == (Tryd.f3.params.toList ++ Rows.contentExactSpec.plain.varTypes Tryd.prog ++ Tryd.f3.resultTypes.toList).any (Tryd.prog.wideKeysFrom ·))) = true := by kernel_rfl
theorem j3_18 : (Rows.contentExactSpec.vars.all (Tryd.prog.varReadable ·)) = true := by kernel_rfl
theorem j3_19 : (Tryd.f3.resultTypes.all (fun t => Tryd.prog.readableRec t && decide (t < Tryd.prog.types.size))) = true := by kernel_rfl
theorem j3_20 : ((Rows.contentExactRow.ifacesOut == Tryd.f3.resultTypes.toList.any (Tryd.prog.ifacesRec ·))) = true := by kernel_rfl
theorem j3_21 : ((Rows.contentExactRow.loopsOut == Tryd.f3.resultTypes.toList.any (Tryd.prog.loopsFrom ·))) = true := by kernel_rfl
theorem j3_22 : ((Rows.contentExactRow.plainKeys == Tryd.prog.plainKeys)) = true := by kernel_rfl
theorem j3_23 : (Rows.contentExactRow.shortTexts.isNone) = true := by kernel_rfl
theorem j3_26 : ((Rows.contentExactRow.lifted == Tryd.prog.liftsFinal)) = true := by kernel_rfl
theorem j3_27 : ((Tryd.prog.make == some Rows.contentExactRow.make)) = true := by kernel_rfl
theorem j3_28 : ((Rows.contentExactRow.kinds == (if Rows.contentExactRow.domain.isEmpty then [] else Tryd.f3.params.toList.map fun t => match Tryd.prog.underlying t with | some (.int k) => some k | _ => none))) = true := by kernel_rfl
theorem j3_29 : ((Rows.contentExactRow.pinned == Rows.contentExactRow.pinnedBy)) = true := by kernel_rfl
theorem j3_30 : ((Rows.contentExactRow.veiled == (Tryd.f3.params.toList ++ Rows.contentExactSpec.plain.varTypes Tryd.prog ++ Tryd.f3.resultTypes.toList).any (Tryd.prog.veiledRec ·))) = true := by kernel_rfl
theorem j3_31 : (Rows.contentExactRow.veiledFits Tryd.prog Tryd.f3.params.toList (Tryd.f3.params.toList ++ Rows.contentExactSpec.plain.varTypes Tryd.prog ++ Tryd.f3.resultTypes.toList)) = true := by kernel_rfl
theorem closed3 : joinedFacts Tryd.prog 3 Tryd.f3 Rows.contentExactSpec Rows.contentExactRow = true := by
  unfold joinedFacts
  exact (band (band (band (band (band (band (band (band (band (band (band (band (band (band (band (band (band (band (band (band (band (band (band (band (band (band (band (band (band (band (band j3_0 jp1) jp2) j3_3) j3_4) j3_5) jp6) j3_7) jp8) j3_9) j3_10) j3_11) j3_12) j3_13) j3_14) j3_15) j3_16) j3_17) j3_18) j3_19) j3_20) j3_21) j3_22) j3_23) jp24) jp25) j3_26) j3_27) j3_28) j3_29) j3_30) j3_31)
theorem named3 : Tryd.prog.funcNamed "proofprograms/proofprogramslaw23.ContentExact" = some 3 := by kernel_rfl
theorem goes3 : false = Rows.contentExactRow.goesBy Tryd.prog := by kernel_rfl
theorem words3 : Rows.contentExactRow.wfByText (OpenSpec.ofChange Rows.contentExactSpec) = true := by kernel_rfl
theorem row3 : Rows.ContentExactSaid :=
  OpenClaim.holds_of_wide 3 Tryd.f3 rfl rfl rfl rfl rfl rfl rfl ⟨rfl, rfl, rfl, rfl, rfl⟩ rfl rfl rfl rfl rfl named3 Tryd.func3 closed3
    (of_decide_eq_true (by kernel_rfl)) (by unfold Func.isWrapper; first | (rw [if_pos (by decide +kernel)]; kernel_rfl) | (rw [if_neg (by decide +kernel)]; exact ⟨rfl, rfl⟩))
    (fun os started H enc _ => lifted3 os started H enc)
end Go.Proofs.YtbcejphjmghkbaaDoor.V
