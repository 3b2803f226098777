/-
  DERIVED. GIVEN WITH THE SEED: THE CARDS: each row of YtnpgbkldpdogjaaGreatDoorRows.lean that lists a variable, with what it lists TIED to the program's text (the seventh form; the later family's looks); each row that meets fmt, with fmt's text TOLD by the authors' own Lean function (tested against real Go, not proved from fmt's source: count such statements apart). THE CARD IS WHAT COUNTS. Prove the row's statement (the work); the ties are given (YtnpgbkldpdogjaaGreatDoorTie.lean); close each card by the builder's one call (the guide's Derived/Test/ToyasCard.lean, 'card_holds'). Laid BY PROGRAM, IN A SANDBOX (cutbox-door.mjs). By AI agents, Wed Nov 11 2026. No macro, syntax, notation, axiom, sorry.
-/
import Derived.Test.YtnpgbkldpdogjaaGreatDoorRows
import GoSem.ClaimSeven
namespace Go.Proofs.YtnpgbkldpdogjaaGreatDoor
namespace Rows

/-- THE TIED CARD OF 'proofprogramslaw24.RealizeNone'. -/
def realizeNoneCard : Claim7 := { stood := { row := realizeNoneRow, standIns := [], harness := (true, "6d91bb1f4fd387d8dac2e67064aa80095c2991145a69c939b88e89e650b51e9c"), looks := false }, kinds := [], alts := [], laidByText := true, laidKinds := [.data], laidTests := true, laidLooks := .later }
def RealizeNoneCardSaid : Prop := Claim7.holds Tryz.pinned (.plain (OpenSpec.ofChange realizeNoneSpec)) realizeNoneCard

/-- THE TIED CARD OF 'proofprogramslaw24.RealizePut'. -/
def realizePutCard : Claim7 := { stood := { row := realizePutRow, standIns := [], harness := (true, "6d91bb1f4fd387d8dac2e67064aa80095c2991145a69c939b88e89e650b51e9c"), looks := false }, kinds := [], alts := [], laidByText := true, laidKinds := [.data], laidTests := true, laidLooks := .later }
def RealizePutCardSaid : Prop := Claim7.holds Tryz.pinned (.plain (OpenSpec.ofChange realizePutSpec)) realizePutCard

/-- THE TIED CARD OF 'proofprogramslaw24.RealizeSequent'. -/
def realizeSequentCard : Claim7 := { stood := { row := realizeSequentRow, standIns := [], harness := (true, "6d91bb1f4fd387d8dac2e67064aa80095c2991145a69c939b88e89e650b51e9c"), looks := false }, kinds := [], alts := [], laidByText := true, laidKinds := [.data], laidTests := true, laidLooks := .later }
def RealizeSequentCardSaid : Prop := Claim7.holds Tryz.pinned (.plain (OpenSpec.ofChange realizeSequentSpec)) realizeSequentCard

/-- THE TIED CARD OF 'proofprogramslaw24.RealizeMatches'. -/
def realizeMatchesCard : Claim7 := { stood := { row := realizeMatchesRow, standIns := [], harness := (true, "6d91bb1f4fd387d8dac2e67064aa80095c2991145a69c939b88e89e650b51e9c"), looks := false }, kinds := [], alts := [], laidByText := true, laidKinds := [.data], laidTests := true, laidLooks := .later }
def RealizeMatchesCardSaid : Prop := Claim7.holds Tryz.pinned (.plain (OpenSpec.ofChange realizeMatchesSpec)) realizeMatchesCard

/-- THE TIED CARD OF 'proofprogramslaw24.RealizeAnd'. -/
def realizeAndCard : Claim7 := { stood := { row := realizeAndRow, standIns := [], harness := (true, "6d91bb1f4fd387d8dac2e67064aa80095c2991145a69c939b88e89e650b51e9c"), looks := false }, kinds := [], alts := [], laidByText := true, laidKinds := [.data], laidTests := true, laidLooks := .later }
def RealizeAndCardSaid : Prop := Claim7.holds Tryz.pinned (.plain (OpenSpec.ofChange realizeAndSpec)) realizeAndCard

/-- THE SECOND FORM's CARD OF 'proofprogramslaw24.RealizeNone'. -/
def realizeNoneUptoCard : Claim7 := { stood := { row := realizeNoneUptoRow, standIns := [], harness := (true, "6d91bb1f4fd387d8dac2e67064aa80095c2991145a69c939b88e89e650b51e9c"), looks := false }, kinds := [], alts := [], laidByText := true, laidKinds := [.data], laidTests := true, laidLooks := .later }
def RealizeNoneUptoCardSaid : Prop := Claim7.holds Tryz.pinned (.plain (OpenSpec.upto realizeNoneSpec)) realizeNoneUptoCard

/-- THE SECOND FORM's CARD OF 'proofprogramslaw24.RealizePut'. -/
def realizePutUptoCard : Claim7 := { stood := { row := realizePutUptoRow, standIns := [], harness := (true, "6d91bb1f4fd387d8dac2e67064aa80095c2991145a69c939b88e89e650b51e9c"), looks := false }, kinds := [], alts := [], laidByText := true, laidKinds := [.data], laidTests := true, laidLooks := .later }
def RealizePutUptoCardSaid : Prop := Claim7.holds Tryz.pinned (.plain (OpenSpec.upto realizePutSpec)) realizePutUptoCard

/-- THE SECOND FORM's CARD OF 'proofprogramslaw24.RealizeSequent'. -/
def realizeSequentUptoCard : Claim7 := { stood := { row := realizeSequentUptoRow, standIns := [], harness := (true, "6d91bb1f4fd387d8dac2e67064aa80095c2991145a69c939b88e89e650b51e9c"), looks := false }, kinds := [], alts := [], laidByText := true, laidKinds := [.data], laidTests := true, laidLooks := .later }
def RealizeSequentUptoCardSaid : Prop := Claim7.holds Tryz.pinned (.plain (OpenSpec.upto realizeSequentSpec)) realizeSequentUptoCard

/-- THE SECOND FORM's CARD OF 'proofprogramslaw24.RealizeMatches'. -/
def realizeMatchesUptoCard : Claim7 := { stood := { row := realizeMatchesUptoRow, standIns := [], harness := (true, "6d91bb1f4fd387d8dac2e67064aa80095c2991145a69c939b88e89e650b51e9c"), looks := false }, kinds := [], alts := [], laidByText := true, laidKinds := [.data], laidTests := true, laidLooks := .later }
def RealizeMatchesUptoCardSaid : Prop := Claim7.holds Tryz.pinned (.plain (OpenSpec.upto realizeMatchesSpec)) realizeMatchesUptoCard

/-- THE SECOND FORM's CARD OF 'proofprogramslaw24.RealizeAnd'. -/
def realizeAndUptoCard : Claim7 := { stood := { row := realizeAndUptoRow, standIns := [], harness := (true, "6d91bb1f4fd387d8dac2e67064aa80095c2991145a69c939b88e89e650b51e9c"), looks := false }, kinds := [], alts := [], laidByText := true, laidKinds := [.data], laidTests := true, laidLooks := .later }
def RealizeAndUptoCardSaid : Prop := Claim7.holds Tryz.pinned (.plain (OpenSpec.upto realizeAndSpec)) realizeAndUptoCard
end Rows
end Go.Proofs.YtnpgbkldpdogjaaGreatDoor
