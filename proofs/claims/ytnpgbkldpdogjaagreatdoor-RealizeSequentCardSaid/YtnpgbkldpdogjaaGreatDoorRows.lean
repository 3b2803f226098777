/-
  NARROWER THAN 'FOR EVERY INPUT', by the rows' own cells (each row's printed sentence says how): RealizeNone: laid · RealizePut: laid · RealizeSequent: laid · RealizeMatches: laid · RealizeAnd: laid.
  DERIVED. THE GIVEN ROWS OF THIS SEAT. 5 by the template 'for every input the law returns true; each argument reads behind the call as it read before'; 0 by the template 'total and deterministic' (their statements: YtnpgbkldpdogjaaGreatDoorTotals.lean).
  GIVEN WITH THE SEED: the statements are not yours to turn. If you find one false, say at which input.
  Laid BY PROGRAM, IN A SANDBOX (cutbox-rows.mjs): the forced cells as the released guide's own fill.sh prints them over the translation 3608d5e6da928611… (all of the seat's roots in one cut). By AI agents, Wed Nov 11 2026. No macro, syntax, notation, axiom, sorry.
-/
import Derived.Test.YtnpgbkldpdogjaaGreatDoorChecked
import GoSem.Claim
import GoSem.ClaimJoined
import GoSem.ClaimMapViews
import Derived.JoinedTies
import Derived.KernelRfl
namespace Go.Proofs.YtnpgbkldpdogjaaGreatDoor
/- THE CELL 'sum', in the pinned program and in every row, IS THE sha256 OF THE DUMP (.gsa) THAT YtnpgbkldpdogjaaGreatDoorProg.lean LOADS. Nothing in Lean hashes anything: it is a label: what it is worth is what the hold of that sum in a sandbox is worth. -/
noncomputable def Tryz.pinned : Pinned := { name := "ytnpgbkldpdogjaagreatdoor", sum := "3608d5e6da9286112933c328e6fa8543850cf7518a0974d39d49a29713629bd0", checked := Tryz.checked }
namespace Rows
def none {H : Type} : Left H := { results := [], args := [] }

/- WHAT THE LISTED PACKAGE-LEVEL VARIABLES READ AS WHEN THE CALL BEGINS. Each datum BY PROGRAM (the guide's laid-datum.mjs) off the statement by which the dump's own 'gosem.cut.vars' lays the variable. In a bare row this is a premise. The card (YtnpgbkldpdogjaaGreatDoorCards.lean) ties it to the program's text. -/
def laid_proofprograms_tree_arities {H : Type} : DataW H := .agg [.lit (.int .i64 0), .lit (.int .i64 0), .lit (.int .i64 1), .lit (.int .i64 2), .lit (.int .i64 0), .lit (.int .i64 1), .lit (.int .i64 3), .lit (.int .i64 0), .lit (.int .i64 2), .lit (.int .i64 3), .lit (.int .i64 2), .lit (.int .i64 1), .lit (.int .i64 1), .lit (.int .i64 0)]

/-- 'proofprogramslaw24.RealizeNone': WHATEVER THE INPUT: true; the input reads as it did. -/
def realizeNoneSpec : ChangeSpec := { name := "realizeNone", fn := fun _ => fun
  | [d] => { results := [.lit (.bool true)], args := [d] }
  | _ => none }
def realizeNoneRow : OpenClaim := { program := "ytnpgbkldpdogjaagreatdoor", sum := "3608d5e6da9286112933c328e6fa8543850cf7518a0974d39d49a29713629bd0", func := "proofprograms/proofprogramslaw24.RealizeNone", spec := "realizeNone", unfollowed := true, recurses := true, named := ["proofprograms/tree.arities"], apart := false, laid := [("proofprograms/tree.arities", laid_proofprograms_tree_arities)] }
def RealizeNoneSaid : Prop := realizeNoneRow.holds Tryz.pinned (OpenSpec.ofChange realizeNoneSpec)

/-- ITS FALSE NEIGHBOUR: 'it returns false'. Refute it at one input. -/
def realizeNoneWrong : ChangeSpec := { name := "realizeNone", fn := fun _ => fun
  | [d] => { results := [.lit (.bool false)], args := [d] }
  | _ => none }
def RealizeNoneWrongFalsely : Prop := realizeNoneRow.holds Tryz.pinned (OpenSpec.ofChange realizeNoneWrong)

/-- 'proofprogramslaw24.RealizePut': WHATEVER THE INPUT: true; the input reads as it did. -/
def realizePutSpec : ChangeSpec := { name := "realizePut", fn := fun _ => fun
  | [d] => { results := [.lit (.bool true)], args := [d] }
  | _ => none }
def realizePutRow : OpenClaim := { program := "ytnpgbkldpdogjaagreatdoor", sum := "3608d5e6da9286112933c328e6fa8543850cf7518a0974d39d49a29713629bd0", func := "proofprograms/proofprogramslaw24.RealizePut", spec := "realizePut", unfollowed := true, recurses := true, named := ["proofprograms/tree.arities"], apart := false, laid := [("proofprograms/tree.arities", laid_proofprograms_tree_arities)] }
def RealizePutSaid : Prop := realizePutRow.holds Tryz.pinned (OpenSpec.ofChange realizePutSpec)

/-- ITS FALSE NEIGHBOUR: 'it returns false'. Refute it at one input. -/
def realizePutWrong : ChangeSpec := { name := "realizePut", fn := fun _ => fun
  | [d] => { results := [.lit (.bool false)], args := [d] }
  | _ => none }
def RealizePutWrongFalsely : Prop := realizePutRow.holds Tryz.pinned (OpenSpec.ofChange realizePutWrong)

/-- 'proofprogramslaw24.RealizeSequent': WHATEVER THE INPUT: true; the input reads as it did. -/
def realizeSequentSpec : ChangeSpec := { name := "realizeSequent", fn := fun _ => fun
  | [d] => { results := [.lit (.bool true)], args := [d] }
  | _ => none }
def realizeSequentRow : OpenClaim := { program := "ytnpgbkldpdogjaagreatdoor", sum := "3608d5e6da9286112933c328e6fa8543850cf7518a0974d39d49a29713629bd0", func := "proofprograms/proofprogramslaw24.RealizeSequent", spec := "realizeSequent", unfollowed := true, recurses := true, named := ["proofprograms/tree.arities"], apart := false, laid := [("proofprograms/tree.arities", laid_proofprograms_tree_arities)] }
def RealizeSequentSaid : Prop := realizeSequentRow.holds Tryz.pinned (OpenSpec.ofChange realizeSequentSpec)

/-- ITS FALSE NEIGHBOUR: 'it returns false'. Refute it at one input. -/
def realizeSequentWrong : ChangeSpec := { name := "realizeSequent", fn := fun _ => fun
  | [d] => { results := [.lit (.bool false)], args := [d] }
  | _ => none }
def RealizeSequentWrongFalsely : Prop := realizeSequentRow.holds Tryz.pinned (OpenSpec.ofChange realizeSequentWrong)

/-- 'proofprogramslaw24.RealizeMatches': WHATEVER THE INPUT: true; the input reads as it did. -/
def realizeMatchesSpec : ChangeSpec := { name := "realizeMatches", fn := fun _ => fun
  | [d] => { results := [.lit (.bool true)], args := [d] }
  | _ => none }
def realizeMatchesRow : OpenClaim := { program := "ytnpgbkldpdogjaagreatdoor", sum := "3608d5e6da9286112933c328e6fa8543850cf7518a0974d39d49a29713629bd0", func := "proofprograms/proofprogramslaw24.RealizeMatches", spec := "realizeMatches", unfollowed := true, recurses := true, named := ["proofprograms/tree.arities"], apart := false, laid := [("proofprograms/tree.arities", laid_proofprograms_tree_arities)] }
def RealizeMatchesSaid : Prop := realizeMatchesRow.holds Tryz.pinned (OpenSpec.ofChange realizeMatchesSpec)

/-- ITS FALSE NEIGHBOUR: 'it returns false'. Refute it at one input. -/
def realizeMatchesWrong : ChangeSpec := { name := "realizeMatches", fn := fun _ => fun
  | [d] => { results := [.lit (.bool false)], args := [d] }
  | _ => none }
def RealizeMatchesWrongFalsely : Prop := realizeMatchesRow.holds Tryz.pinned (OpenSpec.ofChange realizeMatchesWrong)

/-- 'proofprogramslaw24.RealizeAnd': WHATEVER THE INPUT: true; the input reads as it did. -/
def realizeAndSpec : ChangeSpec := { name := "realizeAnd", fn := fun _ => fun
  | [d] => { results := [.lit (.bool true)], args := [d] }
  | _ => none }
def realizeAndRow : OpenClaim := { program := "ytnpgbkldpdogjaagreatdoor", sum := "3608d5e6da9286112933c328e6fa8543850cf7518a0974d39d49a29713629bd0", func := "proofprograms/proofprogramslaw24.RealizeAnd", spec := "realizeAnd", unfollowed := true, recurses := true, named := ["proofprograms/tree.arities"], apart := false, laid := [("proofprograms/tree.arities", laid_proofprograms_tree_arities)] }
def RealizeAndSaid : Prop := realizeAndRow.holds Tryz.pinned (OpenSpec.ofChange realizeAndSpec)

/-- ITS FALSE NEIGHBOUR: 'it returns false'. Refute it at one input. -/
def realizeAndWrong : ChangeSpec := { name := "realizeAnd", fn := fun _ => fun
  | [d] => { results := [.lit (.bool false)], args := [d] }
  | _ => none }
def RealizeAndWrongFalsely : Prop := realizeAndRow.holds Tryz.pinned (OpenSpec.ofChange realizeAndWrong)

/- THE SECOND FORM. 'bulk': how many values and letters a reading holds, each counted each time it is reached (what is shared counts as often as it is met; a slice's spare places count too). A statement '..UptoSaid' is the law's where the arguments, and the package variables that the reading takes, are together of bulk at most 1048576: NARROWER than '..Said'. Prove '..Said' where nothing that the law and all that it calls make is longer than what came in: it says more and counts as full. Else prove '..UptoSaid'. A law counts once. -/
mutual
def uptoBulk {H : Type} : DataW H → Nat
  | .lit (.string bytes) => bytes.length + 1
  | .lit _ => 1
  | .nil => 1
  | .ptr d => uptoBulk d + 1
  | .slice elems spare => uptoBulkAll elems + uptoBulkAll spare + 1
  | .agg parts => uptoBulkAll parts + 1
  | .iface _ d => uptoBulk d + 1
  | .map entries => uptoBulkEntries entries + 1
  | .held _ => 1
def uptoBulkAll {H : Type} : List (DataW H) → Nat
  | [] => 0
  | d :: r => uptoBulk d + uptoBulkAll r
def uptoBulkEntries {H : Type} : List (Lit × DataW H) → Nat
  | [] => 0
  | x :: r => uptoBulkEntry x + uptoBulkEntries r
def uptoBulkEntry {H : Type} : Lit × DataW H → Nat
  | (.string bytes, d) => bytes.length + uptoBulk d + 1
  | (_, d) => uptoBulk d + 1
 end
def uptoSmall : (H : Type) → List (DataW H) → Bool := fun _ ds => decide (uptoBulkAll ds ≤ 1048576)
def OpenSpec.upto (s : _root_.Go.ChangeSpec) : _root_.Go.OpenSpec := { _root_.Go.OpenSpec.ofChange s with cond := some uptoSmall }

/-- 'proofprogramslaw24.RealizeNone', WHERE WHAT IT READS IS OF BULK AT MOST 1048576: true; the input reads as it did. -/
def realizeNoneUptoRow : OpenClaim := { program := "ytnpgbkldpdogjaagreatdoor", sum := "3608d5e6da9286112933c328e6fa8543850cf7518a0974d39d49a29713629bd0", func := "proofprograms/proofprogramslaw24.RealizeNone", spec := "realizeNone", unfollowed := true, recurses := true, named := ["proofprograms/tree.arities"], apart := false, laid := [("proofprograms/tree.arities", laid_proofprograms_tree_arities)], narrowed := true }
def RealizeNoneUptoSaid : Prop := realizeNoneUptoRow.holds Tryz.pinned (OpenSpec.upto realizeNoneSpec)

/-- 'proofprogramslaw24.RealizePut', WHERE WHAT IT READS IS OF BULK AT MOST 1048576: true; the input reads as it did. -/
def realizePutUptoRow : OpenClaim := { program := "ytnpgbkldpdogjaagreatdoor", sum := "3608d5e6da9286112933c328e6fa8543850cf7518a0974d39d49a29713629bd0", func := "proofprograms/proofprogramslaw24.RealizePut", spec := "realizePut", unfollowed := true, recurses := true, named := ["proofprograms/tree.arities"], apart := false, laid := [("proofprograms/tree.arities", laid_proofprograms_tree_arities)], narrowed := true }
def RealizePutUptoSaid : Prop := realizePutUptoRow.holds Tryz.pinned (OpenSpec.upto realizePutSpec)

/-- 'proofprogramslaw24.RealizeSequent', WHERE WHAT IT READS IS OF BULK AT MOST 1048576: true; the input reads as it did. -/
def realizeSequentUptoRow : OpenClaim := { program := "ytnpgbkldpdogjaagreatdoor", sum := "3608d5e6da9286112933c328e6fa8543850cf7518a0974d39d49a29713629bd0", func := "proofprograms/proofprogramslaw24.RealizeSequent", spec := "realizeSequent", unfollowed := true, recurses := true, named := ["proofprograms/tree.arities"], apart := false, laid := [("proofprograms/tree.arities", laid_proofprograms_tree_arities)], narrowed := true }
def RealizeSequentUptoSaid : Prop := realizeSequentUptoRow.holds Tryz.pinned (OpenSpec.upto realizeSequentSpec)

/-- 'proofprogramslaw24.RealizeMatches', WHERE WHAT IT READS IS OF BULK AT MOST 1048576: true; the input reads as it did. -/
def realizeMatchesUptoRow : OpenClaim := { program := "ytnpgbkldpdogjaagreatdoor", sum := "3608d5e6da9286112933c328e6fa8543850cf7518a0974d39d49a29713629bd0", func := "proofprograms/proofprogramslaw24.RealizeMatches", spec := "realizeMatches", unfollowed := true, recurses := true, named := ["proofprograms/tree.arities"], apart := false, laid := [("proofprograms/tree.arities", laid_proofprograms_tree_arities)], narrowed := true }
def RealizeMatchesUptoSaid : Prop := realizeMatchesUptoRow.holds Tryz.pinned (OpenSpec.upto realizeMatchesSpec)

/-- 'proofprogramslaw24.RealizeAnd', WHERE WHAT IT READS IS OF BULK AT MOST 1048576: true; the input reads as it did. -/
def realizeAndUptoRow : OpenClaim := { program := "ytnpgbkldpdogjaagreatdoor", sum := "3608d5e6da9286112933c328e6fa8543850cf7518a0974d39d49a29713629bd0", func := "proofprograms/proofprogramslaw24.RealizeAnd", spec := "realizeAnd", unfollowed := true, recurses := true, named := ["proofprograms/tree.arities"], apart := false, laid := [("proofprograms/tree.arities", laid_proofprograms_tree_arities)], narrowed := true }
def RealizeAndUptoSaid : Prop := realizeAndUptoRow.holds Tryz.pinned (OpenSpec.upto realizeAndSpec)

end Rows
end Go.Proofs.YtnpgbkldpdogjaaGreatDoor
