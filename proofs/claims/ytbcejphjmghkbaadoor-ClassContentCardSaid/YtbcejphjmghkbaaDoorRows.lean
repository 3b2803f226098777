/-
  NARROWER THAN 'FOR EVERY INPUT', by the rows' own cells (each row's printed sentence says how): ContentExact: loops, laid · ContentKeeps: laid · ContentNone: laid · ContentUniform: laid · ClassContent: laid · ReduceTypes: laid · ReduceCloses: laid · ReduceAdds: laid · ReduceParts: laid · ReduceMatches: laid · ReduceDoes: loops, laid · ReduceUnique: laid.
  DERIVED. THE GIVEN ROWS OF THIS SEAT. 12 by the template 'for every input the law returns true; each argument reads behind the call as it read before'; 0 by the template 'total and deterministic' (their statements: YtbcejphjmghkbaaDoorTotals.lean).
  GIVEN WITH THE SEED: the statements are not yours to turn. If you find one false, say at which input.
  Laid BY PROGRAM, IN A SANDBOX (cutbox-rows.mjs): the forced cells as the released guide's own fill.sh prints them over the translation 70fc22d33c73c469… (all of the seat's roots in one cut). By AI agents, Wed Nov 11 2026. No macro, syntax, notation, axiom, sorry.
-/
import Derived.Test.YtbcejphjmghkbaaDoorChecked
import GoSem.Claim
import GoSem.ClaimJoined
import GoSem.ClaimMapViews
import Derived.JoinedTies
import Derived.KernelRfl
namespace Go.Proofs.YtbcejphjmghkbaaDoor
/- THE CELL 'sum', in the pinned program and in every row, IS THE sha256 OF THE DUMP (.gsa) THAT YtbcejphjmghkbaaDoorProg.lean LOADS. Nothing in Lean hashes anything: it is a label: what it is worth is what the hold of that sum in a sandbox is worth. -/
noncomputable def Tryd.pinned : Pinned := { name := "ytbcejphjmghkbaadoor", sum := "70fc22d33c73c46910649b022735f7603396ab13321933a44c5b50c2f6dc7ddf", checked := Tryd.checked }
namespace Rows
def none {H : Type} : Left H := { results := [], args := [] }

/- WHAT THE LISTED PACKAGE-LEVEL VARIABLES READ AS WHEN THE CALL BEGINS. Each datum BY PROGRAM (the guide's laid-datum.mjs) off the statement by which the dump's own 'gosem.cut.vars' lays the variable. In a bare row this is a premise. The card (YtbcejphjmghkbaaDoorCards.lean) ties it to the program's text. -/
def laid_proofprograms_tree_arities {H : Type} : DataW H := .agg [.lit (.int .i64 0), .lit (.int .i64 0), .lit (.int .i64 1), .lit (.int .i64 2), .lit (.int .i64 0), .lit (.int .i64 1), .lit (.int .i64 3), .lit (.int .i64 0), .lit (.int .i64 2), .lit (.int .i64 3), .lit (.int .i64 2), .lit (.int .i64 1), .lit (.int .i64 1), .lit (.int .i64 0)]

/-- 'proofprogramslaw23.ContentExact': WHATEVER THE INPUT: true; the input reads as it did. -/
def contentExactSpec : ChangeSpec := { name := "contentExact", fn := fun _ => fun
  | [d1, d2, d3] => { results := [.lit (.bool true)], args := [d1, d2, d3] }
  | _ => none }
def contentExactRow : OpenClaim := { program := "ytbcejphjmghkbaadoor", sum := "70fc22d33c73c46910649b022735f7603396ab13321933a44c5b50c2f6dc7ddf", func := "proofprograms/proofprogramslaw23.ContentExact", spec := "contentExact", recurses := true, named := ["proofprograms/tree.arities"], loops := true, apart := false, laid := [("proofprograms/tree.arities", laid_proofprograms_tree_arities)] }
def ContentExactSaid : Prop := contentExactRow.holds Tryd.pinned (OpenSpec.ofChange contentExactSpec)

/-- ITS FALSE NEIGHBOUR: 'it returns false'. Refute it at one input. -/
def contentExactWrong : ChangeSpec := { name := "contentExact", fn := fun _ => fun
  | [d1, d2, d3] => { results := [.lit (.bool false)], args := [d1, d2, d3] }
  | _ => none }
def ContentExactWrongFalsely : Prop := contentExactRow.holds Tryd.pinned (OpenSpec.ofChange contentExactWrong)

/-- 'proofprogramslaw23.ContentKeeps': WHATEVER THE INPUT: true; the input reads as it did. -/
def contentKeepsSpec : ChangeSpec := { name := "contentKeeps", fn := fun _ => fun
  | [d] => { results := [.lit (.bool true)], args := [d] }
  | _ => none }
def contentKeepsRow : OpenClaim := { program := "ytbcejphjmghkbaadoor", sum := "70fc22d33c73c46910649b022735f7603396ab13321933a44c5b50c2f6dc7ddf", func := "proofprograms/proofprogramslaw23.ContentKeeps", spec := "contentKeeps", recurses := true, named := ["proofprograms/tree.arities"], apart := false, laid := [("proofprograms/tree.arities", laid_proofprograms_tree_arities)] }
def ContentKeepsSaid : Prop := contentKeepsRow.holds Tryd.pinned (OpenSpec.ofChange contentKeepsSpec)

/-- ITS FALSE NEIGHBOUR: 'it returns false'. Refute it at one input. -/
def contentKeepsWrong : ChangeSpec := { name := "contentKeeps", fn := fun _ => fun
  | [d] => { results := [.lit (.bool false)], args := [d] }
  | _ => none }
def ContentKeepsWrongFalsely : Prop := contentKeepsRow.holds Tryd.pinned (OpenSpec.ofChange contentKeepsWrong)

/-- 'proofprogramslaw23.ContentNone': WHATEVER THE INPUT: true; the input reads as it did. -/
def contentNoneSpec : ChangeSpec := { name := "contentNone", fn := fun _ => fun
  | [d] => { results := [.lit (.bool true)], args := [d] }
  | _ => none }
def contentNoneRow : OpenClaim := { program := "ytbcejphjmghkbaadoor", sum := "70fc22d33c73c46910649b022735f7603396ab13321933a44c5b50c2f6dc7ddf", func := "proofprograms/proofprogramslaw23.ContentNone", spec := "contentNone", recurses := true, named := ["proofprograms/tree.arities"], apart := false, laid := [("proofprograms/tree.arities", laid_proofprograms_tree_arities)] }
def ContentNoneSaid : Prop := contentNoneRow.holds Tryd.pinned (OpenSpec.ofChange contentNoneSpec)

/-- ITS FALSE NEIGHBOUR: 'it returns false'. Refute it at one input. -/
def contentNoneWrong : ChangeSpec := { name := "contentNone", fn := fun _ => fun
  | [d] => { results := [.lit (.bool false)], args := [d] }
  | _ => none }
def ContentNoneWrongFalsely : Prop := contentNoneRow.holds Tryd.pinned (OpenSpec.ofChange contentNoneWrong)

/-- 'proofprogramslaw23.ContentUniform': WHATEVER THE INPUT: true; the input reads as it did. -/
def contentUniformSpec : ChangeSpec := { name := "contentUniform", fn := fun _ => fun
  | [d] => { results := [.lit (.bool true)], args := [d] }
  | _ => none }
def contentUniformRow : OpenClaim := { program := "ytbcejphjmghkbaadoor", sum := "70fc22d33c73c46910649b022735f7603396ab13321933a44c5b50c2f6dc7ddf", func := "proofprograms/proofprogramslaw23.ContentUniform", spec := "contentUniform", recurses := true, named := ["proofprograms/tree.arities"], apart := false, laid := [("proofprograms/tree.arities", laid_proofprograms_tree_arities)] }
def ContentUniformSaid : Prop := contentUniformRow.holds Tryd.pinned (OpenSpec.ofChange contentUniformSpec)

/-- ITS FALSE NEIGHBOUR: 'it returns false'. Refute it at one input. -/
def contentUniformWrong : ChangeSpec := { name := "contentUniform", fn := fun _ => fun
  | [d] => { results := [.lit (.bool false)], args := [d] }
  | _ => none }
def ContentUniformWrongFalsely : Prop := contentUniformRow.holds Tryd.pinned (OpenSpec.ofChange contentUniformWrong)

/-- 'proofprogramslaw08.ClassContent': WHATEVER THE INPUT: true; the input reads as it did. -/
def classContentSpec : ChangeSpec := { name := "classContent", fn := fun _ => fun
  | [d] => { results := [.lit (.bool true)], args := [d] }
  | _ => none }
def classContentRow : OpenClaim := { program := "ytbcejphjmghkbaadoor", sum := "70fc22d33c73c46910649b022735f7603396ab13321933a44c5b50c2f6dc7ddf", func := "proofprograms/proofprogramslaw08.ClassContent", spec := "classContent", unfollowed := true, recurses := true, named := ["proofprograms/tree.arities"], apart := false, laid := [("proofprograms/tree.arities", laid_proofprograms_tree_arities)] }
def ClassContentSaid : Prop := classContentRow.holds Tryd.pinned (OpenSpec.ofChange classContentSpec)

/-- ITS FALSE NEIGHBOUR: 'it returns false'. Refute it at one input. -/
def classContentWrong : ChangeSpec := { name := "classContent", fn := fun _ => fun
  | [d] => { results := [.lit (.bool false)], args := [d] }
  | _ => none }
def ClassContentWrongFalsely : Prop := classContentRow.holds Tryd.pinned (OpenSpec.ofChange classContentWrong)

/-- 'proofprogramslaw04.ReduceTypes': WHATEVER THE INPUT: true; the input reads as it did. -/
def reduceTypesSpec : ChangeSpec := { name := "reduceTypes", fn := fun _ => fun
  | [d] => { results := [.lit (.bool true)], args := [d] }
  | _ => none }
def reduceTypesRow : OpenClaim := { program := "ytbcejphjmghkbaadoor", sum := "70fc22d33c73c46910649b022735f7603396ab13321933a44c5b50c2f6dc7ddf", func := "proofprograms/proofprogramslaw04.ReduceTypes", spec := "reduceTypes", unfollowed := true, recurses := true, named := ["proofprograms/tree.arities"], apart := false, laid := [("proofprograms/tree.arities", laid_proofprograms_tree_arities)] }
def ReduceTypesSaid : Prop := reduceTypesRow.holds Tryd.pinned (OpenSpec.ofChange reduceTypesSpec)

/-- ITS FALSE NEIGHBOUR: 'it returns false'. Refute it at one input. -/
def reduceTypesWrong : ChangeSpec := { name := "reduceTypes", fn := fun _ => fun
  | [d] => { results := [.lit (.bool false)], args := [d] }
  | _ => none }
def ReduceTypesWrongFalsely : Prop := reduceTypesRow.holds Tryd.pinned (OpenSpec.ofChange reduceTypesWrong)

/-- 'proofprogramslaw04.ReduceCloses': WHATEVER THE INPUT: true; the input reads as it did. -/
def reduceClosesSpec : ChangeSpec := { name := "reduceCloses", fn := fun _ => fun
  | [d] => { results := [.lit (.bool true)], args := [d] }
  | _ => none }
def reduceClosesRow : OpenClaim := { program := "ytbcejphjmghkbaadoor", sum := "70fc22d33c73c46910649b022735f7603396ab13321933a44c5b50c2f6dc7ddf", func := "proofprograms/proofprogramslaw04.ReduceCloses", spec := "reduceCloses", unfollowed := true, recurses := true, named := ["proofprograms/tree.arities"], apart := false, laid := [("proofprograms/tree.arities", laid_proofprograms_tree_arities)] }
def ReduceClosesSaid : Prop := reduceClosesRow.holds Tryd.pinned (OpenSpec.ofChange reduceClosesSpec)

/-- ITS FALSE NEIGHBOUR: 'it returns false'. Refute it at one input. -/
def reduceClosesWrong : ChangeSpec := { name := "reduceCloses", fn := fun _ => fun
  | [d] => { results := [.lit (.bool false)], args := [d] }
  | _ => none }
def ReduceClosesWrongFalsely : Prop := reduceClosesRow.holds Tryd.pinned (OpenSpec.ofChange reduceClosesWrong)

/-- 'proofprogramslaw04.ReduceAdds': WHATEVER THE INPUT: true; the input reads as it did. -/
def reduceAddsSpec : ChangeSpec := { name := "reduceAdds", fn := fun _ => fun
  | [d1, d2] => { results := [.lit (.bool true)], args := [d1, d2] }
  | _ => none }
def reduceAddsRow : OpenClaim := { program := "ytbcejphjmghkbaadoor", sum := "70fc22d33c73c46910649b022735f7603396ab13321933a44c5b50c2f6dc7ddf", func := "proofprograms/proofprogramslaw04.ReduceAdds", spec := "reduceAdds", unfollowed := true, recurses := true, named := ["proofprograms/tree.arities"], apart := false, laid := [("proofprograms/tree.arities", laid_proofprograms_tree_arities)] }
def ReduceAddsSaid : Prop := reduceAddsRow.holds Tryd.pinned (OpenSpec.ofChange reduceAddsSpec)

/-- ITS FALSE NEIGHBOUR: 'it returns false'. Refute it at one input. -/
def reduceAddsWrong : ChangeSpec := { name := "reduceAdds", fn := fun _ => fun
  | [d1, d2] => { results := [.lit (.bool false)], args := [d1, d2] }
  | _ => none }
def ReduceAddsWrongFalsely : Prop := reduceAddsRow.holds Tryd.pinned (OpenSpec.ofChange reduceAddsWrong)

/-- 'proofprogramslaw04.ReduceParts': WHATEVER THE INPUT: true; the input reads as it did. -/
def reducePartsSpec : ChangeSpec := { name := "reduceParts", fn := fun _ => fun
  | [d] => { results := [.lit (.bool true)], args := [d] }
  | _ => none }
def reducePartsRow : OpenClaim := { program := "ytbcejphjmghkbaadoor", sum := "70fc22d33c73c46910649b022735f7603396ab13321933a44c5b50c2f6dc7ddf", func := "proofprograms/proofprogramslaw04.ReduceParts", spec := "reduceParts", unfollowed := true, recurses := true, named := ["proofprograms/tree.arities"], apart := false, laid := [("proofprograms/tree.arities", laid_proofprograms_tree_arities)] }
def ReducePartsSaid : Prop := reducePartsRow.holds Tryd.pinned (OpenSpec.ofChange reducePartsSpec)

/-- ITS FALSE NEIGHBOUR: 'it returns false'. Refute it at one input. -/
def reducePartsWrong : ChangeSpec := { name := "reduceParts", fn := fun _ => fun
  | [d] => { results := [.lit (.bool false)], args := [d] }
  | _ => none }
def ReducePartsWrongFalsely : Prop := reducePartsRow.holds Tryd.pinned (OpenSpec.ofChange reducePartsWrong)

/-- 'proofprogramslaw04.ReduceMatches': WHATEVER THE INPUT: true; the input reads as it did. -/
def reduceMatchesSpec : ChangeSpec := { name := "reduceMatches", fn := fun _ => fun
  | [d1, d2] => { results := [.lit (.bool true)], args := [d1, d2] }
  | _ => none }
def reduceMatchesRow : OpenClaim := { program := "ytbcejphjmghkbaadoor", sum := "70fc22d33c73c46910649b022735f7603396ab13321933a44c5b50c2f6dc7ddf", func := "proofprograms/proofprogramslaw04.ReduceMatches", spec := "reduceMatches", unfollowed := true, recurses := true, named := ["proofprograms/tree.arities"], apart := false, laid := [("proofprograms/tree.arities", laid_proofprograms_tree_arities)] }
def ReduceMatchesSaid : Prop := reduceMatchesRow.holds Tryd.pinned (OpenSpec.ofChange reduceMatchesSpec)

/-- ITS FALSE NEIGHBOUR: 'it returns false'. Refute it at one input. -/
def reduceMatchesWrong : ChangeSpec := { name := "reduceMatches", fn := fun _ => fun
  | [d1, d2] => { results := [.lit (.bool false)], args := [d1, d2] }
  | _ => none }
def ReduceMatchesWrongFalsely : Prop := reduceMatchesRow.holds Tryd.pinned (OpenSpec.ofChange reduceMatchesWrong)

/-- 'proofprogramslaw04.ReduceDoes': WHATEVER THE INPUT: true; the input reads as it did. -/
def reduceDoesSpec : ChangeSpec := { name := "reduceDoes", fn := fun _ => fun
  | [d1, d2, d3, d4] => { results := [.lit (.bool true)], args := [d1, d2, d3, d4] }
  | _ => none }
def reduceDoesRow : OpenClaim := { program := "ytbcejphjmghkbaadoor", sum := "70fc22d33c73c46910649b022735f7603396ab13321933a44c5b50c2f6dc7ddf", func := "proofprograms/proofprogramslaw04.ReduceDoes", spec := "reduceDoes", unfollowed := true, recurses := true, named := ["proofprograms/tree.arities"], loops := true, apart := false, laid := [("proofprograms/tree.arities", laid_proofprograms_tree_arities)] }
def ReduceDoesSaid : Prop := reduceDoesRow.holds Tryd.pinned (OpenSpec.ofChange reduceDoesSpec)

/-- ITS FALSE NEIGHBOUR: 'it returns false'. Refute it at one input. -/
def reduceDoesWrong : ChangeSpec := { name := "reduceDoes", fn := fun _ => fun
  | [d1, d2, d3, d4] => { results := [.lit (.bool false)], args := [d1, d2, d3, d4] }
  | _ => none }
def ReduceDoesWrongFalsely : Prop := reduceDoesRow.holds Tryd.pinned (OpenSpec.ofChange reduceDoesWrong)

/-- 'proofprogramslaw04.ReduceUnique': WHATEVER THE INPUT: true; the input reads as it did. -/
def reduceUniqueSpec : ChangeSpec := { name := "reduceUnique", fn := fun _ => fun
  | [d] => { results := [.lit (.bool true)], args := [d] }
  | _ => none }
def reduceUniqueRow : OpenClaim := { program := "ytbcejphjmghkbaadoor", sum := "70fc22d33c73c46910649b022735f7603396ab13321933a44c5b50c2f6dc7ddf", func := "proofprograms/proofprogramslaw04.ReduceUnique", spec := "reduceUnique", unfollowed := true, recurses := true, named := ["proofprograms/tree.arities"], apart := false, laid := [("proofprograms/tree.arities", laid_proofprograms_tree_arities)] }
def ReduceUniqueSaid : Prop := reduceUniqueRow.holds Tryd.pinned (OpenSpec.ofChange reduceUniqueSpec)

/-- ITS FALSE NEIGHBOUR: 'it returns false'. Refute it at one input. -/
def reduceUniqueWrong : ChangeSpec := { name := "reduceUnique", fn := fun _ => fun
  | [d] => { results := [.lit (.bool false)], args := [d] }
  | _ => none }
def ReduceUniqueWrongFalsely : Prop := reduceUniqueRow.holds Tryd.pinned (OpenSpec.ofChange reduceUniqueWrong)

/- THE SECOND FORM. 'bulk': how many values and letters a reading holds, each counted each time it is reached (what is shared counts as often as it is met; a slice's spare places count too). A statement '..UptoSaid' is the law's where the arguments, and the package variables that the reading takes, are together of bulk at most 1048576: NARROWER than '..Said'. Prove '..Said' where nothing that the law and all that it calls make is longer than what came in: it says more and counts as full. Else prove '..UptoSaid'. A law counts once. -/
mutual
def uptoBulk {H : Type} : DataW H → Nat
  | .lit (.string bytes) => bytes.length + 1
  | .lit _ => 1
  | .nil => 1
  | .ptr d => uptoBulk d + 1
  | .slice elems spare => uptoBulkAll elems + uptoBulkAll spare + 1
  | .agg parts => uptoBulkAll parts + 1
  | .iface _ d => uptoBulk d + 1
  | .map entries => uptoBulkEntries entries + 1
  | .held _ => 1
def uptoBulkAll {H : Type} : List (DataW H) → Nat
  | [] => 0
  | d :: r => uptoBulk d + uptoBulkAll r
def uptoBulkEntries {H : Type} : List (Lit × DataW H) → Nat
  | [] => 0
  | x :: r => uptoBulkEntry x + uptoBulkEntries r
def uptoBulkEntry {H : Type} : Lit × DataW H → Nat
  | (.string bytes, d) => bytes.length + uptoBulk d + 1
  | (_, d) => uptoBulk d + 1
 end
def uptoSmall : (H : Type) → List (DataW H) → Bool := fun _ ds => decide (uptoBulkAll ds ≤ 1048576)
def OpenSpec.upto (s : _root_.Go.ChangeSpec) : _root_.Go.OpenSpec := { _root_.Go.OpenSpec.ofChange s with cond := some uptoSmall }

/-- 'proofprogramslaw23.ContentExact', WHERE WHAT IT READS IS OF BULK AT MOST 1048576: true; the input reads as it did. -/
def contentExactUptoRow : OpenClaim := { program := "ytbcejphjmghkbaadoor", sum := "70fc22d33c73c46910649b022735f7603396ab13321933a44c5b50c2f6dc7ddf", func := "proofprograms/proofprogramslaw23.ContentExact", spec := "contentExact", recurses := true, named := ["proofprograms/tree.arities"], loops := true, apart := false, laid := [("proofprograms/tree.arities", laid_proofprograms_tree_arities)], narrowed := true }
def ContentExactUptoSaid : Prop := contentExactUptoRow.holds Tryd.pinned (OpenSpec.upto contentExactSpec)

/-- 'proofprogramslaw23.ContentKeeps', WHERE WHAT IT READS IS OF BULK AT MOST 1048576: true; the input reads as it did. -/
def contentKeepsUptoRow : OpenClaim := { program := "ytbcejphjmghkbaadoor", sum := "70fc22d33c73c46910649b022735f7603396ab13321933a44c5b50c2f6dc7ddf", func := "proofprograms/proofprogramslaw23.ContentKeeps", spec := "contentKeeps", recurses := true, named := ["proofprograms/tree.arities"], apart := false, laid := [("proofprograms/tree.arities", laid_proofprograms_tree_arities)], narrowed := true }
def ContentKeepsUptoSaid : Prop := contentKeepsUptoRow.holds Tryd.pinned (OpenSpec.upto contentKeepsSpec)

/-- 'proofprogramslaw23.ContentNone', WHERE WHAT IT READS IS OF BULK AT MOST 1048576: true; the input reads as it did. -/
def contentNoneUptoRow : OpenClaim := { program := "ytbcejphjmghkbaadoor", sum := "70fc22d33c73c46910649b022735f7603396ab13321933a44c5b50c2f6dc7ddf", func := "proofprograms/proofprogramslaw23.ContentNone", spec := "contentNone", recurses := true, named := ["proofprograms/tree.arities"], apart := false, laid := [("proofprograms/tree.arities", laid_proofprograms_tree_arities)], narrowed := true }
def ContentNoneUptoSaid : Prop := contentNoneUptoRow.holds Tryd.pinned (OpenSpec.upto contentNoneSpec)

/-- 'proofprogramslaw23.ContentUniform', WHERE WHAT IT READS IS OF BULK AT MOST 1048576: true; the input reads as it did. -/
def contentUniformUptoRow : OpenClaim := { program := "ytbcejphjmghkbaadoor", sum := "70fc22d33c73c46910649b022735f7603396ab13321933a44c5b50c2f6dc7ddf", func := "proofprograms/proofprogramslaw23.ContentUniform", spec := "contentUniform", recurses := true, named := ["proofprograms/tree.arities"], apart := false, laid := [("proofprograms/tree.arities", laid_proofprograms_tree_arities)], narrowed := true }
def ContentUniformUptoSaid : Prop := contentUniformUptoRow.holds Tryd.pinned (OpenSpec.upto contentUniformSpec)

/-- 'proofprogramslaw08.ClassContent', WHERE WHAT IT READS IS OF BULK AT MOST 1048576: true; the input reads as it did. -/
def classContentUptoRow : OpenClaim := { program := "ytbcejphjmghkbaadoor", sum := "70fc22d33c73c46910649b022735f7603396ab13321933a44c5b50c2f6dc7ddf", func := "proofprograms/proofprogramslaw08.ClassContent", spec := "classContent", unfollowed := true, recurses := true, named := ["proofprograms/tree.arities"], apart := false, laid := [("proofprograms/tree.arities", laid_proofprograms_tree_arities)], narrowed := true }
def ClassContentUptoSaid : Prop := classContentUptoRow.holds Tryd.pinned (OpenSpec.upto classContentSpec)

/-- 'proofprogramslaw04.ReduceTypes', WHERE WHAT IT READS IS OF BULK AT MOST 1048576: true; the input reads as it did. -/
def reduceTypesUptoRow : OpenClaim := { program := "ytbcejphjmghkbaadoor", sum := "70fc22d33c73c46910649b022735f7603396ab13321933a44c5b50c2f6dc7ddf", func := "proofprograms/proofprogramslaw04.ReduceTypes", spec := "reduceTypes", unfollowed := true, recurses := true, named := ["proofprograms/tree.arities"], apart := false, laid := [("proofprograms/tree.arities", laid_proofprograms_tree_arities)], narrowed := true }
def ReduceTypesUptoSaid : Prop := reduceTypesUptoRow.holds Tryd.pinned (OpenSpec.upto reduceTypesSpec)

/-- 'proofprogramslaw04.ReduceCloses', WHERE WHAT IT READS IS OF BULK AT MOST 1048576: true; the input reads as it did. -/
def reduceClosesUptoRow : OpenClaim := { program := "ytbcejphjmghkbaadoor", sum := "70fc22d33c73c46910649b022735f7603396ab13321933a44c5b50c2f6dc7ddf", func := "proofprograms/proofprogramslaw04.ReduceCloses", spec := "reduceCloses", unfollowed := true, recurses := true, named := ["proofprograms/tree.arities"], apart := false, laid := [("proofprograms/tree.arities", laid_proofprograms_tree_arities)], narrowed := true }
def ReduceClosesUptoSaid : Prop := reduceClosesUptoRow.holds Tryd.pinned (OpenSpec.upto reduceClosesSpec)

/-- 'proofprogramslaw04.ReduceAdds', WHERE WHAT IT READS IS OF BULK AT MOST 1048576: true; the input reads as it did. -/
def reduceAddsUptoRow : OpenClaim := { program := "ytbcejphjmghkbaadoor", sum := "70fc22d33c73c46910649b022735f7603396ab13321933a44c5b50c2f6dc7ddf", func := "proofprograms/proofprogramslaw04.ReduceAdds", spec := "reduceAdds", unfollowed := true, recurses := true, named := ["proofprograms/tree.arities"], apart := false, laid := [("proofprograms/tree.arities", laid_proofprograms_tree_arities)], narrowed := true }
def ReduceAddsUptoSaid : Prop := reduceAddsUptoRow.holds Tryd.pinned (OpenSpec.upto reduceAddsSpec)

/-- 'proofprogramslaw04.ReduceParts', WHERE WHAT IT READS IS OF BULK AT MOST 1048576: true; the input reads as it did. -/
def reducePartsUptoRow : OpenClaim := { program := "ytbcejphjmghkbaadoor", sum := "70fc22d33c73c46910649b022735f7603396ab13321933a44c5b50c2f6dc7ddf", func := "proofprograms/proofprogramslaw04.ReduceParts", spec := "reduceParts", unfollowed := true, recurses := true, named := ["proofprograms/tree.arities"], apart := false, laid := [("proofprograms/tree.arities", laid_proofprograms_tree_arities)], narrowed := true }
def ReducePartsUptoSaid : Prop := reducePartsUptoRow.holds Tryd.pinned (OpenSpec.upto reducePartsSpec)

/-- 'proofprogramslaw04.ReduceMatches', WHERE WHAT IT READS IS OF BULK AT MOST 1048576: true; the input reads as it did. -/
def reduceMatchesUptoRow : OpenClaim := { program := "ytbcejphjmghkbaadoor", sum := "70fc22d33c73c46910649b022735f7603396ab13321933a44c5b50c2f6dc7ddf", func := "proofprograms/proofprogramslaw04.ReduceMatches", spec := "reduceMatches", unfollowed := true, recurses := true, named := ["proofprograms/tree.arities"], apart := false, laid := [("proofprograms/tree.arities", laid_proofprograms_tree_arities)], narrowed := true }
def ReduceMatchesUptoSaid : Prop := reduceMatchesUptoRow.holds Tryd.pinned (OpenSpec.upto reduceMatchesSpec)

/-- 'proofprogramslaw04.ReduceDoes', WHERE WHAT IT READS IS OF BULK AT MOST 1048576: true; the input reads as it did. -/
def reduceDoesUptoRow : OpenClaim := { program := "ytbcejphjmghkbaadoor", sum := "70fc22d33c73c46910649b022735f7603396ab13321933a44c5b50c2f6dc7ddf", func := "proofprograms/proofprogramslaw04.ReduceDoes", spec := "reduceDoes", unfollowed := true, recurses := true, named := ["proofprograms/tree.arities"], loops := true, apart := false, laid := [("proofprograms/tree.arities", laid_proofprograms_tree_arities)], narrowed := true }
def ReduceDoesUptoSaid : Prop := reduceDoesUptoRow.holds Tryd.pinned (OpenSpec.upto reduceDoesSpec)

/-- 'proofprogramslaw04.ReduceUnique', WHERE WHAT IT READS IS OF BULK AT MOST 1048576: true; the input reads as it did. -/
def reduceUniqueUptoRow : OpenClaim := { program := "ytbcejphjmghkbaadoor", sum := "70fc22d33c73c46910649b022735f7603396ab13321933a44c5b50c2f6dc7ddf", func := "proofprograms/proofprogramslaw04.ReduceUnique", spec := "reduceUnique", unfollowed := true, recurses := true, named := ["proofprograms/tree.arities"], apart := false, laid := [("proofprograms/tree.arities", laid_proofprograms_tree_arities)], narrowed := true }
def ReduceUniqueUptoSaid : Prop := reduceUniqueUptoRow.holds Tryd.pinned (OpenSpec.upto reduceUniqueSpec)

end Rows
end Go.Proofs.YtbcejphjmghkbaaDoor
