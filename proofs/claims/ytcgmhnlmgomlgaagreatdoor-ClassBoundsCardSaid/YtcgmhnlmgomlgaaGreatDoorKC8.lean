/-
Parts of the proof of one law, put together by program: part 8.
-/
import Derived.Test.YtcgmhnlmgomlgaaGreatDoorKC7
import Derived.LaidMore
import Derived.LaidLaws
import Derived.ProofKit
import Derived.ChangeShapes
import Derived.JoinedOf
import Derived.Stop.Joined
set_option linter.unusedSimpArgs false
set_option linter.unusedVariables false
set_option maxRecDepth 100000
namespace Go.Proofs.YtcgmhnlmgomlgaaGreatDoor.V
open Go Go.Proofs Go.RowKit Go.ChangeShapes Go.WideShapes Go.ChangeAt
section
variable {H : Type} {henc : TypeId × Value → H} {W : World}
theorem un3 : Tryz.prog.underlying 3 = some (.int .i64) := by kernel_rfl
theorem un4 : Tryz.prog.underlying 4 = some .bool := by kernel_rfl
theorem un22 : Tryz.prog.underlying 22 = some (.slice 3) := by kernel_rfl
theorem ce3 : Tryz.prog.cellsOf 3 = 1 := by kernel_rfl
theorem read_nums {n : Nat} {cs : List Value} {x : DataW H × List MemPlace} (h : tr henc Tryz.prog W n 22 cs = some x) : ∃ l : List Int, i64s l ∧ RepL W (map0 W) [.slice .no 1 (encI l)] cs := by
  obtain ⟨l, hl⟩ := read_slice (α := {k : Int // -9223372036854775808 ≤ k ∧ k ≤ 9223372036854775807}) (encA := fun k => [.int .i64 k.1]) (map0_prot W) un22 ce3 (by omega) (fun k hk cs x h => by
    obtain ⟨n, h1, h2⟩ := read_int (M := map0 W) un3 h
    exact ⟨⟨n, wf_i64 h1⟩, h2⟩) h
  refine ⟨l.map (·.1), fun k hk => ?_, ?_⟩
  · obtain ⟨y, _, rfl⟩ := List.mem_map.1 hk
    exact y.2
  · have e : encI (l.map (·.1)) = l.map fun k => [.int .i64 k.1] := by simp [encI]
    rw [e]
    exact hl
end
def laidL : List (String × DataW Unit) := [("proofprograms/tree.arities", Rows.laid_proofprograms_tree_arities)]
theorem gArities : Tryz.prog.globalNamed "proofprograms/tree.arities" = some 0 := by kernel_rfl
theorem tArities : (Tryz.prog.globals[0]?).map (·.type) = some 138 := by kernel_rfl
theorem un138 : Tryz.prog.underlying 138 = some (.array 14 3) := by kernel_rfl
theorem ce138 : Tryz.prog.cellsOf 138 = 14 := by kernel_rfl
theorem own : ownKnob Tryz.prog.godebug = none := by kernel_rfl
theorem laidOut : laidOutB Tryz.prog = true := by kernel_rfl
theorem door_met (os : Os) (args : Array Value) : laidMetH Tryz.prog laidL ((World.doorLaid Tryz.prog 400 os).forCall (fun _ _ => 0) ⟨#[], args, []⟩).memory :=
  laidMetH_of_parts3 (fuel := 8) (laidMet_of_run' 8 (by kernel_rfl) (by kernel_rfl)) (by kernel_rfl) (by kernel_rfl)
def arityInts : List Int := [0, 0, 1, 2, 0, 1, 3, 0, 2, 3, 2, 1, 1, 0]
theorem arity_eq : arity = arityInts.map fun n => Cell.int .i64 n := rfl
theorem globs_of_laid {W : World} (h : laidMetH Tryz.prog laidL W) : Globs cfg W (map0 W) := by
  rw [MakeChecks.laidMetH_plain _ _ _ (by kernel_rfl)] at h
  obtain ⟨ps, ⟨g0, t0, cs0, f0, p0, q0, hg0, ht0, hv0, hd0, _, _⟩, _, _⟩ := h
  obtain rfl := Option.some.inj (gArities.symm.trans hg0)
  obtain rfl := Option.some.inj (tArities.symm.trans ht0)
  obtain ⟨xs, m, rfl, hx, hl, hxl, hel⟩ := DataW.trod_array un138 hd0
  rw [ce138] at hl
  have hxm : xs.map (·.1) = arityInts.map fun n => (DataW.lit (.int .i64 n) : DataW Unit) := by
    simp only [Prod.mk.injEq] at hx
    have := hx.1
    unfold Rows.laid_proofprograms_tree_arities at this
    injection this with this
    rw [← this]
    try rfl
  have key : ∀ (i : Nat) (n : Int), arityInts[i]? = some n → W.cell? ⟨0, i, none⟩ = some (.int .i64 n) := by
    intro i n hi
    have hi14 : i < 14 := (List.getElem?_eq_some_iff.1 hi).1
    have h1 := hel i hi14
    rw [ce3, Nat.mul_one] at h1
    have h2 : (xs.map (·.1))[i]? = some (.lit (.int .i64 n)) := by rw [hxm, List.getElem?_map, hi]; try rfl
    rw [List.getElem?_map] at h2
    obtain ⟨y, hy, hy2⟩ := Option.map_eq_some_iff.1 h2
    rw [hy] at h1
    obtain ⟨k, e1, e2, _⟩ := DataW.trod_int un3 h1
    have hk : k = n := by
      rw [e2] at hy2
      simp at hy2
      exact hy2
    subst hk
    have h3 := World.var?_cell hg0 hv0 i
    rw [h3]
    have h4 : (cs0.toList.drop i).take 1 = [Value.int .i64 k] := e1
    have h5 : cs0.toList[i]? = some (Value.int .i64 k) := by
      have := congrArg (fun l => l[0]?) h4
      simpa using this
    simpa using h5
  intro g cs hg
  have : g = 0 ∧ cs = arity := by
    simp only [cfg] at hg
    split at hg
    · rename_i e; exact ⟨e, (Option.some.inj hg).symm⟩
    · cases hg
  obtain ⟨rfl, rfl⟩ := this
  have hc := RepC.cptr (w := W) (M := map0 W) arity 0 0 0 (fun i => .int .i64 (arityInts.getD i 0)) ?_ ?_ ?_
  · exact hc
  · have := map0_prot W 0 13 _ (key 13 0 rfl)
    simp only [arity_eq, List.length_map]
    show 0 + 14 ≤ _
    omega
  · intro i c hi
    rw [arity_eq, List.getElem?_map] at hi
    obtain ⟨n, hn, _⟩ := Option.map_eq_some_iff.1 hi
    rw [Nat.zero_add, key i n hn, List.getD_eq_getElem?_getD, hn]
    try rfl
  · intro i c hi
    rw [arity_eq, List.getElem?_map] at hi
    obtain ⟨n, hn, rfl⟩ := Option.map_eq_some_iff.1 hi
    rw [List.getD_eq_getElem?_getD, hn]
    exact .int .i64 n
end Go.Proofs.YtcgmhnlmgomlgaaGreatDoor.V
