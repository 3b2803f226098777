/-
The law RealizeSequent returns true, whatever numbers it is called with, and its argument reads behind the call as before. Conditions: the row's own (loops, laid); the card is tied.
-/
import Derived.Test.YtnpgbkldpdogjaaGreatDoorKA9
import Derived.Test.YtnpgbkldpdogjaaGreatDoorTie

set_option maxRecDepth 100000
namespace Go.Proofs.YtnpgbkldpdogjaaGreatDoor.V
open Go Go.Proofs Go.RowKit Go.ChangeShapes Go.WideShapes Go.ChangeAt
theorem lifted5 (os : Os) (started : os.Started) (H : Type) (enc : TypeId × Value → H) :
    ReturnsInHanded {} Tryz.checked os 5 .any (fun w args => (Rows.realizeSequentSpec.pre enc Tryz.prog Tryz.f5 [] false w args ∧ laidMetH Tryz.prog laidL w) ∧ sizedMet enc Tryz.prog Tryz.f5 (OpenSpec.ofChange Rows.realizeSequentSpec) false w args)
      (Rows.realizeSequentSpec.post enc Tryz.prog Tryz.f5 false true false false) := by
  refine returnsInHanded_of_change_and (C := Tryz.checked) (X := fun w _ => laidMetH Tryz.prog laidL w) (fun _ _ _ hh h => h.of_heap hh) own started (by kernel_rfl) Tryz.func5
    (ChangeSpec.witness_shaped (enc := enc) (C := Tryz.checked) (os := os) (X := fun w _ => laidMetH Tryz.prog laidL w) false (World.doorLaid Tryz.prog 400 os) #[.slice none 0 0] 8 rfl (World.shaped_of_RefB (by kernel_rfl) (by kernel_rfl)) (by kernel_rfl) (by kernel_rfl) (by kernel_rfl) (door_met os _)) ?_
  intro W base args ds gs before hval0 hW _ _ hL _
  have hval : ∀ (j : Nat) t v, Tryz.f5.params[j]? = some t → args[j]? = some v → Value.okWide Tryz.prog W .any base t v := hval0
  have hW' := hW
  obtain ⟨p, q, hA0, hV, rfl, hfz, hnd⟩ := hW
  have hA : DataW.TrodAll enc Tryz.prog W 0 (fun _ => true) true Tryz.f5.params.toList args.toList ds p := hA0
  rw [Tryz.params5] at hA hval
  obtain ⟨v0, vs0, d0, ds0, p0, q0, hargs, rfl, rfl, h0, r0⟩ := trodAll_cons hA
  obtain ⟨rfl, rfl, rfl⟩ := trodAll_nil r0
  obtain rfl : args = #[v0] := by cases args; simp_all
  obtain ⟨rfl, rfl⟩ := trodVars_none hV
  have k0 := h0
  have lt0 : ∀ x ∈ p0, x.block < W.heap.size := by obtain ⟨m, hm⟩ := k0; exact DataW.trod_lt m _ _ _ hm
  obtain ⟨a0, len0, cap0, rfl⟩ := okWide_slice un22 (hval 0 22 v0 rfl rfl)
  obtain ⟨n0, f0⟩ := h0
  obtain ⟨l0, hi0, e0⟩ := read_nums f0
  clear hA0 hval0
  refine (law_calls (C := cfg) (law5 l0 hi0 []) (globs_of_laid hL) (args := #[.slice a0 len0 cap0]) rfl fun i p hp => ?_).mono fun e W' ⟨he, bel⟩ => ?_
  · match i with
    | 0 => cases hp; exact repV_one e0 rfl
    | i + 1 => simp at hp
  · subst he
    exact ⟨_, rfl, _, _, _, [], _, [], hW', trodAll_mk1 (shut_bool un4 _), (trodAll_cons_mk (Below.trod laidOut (by kernel_rfl) (of_decide_eq_true (by kernel_rfl)) k0 bel lt0) rfl), rfl, bel.frame _, fun h => by cases h⟩
end Go.Proofs.YtnpgbkldpdogjaaGreatDoor.V
