/-
The law ContentExact returns true, whatever numbers, formula and sequent it is called with, and its arguments read behind the call as before. Conditions: the row's own (loops, laid); the card is tied.
-/
import Derived.Test.YtbcejphjmghkbaaDoorKA7
import Derived.Test.YtbcejphjmghkbaaDoorTie

set_option maxRecDepth 100000
namespace Go.Proofs.YtbcejphjmghkbaaDoor.V
open Go Go.Proofs Go.RowKit Go.ChangeShapes Go.WideShapes Go.ChangeAt
theorem lifted3 (os : Os) (started : os.Started) (H : Type) (enc : TypeId × Value → H) :
    ReturnsInHanded {} Tryd.checked os 3 .any (fun w args => (Rows.contentExactSpec.pre enc Tryd.prog Tryd.f3 [] false w args ∧ laidMetH Tryd.prog laidL w) ∧ sizedMet enc Tryd.prog Tryd.f3 (OpenSpec.ofChange Rows.contentExactSpec) false w args)
      (Rows.contentExactSpec.post enc Tryd.prog Tryd.f3 false true false false) := by
  refine returnsInHanded_of_change_and (C := Tryd.checked) (X := fun w _ => laidMetH Tryd.prog laidL w) (fun _ _ _ hh h => h.of_heap hh) own started (by kernel_rfl) Tryd.func3
    (ChangeSpec.witness_shaped (enc := enc) (C := Tryd.checked) (os := os) (X := fun w _ => laidMetH Tryd.prog laidL w) false (World.doorLaid Tryd.prog 400 os) #[.slice none 0 0, .agg #[.int .i64 0, .int .i64 0, .slice none 0 0, .slice none 0 0, .slice none 0 0], .agg #[.slice none 0 0, .slice none 0 0]] 8 rfl (World.shaped_of_RefB (by kernel_rfl) (by kernel_rfl)) (by kernel_rfl) (by kernel_rfl) (by kernel_rfl) (door_met os _)) ?_
  intro W base args ds gs before hval0 hW _ _ hL _
  have hval : ∀ (j : Nat) t v, Tryd.f3.params[j]? = some t → args[j]? = some v → Value.okWide Tryd.prog W .any base t v := hval0
  have hW' := hW
  obtain ⟨p, q, hA0, hV, rfl, hfz, hnd⟩ := hW
  have hA : DataW.TrodAll enc Tryd.prog W 0 (fun _ => true) true Tryd.f3.params.toList args.toList ds p := hA0
  rw [Tryd.params3] at hA hval
  obtain ⟨v0, vs0, d0, ds0, p0, q0, hargs, rfl, rfl, h0, r0⟩ := trodAll_cons hA
  obtain ⟨v1, vs1, d1, ds1, p1, q1, rfl, rfl, rfl, h1, r1⟩ := trodAll_cons r0
  obtain ⟨v2, vs2, d2, ds2, p2, q2, rfl, rfl, rfl, h2, r2⟩ := trodAll_cons r1
  obtain ⟨rfl, rfl, rfl⟩ := trodAll_nil r2
  obtain rfl : args = #[v0, v1, v2] := by cases args; simp_all
  obtain ⟨rfl, rfl⟩ := trodVars_none hV
  have k0 := h0
  have k1 := h1
  have k2 := h2
  have lt0 : ∀ x ∈ p0, x.block < W.heap.size := by obtain ⟨m, hm⟩ := k0; exact DataW.trod_lt m _ _ _ hm
  have lt1 : ∀ x ∈ p1, x.block < W.heap.size := by obtain ⟨m, hm⟩ := k1; exact DataW.trod_lt m _ _ _ hm
  have lt2 : ∀ x ∈ p2, x.block < W.heap.size := by obtain ⟨m, hm⟩ := k2; exact DataW.trod_lt m _ _ _ hm
  obtain ⟨a0, len0, cap0, rfl⟩ := okWide_slice un22 (hval 0 22 v0 rfl rfl)
  obtain ⟨c1, rfl⟩ : ∃ c1, v1 = .agg c1 := by
    have := hval 1 29 v1 rfl rfl
    simp only [Value.okWide, (show Tryd.prog.underlying 29 = some (.struct _) from by kernel_rfl)] at this
    obtain ⟨c, e, _⟩ := this
    exact ⟨c, e⟩
  obtain ⟨c2, rfl⟩ : ∃ c2, v2 = .agg c2 := by
    have := hval 2 31 v2 rfl rfl
    simp only [Value.okWide, (show Tryd.prog.underlying 31 = some (.struct _) from by kernel_rfl)] at this
    obtain ⟨c, e, _⟩ := this
    exact ⟨c, e⟩
  obtain ⟨n0, f0⟩ := h0
  obtain ⟨n1, f1⟩ := h1
  obtain ⟨n2, f2⟩ := h2
  obtain ⟨l, hi, e0⟩ := read_nums f0
  obtain ⟨raw, e1⟩ := read_fm _ _ _ f1
  obtain ⟨ts, hs, e2⟩ := read_seq f2
  clear hA0 hval0
  refine (law_calls (C := cfg) (law3 l hi raw ts hs []) (globs_of_laid hL) (args := #[.slice a0 len0 cap0, .agg c1, .agg c2]) rfl fun i p hp => ?_).mono fun e W' ⟨he, bel⟩ => ?_
  · match i with
    | 0 => cases hp; exact repV_one e0 rfl
    | 1 => cases hp; exact repV_agg e1
    | 2 => cases hp; exact repV_agg e2
    | i + 3 => simp at hp
  · subst he
    exact ⟨_, rfl, _, _, _, [], _, [], hW', trodAll_mk1 (shut_bool un4 _), trodAll_cons_mk (Below.trod laidOut (by kernel_rfl) (of_decide_eq_true (by kernel_rfl)) k0 bel lt0) (trodAll_cons_mk (Below.trod laidOut (by kernel_rfl) (of_decide_eq_true (by kernel_rfl)) k1 bel lt1) (trodAll_cons_mk (Below.trod laidOut (by kernel_rfl) (of_decide_eq_true (by kernel_rfl)) k2 bel lt2) rfl)), rfl, bel.frame _, fun h => by cases h⟩
end Go.Proofs.YtbcejphjmghkbaaDoor.V
