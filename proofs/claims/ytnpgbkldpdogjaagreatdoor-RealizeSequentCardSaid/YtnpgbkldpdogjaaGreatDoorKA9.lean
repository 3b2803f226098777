/-
Parts of the proof of one law, put together by program: part 9.
-/
import Derived.Test.YtnpgbkldpdogjaaGreatDoorKA8
import Derived.Carry
import Derived.OpenShut
import Derived.LaidMore
import Derived.LaidLaws
import Derived.ProofKit
import Derived.ChangeShapes
import Derived.JoinedOf
import Derived.Stop.Joined
set_option linter.unusedSimpArgs false
set_option linter.unusedVariables false
set_option maxRecDepth 100000
namespace Go.Proofs.YtnpgbkldpdogjaaGreatDoor.V
open Go Go.Proofs
structure FormMade (B : Nat) (g : List Ty) (f : Fm) : Prop where
  ok : f.ok = true
  cnt : f.count ≤ 399
  size : f.size ≤ 3000
  least : f.least 1000 = true
  made : ∃ x, F.IsMade B g f x
theorem FormMade.check {B : Nat} {g : List Ty} {f : Fm} (h : FormMade B g f) : f.check = 0 := Fm.check_small h.ok (by have := h.cnt; omega)
theorem formMade (d : Nat) (hd : d ≤ 3) (g : List Ty) (r : List Int) (hg : Good 3 g) (hl : g.length ≤ 4) : FormMade (F.cb d) g (mkFormula d g r).1 := by
  have hg64 : Good 64 g := fun x hx => ⟨(hg x hx).1, by have := (hg x hx).2; omega⟩
  have h1 := mkFormula_fine (m := 3) (by omega) (by omega) d g r hg
  have h2 : fmB 3 d ≤ 3000 := by have : ∀ d, d ≤ 3 → fmB 3 d ≤ 3000 := by decide
                                 exact this d hd
  have h3 := (mkFormula_cnt d g r hg).1
  have h4 : fcB d ≤ 399 := by have : ∀ d, d ≤ 3 → fcB d ≤ 399 := by decide
                              exact this d hd
  exact ⟨h1.1, by omega, by have := h1.2; omega, mkFormula_least d _ _ _ hg64 (by omega), F.mkFormula_F d (by omega) g r hg⟩
structure TermOf (g : List Ty) (s : Ty) (x : Tm) : Prop where
  ok : x.ok = true
  size : x.size ≤ 2000
  least : x.least 1000 = true
  made : T.Made g s x
theorem TermOf.check {g : List Ty} {s : Ty} {x : Tm} (h : TermOf g s x) : x.check = 0 := Tm.check_small h.ok (by have := h.size; have := x.count_le; omega)
theorem termOf (g : List Ty) (s : Ty) (r : List Int) (hg : Good 3 g) (hl : g.length ≤ 4) (hs : s.ok = true ∧ s.size ≤ 15) : TermOf g s (mkTerm 2 g s r).1 := by
  have hg64 : Good 64 g := fun x hx => ⟨(hg x hx).1, by have := (hg x hx).2; omega⟩
  have hg15 : Good 15 g := fun x hx => ⟨(hg x hx).1, by have := (hg x hx).2; omega⟩
  have h1 := mkTerm_fine (m := 15) (by omega) 2 g s r hg15 hs
  have h2 : tmB 15 2 ≤ 2000 := by decide
  exact ⟨h1.1, Nat.le_trans h1.2 h2, mkTerm_least 2 _ _ _ _ hg64 ⟨hs.1, by have := hs.2; omega⟩ (by omega), T.mkTerm_made (m := 15) (by omega) 2 g s r hg15 hs⟩
theorem rtype_made {B : Nat} (hB : B ≤ 15) {g : List Ty} {f : Fm} {x : F} (hc : f.check = 0) (hx : F.IsMade B g f x) (h : f.rtype.2 = 0) : (f.rtype.1.ok = true ∧ f.rtype.1.size ≤ 15) ∧ ∀ s, x.ct = some s → f.rtype.1 = s := by
  rw [← ctype_eq] at h ⊢
  cases hh : x.ct with
  | none =>
    have e : f.has = false := by rw [← hx.fm, F.fm_has, F.has, hh]; try rfl
    have e2 : ctype f = (.unit, 0) := by
      rw [ctype_eq, Fm.rtype, if_neg (by simpa using hc), Fm.rof_none e]
    rw [e2]
    exact ⟨⟨Ty.unit_ok, by simp⟩, fun s hs => by cases hs⟩
  | some s =>
    have e : (ctype f).1 = s := by
      have := F.ctype_ct (f := x) (by rw [hx.fm]; exact h) hh
      rw [hx.fm] at this
      exact this
    have p := hx.cts s hh
    rw [e]
    exact ⟨⟨p.1, by omega⟩, fun s' hs => by cases hs; rfl⟩
theorem ctx_good {g : List Ty} (hg : Good 3 g) : ∀ x ∈ g, x.check = 0 := fun x hx => Ty.check_iff.2 ⟨(hg x hx).1, by have := (hg x hx).2; omega⟩
theorem ctx_zero {g : List Ty} (hg : ∀ x ∈ g, x.check = 0) (hl : g.length ≤ 16) : ctxCheck g = 0 := by
  unfold ctxCheck
  rw [if_neg (by omega)]
  clear hl
  induction g with
  | nil => rfl
  | cons y g ih => rw [checks, if_pos (hg y (by simp))]; exact ih fun z hz => hg z (by simp [hz])
theorem law3 (l : List Int) (hi : i64s l) (σ : List Frm) : CallsV cfg 3 [.one (.slice .no 1 (encI l))] σ (.val (.one (.bool true))) σ := by
  refine w3 (by simp) ?_
  rw [s3]
  simp
  refine opV_call (c8 _) (by simp) ?_
  simp
  refine opV_call (c9 l _) (by simp) ?_
  by_cases hl : l.length ≤ 500
  rotate_left
  · simp [hl]
    refine opV_call (c8 _) (by simp) ?_
    simp
  simp [hl]
  have hd : Dk l := ⟨by omega, hi⟩
  refine opV_new (c10 l _) (by simp) ?_
  simp
  refine opV_own1 (d11 hd ⟨σ.length, 21, 0⟩ (List.suffix_refl l)) (by simp) (by simp [Pl.ptr]) ?_
  have hc := mkContext_good l
  have hcs := mkContext_suf l
  generalize (mkContext l).1 = g at hc
  generalize (mkContext l).2 = r1 at hcs
  have hg : Good 64 g := fun x hx => ⟨(hc.1 x hx).1, by have := (hc.1 x hx).2; omega⟩
  simp
  refine opV_own1 (d12 hd ⟨σ.length, 21, 0⟩ 3 (by omega) g hg (by omega) hcs) (by simp) (by simp [Pl.ptr]) ?_
  have hf := formMade 3 (by omega) g r1 hc.1 (by omega)
  have hr2 := (mkFormula_suf 3 g r1).trans hcs
  generalize (mkFormula 3 g r1).1 = f at hf
  generalize (mkFormula 3 g r1).2 = r2 at hr2
  have hfs := hf.size
  obtain ⟨x, hx⟩ := hf.made
  simp
  refine opV_call (c13 f (by omega) _) (by simp) ?_
  by_cases he : f.rtype.2 = 0
  rotate_left
  · have he' : (f.rtype.2 == 0) = false := by simpa using he
    simp [enc2, he, he', bne]
  obtain ⟨hs15, hsct⟩ := rtype_made (B := F.cb 3) (by decide) hf.check hx he
  simp [enc2, he]
  generalize f.rtype.1 = s at hs15 hsct
  refine wpP_draw (atPl ⟨σ.length, 21, 0⟩) ?_
  simp [atPl]
  refine stepD_own (d15 hd ⟨σ.length, 21, 0⟩ 2 (by omega) g s hg ⟨hs15.1, by omega⟩ (by omega) hr2) (by simp) (by simp [Pl.ptr]) ?_
  have ht := termOf g s r2 hc.1 (by omega) hs15
  generalize (mkTerm 2 g s r2).1 = t at ht
  have hts := ht.size
  obtain ⟨u, hu, huty⟩ := ht.made
  have hlf := Fm.least_mono (M := 268435456) (by omega) f hf.least
  have hlt := Tm.least_mono (M := 268435456) (by omega) t ht.least
  have hsm := (c14 f t (by omega) (by omega) (Tm.least_mono (by omega) t ht.least) []).1
  have her := F.realF_err hf.check ht.check hlf hlt
  have hz : (realF f t).2 = 0 → (realF f t).1 = (x.rl T.var (if x.has = true then u else .unit)).fm := fun h => by
    have := F.realF_zero x u
    rw [hx.fm, hu] at this
    exact this h
  simp
  refine stepD_call (c14 f t (by omega) (by omega) (Tm.least_mono (by omega) t ht.least) _).2 (by simp) ?_
  generalize realF f t = R at *
  by_cases h0 : R.2 = 0
  rotate_left
  · have h4 : R.2 = 4 := her.resolve_left h0
    simp [tupF, h4, atPl]
  obtain ⟨k1, k2, k3, k4⟩ := F.rl_made (ctx_good hc.1) hx (t := u) (fun s' hs' => by rw [← hsct s' hs'] ; exact huty) (hz h0) hsm.1
  have hRs := k1
  have hRsz := R.1.size_count k1
  have hRc := hsm.1
  have hgs := hg.sizes
  simp [tupF, h0, atPl]
  refine opV_call (c16 R.1 (by omega) _) (by simp) ?_
  rw [hasOf_eq k2, k3, k2]
  simp
  refine opV_call (c17 R.1 g (by omega) _) (by simp) ?_
  have htd : R.1.typed g = 0 := by
    unfold Fm.typed Fm.belowT
    rw [if_neg (by simpa using ctx_zero (ctx_good hc.1) (by omega)), if_neg (by simpa using k2)]
    exact k4
  rw [htd]
  simp
end Go.Proofs.YtnpgbkldpdogjaaGreatDoor.V

namespace Go.Proofs.YtnpgbkldpdogjaaGreatDoor.V
open Go Go.RowKit
section
variable {H : Type} {henc : TypeId × Value → H} {P : Program} {W : World} {M : Map}
def RepL (W : World) (M : Map) (cs : List Cell) (vs : List Value) : Prop := cs.length = vs.length ∧ ∀ (i : Nat) (c : Cell) (v : Value), cs[i]? = some c → vs[i]? = some v → RepC W M c v
theorem RepL.app {a b : List Cell} {va vb : List Value} (h : RepL W M a va) (k : RepL W M b vb) : RepL W M (a ++ b) (va ++ vb) := by
  refine ⟨by simp [h.1, k.1], fun i c v hc hv => ?_⟩
  by_cases hi : i < a.length
  · rw [List.getElem?_append_left hi] at hc
    rw [List.getElem?_append_left (by rw [← h.1]; exact hi)] at hv
    exact h.2 i c v hc hv
  · rw [List.getElem?_append_right (by omega)] at hc
    rw [List.getElem?_append_right (by rw [← h.1]; omega), ← h.1] at hv
    exact k.2 _ c v hc hv
theorem RepL.one {c : Cell} {v : Value} (h : RepC W M c v) : RepL W M [c] [v] := by
  refine ⟨rfl, fun i c' v' hc hv => ?_⟩
  cases i with
  | zero => cases hc; cases hv; exact h
  | succ i => simp at hc
abbrev tr (henc : TypeId × Value → H) (P : Program) (W : World) (n : Nat) (t : TypeId) (cs : List Value) : Option (DataW H × List MemPlace) := DataW.trod henc P W 0 (fun _ => true) true n t cs
theorem mapM_get {α β : Type} {f : α → Option β} : ∀ {l : List α} {r : List β}, l.mapM f = some r → r.length = l.length ∧ ∀ (i : Nat) (x : α), l[i]? = some x → f x = r[i]?
  | [], r, h => by simp at h; subst h; simp
  | x :: l, r, h => by
    simp only [List.mapM_cons, Option.bind_eq_bind, Option.bind_eq_some_iff, Option.pure_def, Option.some.injEq] at h
    obtain ⟨y, h1, ys, h2, rfl⟩ := h
    obtain ⟨h3, h4⟩ := mapM_get h2
    refine ⟨by simp [h3], fun i z hz => ?_⟩
    cases i with
    | zero => simp at hz; subst hz; simpa using h1
    | succ i => simp at hz ⊢; exact h4 i z hz
theorem cells_get {base : Nat} {a : Addr} {n : Nat} {cs : List Value} (h : W.cells? base a n = some cs) : cs.length = n ∧ ∀ i, i < n → W.cell? (a.add i) = cs[i]? := by
  unfold World.cells? at h
  split at h
  · obtain ⟨h1, h2⟩ := mapM_get h
    refine ⟨by simpa using h1, fun i hi => ?_⟩
    exact h2 i i (by simp [hi])
  · cases h
theorem read_slice {α : Type} {encA : α → List Cell} {t e : TypeId} {sz fuel : Nat} {cs : List Value} {x : DataW H × List MemPlace} (hprot : ∀ b i v, W.cell? ⟨b, i, none⟩ = some v → i < M.prot b) (ht : P.underlying t = some (.slice e)) (hsz : P.cellsOf e = sz) (hpos : 0 < sz)
    (hread : ∀ n, n < fuel → ∀ cs x, tr henc P W n e cs = some x → ∃ a : α, RepL W M (encA a) cs) (h : tr henc P W fuel t cs = some x) : ∃ l : List α, RepL W M [.slice .no sz (l.map encA)] cs := by
  rcases DataW.trod_slice ht h with ⟨rfl, _⟩ | ⟨a, len, cap, elems, rest, n, rfl, rfl, _, _, hlc, _, hlen, hel, _, _⟩
  · exact ⟨[], .one (.nil _ _ _ _ (fun h => by cases h))⟩
  · rw [hsz] at hel
    have key : ∀ i, i < len → ∃ (y : α) (vs : List Value), W.cells? 0 (a.add (i * sz)) sz = some vs ∧ RepL W M (encA y) vs := by
      intro i hi
      have h1 := hel i hi
      rw [List.getElem?_eq_getElem (by omega)] at h1
      obtain ⟨vs, h2, h3⟩ := Option.bind_eq_some_iff.1 h1
      obtain ⟨y, hy⟩ := hread n (by omega) vs _ h3
      exact ⟨y, vs, h2, hy⟩
    have hl : ∃ l : List α, l.length = len ∧ ∀ (i : Nat) (y : α), l[i]? = some y → ∃ vs, W.cells? 0 (a.add (i * sz)) sz = some vs ∧ RepL W M (encA y) vs := by
      clear hel hlen
      have : ∀ m, m ≤ len → ∃ l : List α, l.length = m ∧ ∀ (i : Nat) (y : α), l[i]? = some y → ∃ vs, W.cells? 0 (a.add (i * sz)) sz = some vs ∧ RepL W M (encA y) vs := by
        intro m
        induction m with
        | zero => intro _; exact ⟨[], rfl, fun i y h => by simp at h⟩
        | succ m ih =>
          intro hm
          obtain ⟨l, h1, h2⟩ := ih (by omega)
          obtain ⟨y, vs, h3, h4⟩ := key m (by omega)
          refine ⟨l ++ [y], by simp [h1], fun i z hz => ?_⟩
          by_cases hi : i < l.length
          · rw [List.getElem?_append_left hi] at hz; exact h2 i z hz
          · rw [List.getElem?_append_right (by omega)] at hz
            have : i = m := by
              have := (List.getElem?_eq_some_iff.1 hz).1
              simp at this
              omega
            subst this
            rw [h1] at hz
            simp at hz
            subst hz
            exact ⟨vs, h3, h4⟩
      exact this len (Nat.le_refl _)
    obtain ⟨l, hll, hl⟩ := hl
    refine ⟨l, .one ?_⟩
    cases hz : l with
    | nil =>
      rw [hz] at hll
      simp at hll
      subst hll
      exact .nil _ _ _ _ (fun h => by cases h)
    | cons y0 l0 =>
      have hspot : a.spot = none := by
        obtain ⟨vs, h2, h3⟩ := hl 0 y0 (by rw [hz]; try rfl)
        obtain ⟨h4, h5⟩ := cells_get h2
        have h6 := h5 0 hpos
        rw [List.getElem?_eq_getElem (by omega)] at h6
        have := World.cell?_spot h6
        simpa [Addr.add] using this
      obtain ⟨b, off, spot⟩ := a
      simp only at hspot
      subst hspot
      rw [← hz]
      have hcell : ∀ (j i : Nat) (y : α) (c : Cell), l[j]? = some y → (encA y)[i]? = some c → (∃ v, W.cell? ⟨b, off + (j * sz + i), none⟩ = some v ∧ RepC W M c v) ∧ (encA y).length = sz := by
        intro j i y c hy hc
        obtain ⟨vs, h2, h3⟩ := hl j y hy
        obtain ⟨h4, h5⟩ := cells_get h2
        have hi := (List.getElem?_eq_some_iff.1 hc).1
        have hle : (encA y).length = sz := by rw [h3.1, h4]
        have h6 := h5 i (by omega)
        rw [List.getElem?_eq_getElem (by omega)] at h6
        refine ⟨⟨_, ?_, h3.2 i c _ hc (List.getElem?_eq_getElem (by omega))⟩, hle⟩
        rw [← h6]
        congr 1
        simp only [Addr.add]
        repeat' split
        all_goals first
          | (simp_all; done)
          | (simp; omega)
      have hlens : ∀ y ∈ l, (encA y).length = sz := by
        intro y hy
        obtain ⟨j, hj⟩ := List.getElem?_of_mem hy
        obtain ⟨vs, h2, h3⟩ := hl j y hj
        rw [h3.1, (cells_get h2).1]
      rw [← hll]
      have hcap : l.length ≤ cap := by omega
      have hf := RepC.slice (w := W) (M := M) .no sz (l.map encA) b off cap (fun j i => (W.cell? ⟨b, off + (j * sz + i), none⟩).getD undef) (fun e he => by
          obtain ⟨y, hy, rfl⟩ := List.mem_map.1 he; exact hlens y hy) ?_ (fun h => by cases h) (by simpa using hcap) ?_ ?_
      · simpa using hf
      · -- the last cell
        have hne : l.length - 1 < l.length := by rw [hz]; simp
        obtain ⟨y, hy⟩ : ∃ y, l[l.length - 1]? = some y := ⟨_, List.getElem?_eq_getElem hne⟩
        have hly := hlens y (List.mem_of_getElem? hy)
        obtain ⟨c, hc⟩ : ∃ c, (encA y)[sz - 1]? = some c := ⟨_, List.getElem?_eq_getElem (by omega)⟩
        obtain ⟨⟨v, hv, _⟩, _⟩ := hcell _ _ y c hy hc
        have := hprot _ _ _ hv
        rw [List.length_map]
        have e : l.length * sz = (l.length - 1) * sz + sz := by
          rw [Nat.sub_mul, Nat.one_mul]
          have : sz ≤ l.length * sz := Nat.le_mul_of_pos_left _ (by omega)
          omega
        omega
      · intro j i es c hj hi
        rw [List.getElem?_map] at hj
        obtain ⟨y, hy, rfl⟩ := Option.map_eq_some_iff.1 hj
        obtain ⟨⟨v, hv, _⟩, _⟩ := hcell j i y c hy hi
        rw [hv]; try rfl
      · intro j i es c hj hi
        rw [List.getElem?_map] at hj
        obtain ⟨y, hy, rfl⟩ := Option.map_eq_some_iff.1 hj
        obtain ⟨⟨v, hv, hr⟩, _⟩ := hcell j i y c hy hi
        rw [hv]; exact hr
theorem read_int {t : TypeId} {k : IntKind} {fuel : Nat} {cs : List Value} {x : DataW H × List MemPlace} (ht : P.underlying t = some (.int k)) (h : tr henc P W fuel t cs = some x) : ∃ n, (Lit.int k n).wf = true ∧ RepL W M [.int k n] cs := by
  obtain ⟨n, rfl, _, h2⟩ := DataW.trod_int ht h
  exact ⟨n, h2, .one (.int k n)⟩
theorem wf_i64 {n : Int} (h : (Lit.int .i64 n).wf = true) : -9223372036854775808 ≤ n ∧ n ≤ 9223372036854775807 := by
  simp only [Lit.wf, Bool.and_eq_true, decide_eq_true_eq] at h
  have e1 : IntKind.min .i64 = -9223372036854775808 := by decide
  have e2 : IntKind.max .i64 = 9223372036854775807 := by decide
  rw [e1, e2] at h
  exact h
noncomputable def map0 (W : World) : Map := ⟨fun b => match W.heap[b]? with
  | some (.cells c _ _) => c.size
  | _ => 0, fun _ _ _ => .none, fun _ => .none⟩
theorem map0_prot (W : World) : ∀ b i v, W.cell? ⟨b, i, .none⟩ = some v → i < (map0 W).prot b := by
  intro b i v h
  unfold World.cell? at h
  simp only [map0]
  split at h
  · rename_i c _ _ hb
    rw [hb]
    simp at h
    exact (Array.getElem?_eq_some_iff.1 h).1
  · cases h
theorem base0 {C : Cfg} {W : World} (hg : Globs C W (map0 W)) : Base C W (map0 W) [] := by
  have hn : ∀ d t v b, (map0 W).box d t v ≠ some b := fun d t v b h => by simp [map0] at h
  refine ⟨fun d t v b h => absurd h (hn d t v b), fun d t v d' t' v' b h => absurd h (hn d t v b), hg, fun b hb => ?_⟩
  simp only [map0]
  rw [Array.getElem?_eq_none hb]
theorem law_calls {C : Cfg} {f : FuncId} {ps : List PV} (h : CallsV C f ps [] (.val (.one (.bool true))) []) {W : World} (hg : Globs C W (map0 W)) {args : Array Value} (hl : args.size = ps.length) (ha : ∀ (i : Nat) (p : PV), ps[i]? = some p → RepV W (map0 W) p (args.getD i undef)) :
    Calls C.P f args W fun e W' => e = .returned (.bool true) ∧ Below W.heap.size W W' := by
  obtain ⟨_, _, h⟩ := h
  refine (h W (map0 W) args (base0 hg) hl ha).mono fun e W' ⟨M', v, he, hk, _, _, hr⟩ => ?_
  subst he
  refine ⟨?_, ⟨hk.os, hk.tape, hk.output, hk.size, fun b hb => hk.keep b hb fun d t v h => by cases h⟩⟩
  obtain ⟨_, hr⟩ := hr
  cases hr with
  | one c v h => cases h; rfl
theorem repV_one {W : World} {M : Map} {c : Cell} {v : Value} (h : RepL W M [c] v.cells.toList) (hv : v.cells.toList = [v]) : RepV W M (.one c) v := by
  rw [hv] at h
  exact .one c v (h.2 0 c v rfl rfl)
end
end Go.Proofs.YtnpgbkldpdogjaaGreatDoor.V

set_option maxRecDepth 100000
namespace Go.Proofs.YtnpgbkldpdogjaaGreatDoor.V
open Go Go.Proofs Go.RowKit Go.ChangeShapes Go.WideShapes Go.ChangeAt
section
variable {H : Type} {henc : TypeId × Value → H} {W : World}
theorem un3 : Tryz.prog.underlying 3 = some (.int .i64) := by kernel_rfl
theorem un4 : Tryz.prog.underlying 4 = some .bool := by kernel_rfl
theorem un22 : Tryz.prog.underlying 22 = some (.slice 3) := by kernel_rfl
theorem ce3 : Tryz.prog.cellsOf 3 = 1 := by kernel_rfl
theorem read_nums {n : Nat} {cs : List Value} {x : DataW H × List MemPlace} (h : tr henc Tryz.prog W n 22 cs = some x) : ∃ l : List Int, i64s l ∧ RepL W (map0 W) [.slice .no 1 (encI l)] cs := by
  obtain ⟨l, hl⟩ := read_slice (α := {k : Int // -9223372036854775808 ≤ k ∧ k ≤ 9223372036854775807}) (encA := fun k => [.int .i64 k.1]) (map0_prot W) un22 ce3 (by omega) (fun k hk cs x h => by
    obtain ⟨n, h1, h2⟩ := read_int (M := map0 W) un3 h
    exact ⟨⟨n, wf_i64 h1⟩, h2⟩) h
  refine ⟨l.map (·.1), fun k hk => ?_, ?_⟩
  · obtain ⟨y, _, rfl⟩ := List.mem_map.1 hk
    exact y.2
  · have e : encI (l.map (·.1)) = l.map fun k => [.int .i64 k.1] := by simp [encI]
    rw [e]
    exact hl
end
def laidL : List (String × DataW Unit) := [("proofprograms/tree.arities", Rows.laid_proofprograms_tree_arities)]
theorem gArities : Tryz.prog.globalNamed "proofprograms/tree.arities" = some 0 := by kernel_rfl
theorem tArities : (Tryz.prog.globals[0]?).map (·.type) = some 143 := by kernel_rfl
theorem un143 : Tryz.prog.underlying 143 = some (.array 14 3) := by kernel_rfl
theorem ce143 : Tryz.prog.cellsOf 143 = 14 := by kernel_rfl
theorem own : ownKnob Tryz.prog.godebug = none := by kernel_rfl
theorem laidOut : laidOutB Tryz.prog = true := by kernel_rfl
theorem door_met (os : Os) (args : Array Value) : laidMetH Tryz.prog laidL ((World.doorLaid Tryz.prog 400 os).forCall (fun _ _ => 0) ⟨#[], args, []⟩).memory :=
  laidMetH_of_parts3 (fuel := 8) (laidMet_of_run' 8 (by kernel_rfl) (by kernel_rfl)) (by kernel_rfl) (by kernel_rfl)
def arityInts : List Int := [0, 0, 1, 2, 0, 1, 3, 0, 2, 3, 2, 1, 1, 0]
theorem arity_eq : arity = arityInts.map fun n => Cell.int .i64 n := rfl
theorem globs_of_laid {W : World} (h : laidMetH Tryz.prog laidL W) : Globs cfg W (map0 W) := by
  rw [MakeChecks.laidMetH_plain _ _ _ (by kernel_rfl)] at h
  obtain ⟨ps, ⟨g0, t0, cs0, f0, p0, q0, hg0, ht0, hv0, hd0, _, _⟩, _, _⟩ := h
  obtain rfl := Option.some.inj (gArities.symm.trans hg0)
  obtain rfl := Option.some.inj (tArities.symm.trans ht0)
  obtain ⟨xs, m, rfl, hx, hl, hxl, hel⟩ := DataW.trod_array un143 hd0
  rw [ce143] at hl
  have hxm : xs.map (·.1) = arityInts.map fun n => (DataW.lit (.int .i64 n) : DataW Unit) := by
    simp only [Prod.mk.injEq] at hx
    have := hx.1
    unfold Rows.laid_proofprograms_tree_arities at this
    injection this with this
    rw [← this]
    try rfl
  have key : ∀ (i : Nat) (n : Int), arityInts[i]? = some n → W.cell? ⟨0, i, none⟩ = some (.int .i64 n) := by
    intro i n hi
    have hi14 : i < 14 := (List.getElem?_eq_some_iff.1 hi).1
    have h1 := hel i hi14
    rw [ce3, Nat.mul_one] at h1
    have h2 : (xs.map (·.1))[i]? = some (.lit (.int .i64 n)) := by rw [hxm, List.getElem?_map, hi]; try rfl
    rw [List.getElem?_map] at h2
    obtain ⟨y, hy, hy2⟩ := Option.map_eq_some_iff.1 h2
    rw [hy] at h1
    obtain ⟨k, e1, e2, _⟩ := DataW.trod_int un3 h1
    have hk : k = n := by
      rw [e2] at hy2
      simp at hy2
      exact hy2
    subst hk
    have h3 := World.var?_cell hg0 hv0 i
    rw [h3]
    have h4 : (cs0.toList.drop i).take 1 = [Value.int .i64 k] := e1
    have h5 : cs0.toList[i]? = some (Value.int .i64 k) := by
      have := congrArg (fun l => l[0]?) h4
      simpa using this
    simpa using h5
  intro g cs hg
  have : g = 0 ∧ cs = arity := by
    simp only [cfg] at hg
    split at hg
    · rename_i e; exact ⟨e, (Option.some.inj hg).symm⟩
    · cases hg
  obtain ⟨rfl, rfl⟩ := this
  have hc := RepC.cptr (w := W) (M := map0 W) arity 0 0 0 (fun i => .int .i64 (arityInts.getD i 0)) ?_ ?_ ?_
  · exact hc
  · have := map0_prot W 0 13 _ (key 13 0 rfl)
    simp only [arity_eq, List.length_map]
    show 0 + 14 ≤ _
    omega
  · intro i c hi
    rw [arity_eq, List.getElem?_map] at hi
    obtain ⟨n, hn, _⟩ := Option.map_eq_some_iff.1 hi
    rw [Nat.zero_add, key i n hn, List.getD_eq_getElem?_getD, hn]
    try rfl
  · intro i c hi
    rw [arity_eq, List.getElem?_map] at hi
    obtain ⟨n, hn, rfl⟩ := Option.map_eq_some_iff.1 hi
    rw [List.getD_eq_getElem?_getD, hn]
    exact .int .i64 n
end Go.Proofs.YtnpgbkldpdogjaaGreatDoor.V

set_option maxRecDepth 100000
namespace Go.Proofs.YtnpgbkldpdogjaaGreatDoor.V
open Go Go.Proofs
theorem putIn_zero {f : Fm} {s : Tm} (h : (f.putIn 0 s).2 = 0) : (f.putIn 0 s).1 = f.put 0 0 s ∧ (f.put 0 0 s).check = 0 := by
  unfold Fm.putIn at h ⊢
  split at h
  · rename_i hc; exact absurd h hc
  split at h
  · simp at h
  split at h
  · rename_i hc; exact absurd h hc
  split at h
  · simp at h
  split at h
  · simp at h
  rename_i h1 h2 h3 h4 h5
  rw [if_neg h1, if_neg h2, if_neg h3, if_neg h4, if_neg h5]
  have hk := Fm.check_ok2 (f := f) (by simpa using h1)
  have hs := Tm.check_ok (f := s) (by simpa using h3)
  have hp := Fm.put_count f s 0 0 hk.1
  rw [Int.add_zero] at hp
  exact ⟨rfl, Fm.check_small (Fm.put_ok f hs.1 0 0 (by omega) (by omega) hk.1) (by omega)⟩
theorem putInT_zero {t : Tm} {s : Tm} (h : (t.putIn 0 s).2 = 0) : (t.putIn 0 s).1 = t.put 0 0 s ∧ (t.put 0 0 s).check = 0 := by
  unfold Tm.putIn at h ⊢
  split at h
  · rename_i hc; exact absurd h hc
  split at h
  · simp at h
  split at h
  · rename_i hc; exact absurd h hc
  split at h
  · simp at h
  split at h
  · simp at h
  rename_i h1 h2 h3 h4 h5
  rw [if_neg h1, if_neg h2, if_neg h3, if_neg h4, if_neg h5]
  have hk := Tm.check_ok (f := t) (by simpa using h1)
  have hs := Tm.check_ok (f := s) (by simpa using h3)
  have hp := Tm.put_count t s 0 0 hk.1
  rw [Int.add_zero] at hp
  exact ⟨rfl, Tm.check_small (Tm.put_ok t hs.1 0 0 (by omega) (by omega) hk.1) (by omega)⟩
theorem put_size_small {f : Fm} {s : Tm} (h : (f.putIn 0 s).2 = 0) : (f.putIn 0 s).1.size ≤ 300000 := by
  obtain ⟨e, hc⟩ := putIn_zero h
  rw [e]
  obtain ⟨h1, h2⟩ := Fm.check_ok2 hc
  have := Fm.size_count _ h1
  omega
theorem law4 (l : List Int) (hi : i64s l) (σ : List Frm) : CallsV cfg 4 [.one (.slice .no 1 (encI l))] σ (.val (.one (.bool true))) σ := by
  refine w4 (by simp) ?_
  rw [s4]
  simp
  refine opV_call (c8 _) (by simp) ?_
  simp
  refine opV_call (c9 l _) (by simp) ?_
  by_cases hl : l.length ≤ 500
  rotate_left
  · simp [hl]
    refine opV_call (c8 _) (by simp) ?_
    simp
  simp [hl]
  have hd : Dk l := ⟨by omega, hi⟩
  refine opV_new (c10 l _) (by simp) ?_
  simp
  refine opV_own1 (d11 hd ⟨σ.length, 29, 0⟩ (List.suffix_refl l)) (by simp) (by simp [Pl.ptr]) ?_
  have hc := mkContext_good l
  have hcs := mkContext_suf l
  generalize (mkContext l).1 = g at hc
  generalize (mkContext l).2 = r1 at hcs
  have hg : Good 64 g := fun x hx => ⟨(hc.1 x hx).1, by have := (hc.1 x hx).2; omega⟩
  have hnat : Ty.nat.ok = true ∧ Ty.nat.size ≤ 64 := ⟨Ty.nat_ok, by simp⟩
  have hgs3 : Good 3 (g ++ [.nat]) := hc.1.app (Good.one ⟨Ty.nat_ok, by simp⟩)
  have hgs : Good 64 (g ++ [.nat]) := hg.app (Good.one hnat)
  have hgl : (g ++ [Ty.nat]).length ≤ 4 := by simp; omega
  simp
  refine ⟨by omega, by omega, ?_⟩
  refine opV_call (c18 _) (by simp) ?_
  simp
  refine ⟨by omega, by omega, ?_⟩
  refine opV_own1 (d12 hd ⟨σ.length, 29, 0⟩ 3 (by omega) (g ++ [.nat]) hgs (by omega) hcs) (by simp) (by simp [Pl.ptr]) ?_
  have hf := formMade 3 (by omega) (g ++ [.nat]) r1 hgs3 hgl
  have hr2 := (mkFormula_suf 3 (g ++ [.nat]) r1).trans hcs
  generalize (mkFormula 3 (g ++ [.nat]) r1).1 = f at hf
  generalize (mkFormula 3 (g ++ [.nat]) r1).2 = r2 at hr2
  have hfs := hf.size
  obtain ⟨x, hx⟩ := hf.made
  simp
  refine opV_call (c13 f (by omega) _) (by simp) ?_
  by_cases he : f.rtype.2 = 0
  rotate_left
  · have he' : (f.rtype.2 == 0) = false := by simpa using he
    simp [enc2, he, he', bne]
  obtain ⟨hs15, hsct⟩ := rtype_made (B := F.cb 3) (by decide) hf.check hx he
  simp [enc2, he]
  generalize f.rtype.1 = s at hs15 hsct
  refine opV_own1 (d15 hd ⟨σ.length, 29, 0⟩ 2 (by omega) (g ++ [.nat]) s hgs ⟨hs15.1, by omega⟩ (by omega) hr2) (by simp) (by simp [Pl.ptr]) ?_
  have ht := termOf (g ++ [.nat]) s r2 hgs3 hgl hs15
  have hr3 := (mkTerm_suf 2 (g ++ [.nat]) s r2).trans hr2
  generalize (mkTerm 2 (g ++ [.nat]) s r2).1 = t at ht
  generalize (mkTerm 2 (g ++ [.nat]) s r2).2 = r3 at hr3
  simp
  refine opV_call (c18 _) (by simp) ?_
  simp
  refine opV_own1 (d15 hd ⟨σ.length, 29, 0⟩ 2 (by omega) g .nat hg hnat (by omega) hr3) (by simp) (by simp [Pl.ptr]) ?_
  have ha := termOf g .nat r3 hc.1 (by omega) ⟨Ty.nat_ok, by simp⟩
  generalize (mkTerm 2 g .nat r3).1 = a at ha
  have hts := ht.size
  have has := ha.size
  obtain ⟨u, hu, huty⟩ := ht.made
  obtain ⟨v, hv, hvty⟩ := ha.made
  have hlf := Fm.least_mono (M := 268435456) (by omega) f hf.least
  have hlt := Tm.least_mono (M := 268435456) (by omega) t ht.least
  have hsm := (c14 f t (by omega) (by omega) (Tm.least_mono (by omega) t ht.least) []).1
  have her := F.realF_err hf.check ht.check hlf hlt
  have hz : (realF f t).2 = 0 → (realF f t).1 = (x.rl T.var (if x.has = true then u else .unit)).fm := fun h => by
    have := F.realF_zero x u
    rw [hx.fm, hu] at this
    exact this h
  simp
  refine opV_call (c14 f t (by omega) (by omega) (Tm.least_mono (by omega) t ht.least) _).2 (by simp) ?_
  generalize realF f t = R at *
  by_cases h0 : R.2 = 0
  rotate_left
  · have h4 : R.2 = 4 := her.resolve_left h0
    simp [tupF, h4]
  have hR := hz h0
  have hRs := hsm.2
  have hRc := hsm.1
  simp [tupF, h0]
  refine opV_call (c19 R.1 (by omega) 0 a (by omega) _) (by simp) ?_
  simp
  refine opV_call (c19 f (by omega) 0 a (by omega) _) (by simp) ?_
  simp
  refine opV_call (c20 t a 0 (by omega) (by omega) _) (by simp) ?_
  simp
  by_cases p1 : (R.1.putIn 0 a).2 = 0
  rotate_left
  · have p1' : ((R.1.putIn 0 a).2 == 0) = false := by simpa using p1
    simp [p1, p1', bne]
  by_cases p2 : (f.putIn 0 a).2 = 0
  rotate_left
  · have p2' : ((f.putIn 0 a).2 == 0) = false := by simpa using p2
    simp [p1, p2, p2', bne]
  by_cases p3 : (t.putIn 0 a).2 = 0
  rotate_left
  · have p3' : ((t.putIn 0 a).2 == 0) = false := by simpa using p3
    simp [p1, p2, p3, p3', bne]
  obtain ⟨q1, q1c⟩ := putIn_zero p1
  obtain ⟨q2, q2c⟩ := putIn_zero p2
  obtain ⟨q3, q3c⟩ := putInT_zero p3
  have z1 := put_size_small p1
  have z2 := put_size_small p2
  have z3 : (t.put 0 0 a).size ≤ 300000 := by
    obtain ⟨h1, h2⟩ := Tm.check_ok q3c
    have := Tm.size_count _ h1
    omega
  have l2 : (f.put 0 0 a).least 268435456 = true := Fm.put_least ha.least f 0 0 (by omega) (by omega) (by omega) hf.least
  have l3 : (t.put 0 0 a).least 268435456 = true := Tm.put_least ha.least t 0 0 (by omega) (by omega) (by omega) ht.least
  have e1 : R.1.put 0 0 a = ((x.sub (T.scons v T.var)).rl T.var (if x.has = true then u.sub (T.scons v T.var) else .unit)).fm := by
    rw [hR, ← hv, F.fm_put0, F.rl_put]
    congr 2
    split <;> rfl
  have e2 : f.put 0 0 a = (x.sub (T.scons v T.var)).fm := by rw [← hx.fm, ← hv, F.fm_put0]
  have e3 : t.put 0 0 a = (u.sub (T.scons v T.var)).tm := by rw [← hu, ← hv, T.tm_inst]; try rfl
  have her2 := F.realF_err q2c q3c l2 l3
  have hz2 : (realF (f.put 0 0 a) (t.put 0 0 a)).2 = 0 → (realF (f.put 0 0 a) (t.put 0 0 a)).1 = R.1.put 0 0 a := fun h => by
    rw [e2, e3] at h ⊢
    rw [F.realF_zero _ _ h, e1, F.has_sub]
  rw [q1, q2, q3, p1, p2, p3] at *
  simp
  refine opV_call (c14 (f.put 0 0 a) (t.put 0 0 a) (by omega) (by omega) (Tm.least_mono (by omega) _ l3) _).2 (by simp) ?_
  generalize realF (f.put 0 0 a) (t.put 0 0 a) = R2 at *
  by_cases k0 : R2.2 = 0
  rotate_left
  · have k4 : R2.2 = 4 := her2.resolve_left k0
    simp [tupF, k4]
  simp [tupF, k0, hz2 k0]
  refine opV_call (c21 (R.1.put 0 0 a) (R.1.put 0 0 a) (by omega) _) (by simp) ?_
  simp [Fm.same_refl]
end Go.Proofs.YtnpgbkldpdogjaaGreatDoor.V

set_option maxRecDepth 100000
namespace Go.Proofs.YtnpgbkldpdogjaaGreatDoor.V
open Go Go.Proofs
theorem look_places (hs : List Fm) : ∀ (ts : List Ty) (ps : List Int), (look ts ps hs).2.2 = 0 → ∃ cs qs, (look ts ps hs).1 = ts ++ cs ∧ (look ts ps hs).2.1 = ps ++ qs ∧ qs.length = hs.length ∧ (∀ c ∈ cs, ∃ h ∈ hs, h.cof = (c, true, 0)) ∧
    ∀ (i : Nat) (h : Fm), hs[i]? = some h → h.cof.2.2 = 0 ∧ ∃ q, qs[i]? = some q ∧ (h.cof.2.1 = true → 0 ≤ q ∧ (ts ++ cs)[q.toNat]? = some h.cof.1) := by
  induction hs with
  | nil => intro ts ps _; exact ⟨[], [], by simp [look], by simp [look], rfl, by simp, fun i h hi => by simp at hi⟩
  | cons f fs ih =>
    intro ts ps h
    rw [look] at h ⊢
    by_cases h1 : f.check = 0
    · rw [if_pos h1] at h ⊢
      by_cases h2 : f.cof.2.2 = 0
      · rw [if_pos h2] at h ⊢
        by_cases h3 : f.cof.2.1 = true
        · rw [if_pos h3] at h ⊢
          obtain ⟨cs, qs, a1, a2, a3, a4, a5⟩ := ih _ _ h
          refine ⟨f.cof.1 :: cs, (ts.length : Int) :: qs, by rw [a1]; simp, by rw [a2]; simp, by simp [a3], ?_, ?_⟩
          · intro c hc
            rcases List.mem_cons.1 hc with rfl | hc
            · exact ⟨f, by simp, by rw [← h3, ← h2]⟩
            · obtain ⟨h', hm, e⟩ := a4 c hc
              exact ⟨h', by simp [hm], e⟩
          · intro i h' hi
            cases i with
            | zero =>
              cases hi
              exact ⟨h2, _, rfl, fun _ => ⟨by omega, by simp⟩⟩
            | succ i =>
              obtain ⟨b1, q, b2, b3⟩ := a5 i h' hi
              refine ⟨b1, q, b2, fun hh => ?_⟩
              obtain ⟨c1, c2⟩ := b3 hh
              exact ⟨c1, by rw [← c2]; simp⟩
        · rw [if_neg h3] at h ⊢
          obtain ⟨cs, qs, a1, a2, a3, a4, a5⟩ := ih _ _ h
          refine ⟨cs, (-1) :: qs, a1, by rw [a2]; simp, by simp [a3], fun c hc => ?_, ?_⟩
          · obtain ⟨h', hm, e⟩ := a4 c hc
            exact ⟨h', by simp [hm], e⟩
          · intro i h' hi
            cases i with
            | zero => cases hi; exact ⟨h2, _, rfl, fun hh => absurd hh h3⟩
            | succ i => exact a5 i h' hi
      · rw [if_neg h2] at h; exact absurd h h2
    · rw [if_neg h1] at h; exact absurd h h1
theorem look_err (hs : List Fm) (hc : ∀ h ∈ hs, h.check = 0) : ∀ ts ps, (look ts ps hs).2.2 = 0 ∨ (look ts ps hs).2.2 = 4 := by
  induction hs with
  | nil => intro ts ps; exact .inl rfl
  | cons f fs ih =>
    intro ts ps
    have h1 := hc f (by simp)
    rw [look, if_pos h1]
    have he := ctype_errs (Fm.check_ok h1)
    unfold ctype at he
    rw [if_pos h1] at he
    split
    · split
      · exact ih (fun h hh => hc h (by simp [hh])) _ _
      · exact ih (fun h hh => hc h (by simp [hh])) _ _
    · rename_i h2
      rw [if_neg h2] at he
      exact he
namespace F
theorem fits_sub (f : F) : ∀ σ, (f.sub σ).fits ↔ f.fits := by
  induction f with
  | eq u v => intro σ; exact Iff.rfl
  | and a b h1 h2 => intro σ; simp only [sub, fits, h1, h2]
  | imp a b h1 h2 => intro σ; simp only [sub, fits, h1, h2, ct_sub]
  | q k s x h => intro σ; simp only [sub, fits, h]
end F
theorem hyp_facts {g cs : List Ty} {h : Fm} (hall : ∀ x ∈ g ++ cs, x.check = 0) (hf : FormMade (F.cb 2) g h) {p : Int} (hm : cs.length ≤ 100) (hn : (g ++ cs).length ≤ 100) (hp : p = -1 ∨ (0 ≤ p ∧ p < ((g ++ cs).length : Nat))) (hcof : h.cof.2.2 = 0) (hq : h.cof.2.1 = true → 0 ≤ p ∧ (g ++ cs)[p.toNat]? = some h.cof.1) :
    ((realHyp (g ++ cs).length cs.length p h).2 = 0 ∨ (realHyp (g ++ cs).length cs.length p h).2 = 4) ∧ Small (realHyp (g ++ cs).length cs.length p h).1 ∧ ((realHyp (g ++ cs).length cs.length p h).2 = 0 → (realHyp (g ++ cs).length cs.length p h).1.check = 0 ∧ (realHyp (g ++ cs).length cs.length p h).1.has = false ∧ (realHyp (g ++ cs).length cs.length p h).1.typ (g ++ cs) = 0) := by
  have hfs := hf.size
  obtain ⟨x, hx⟩ := hf.made
  have hl28 := Fm.least_mono (M := 268435456) (by omega) h hf.least
  have hl29 := Fm.least_mono (M := 536870912) (by omega) h hf.least
  have hlift : h.lift 0 cs.length = (h.up 0 cs.length, 0) := by
    unfold Fm.lift
    rw [if_neg (by simpa using hf.check), if_neg (by rw [hl29]; simp; omega)]
  have hr : realHyp (g ++ cs).length cs.length p h = realF (h.up 0 cs.length) (placeT (g ++ cs).length p) := by
    unfold realHyp
    rw [hlift, if_neg (by simp [hl28])]
    try rfl
  rw [hr]
  -- the lifted formula
  have e2 : h.up 0 cs.length = (x.sub fun i => .var (i + cs.length)).fm := by
    have := F.fm_up x 0 cs.length
    rw [T.sh0, F.ren_eq_sub, hx.fm] at this
    simpa using this
  have hup : (h.up 0 cs.length).ok = true := Fm.up_ok h 0 cs.length (by omega) hf.ok
  have huc : (h.up 0 cs.length).count = h.count := Fm.up_count h 0 cs.length
  have huk : (h.up 0 cs.length).check = 0 := Fm.check_small hup (by have := hf.cnt; omega)
  have hul : (h.up 0 cs.length).least 268435456 = true := Fm.least_mono (m := 1000 + (cs.length : Int)) (by omega) _ (Fm.up_least (by omega) h 0 hf.least)
  have hus : (h.up 0 cs.length).size = h.size := Fm.up_size h 0 cs.length
  have hT : ∃ u : T, u.tm = placeT (g ++ cs).length p ∧ (∀ s, x.ct = some s → T.HasTy (g ++ cs).reverse u s) ∧ (placeT (g ++ cs).length p).check = 0 ∧ (placeT (g ++ cs).length p).least 268435456 = true ∧ (placeT (g ++ cs).length p).size ≤ 2 := by
    unfold placeT
    rcases hp with rfl | hp
    · refine ⟨.unit, rfl, fun s hs => ?_, rfl, rfl, by simp [Tm.node, Ty.zero]⟩
      have : h.cof.2.1 = true := by
        have := (F.cof_ct x (by rw [hx.fm]; exact hcof)).1
        rw [hx.fm] at this
        rw [this, F.has, hs]
        try rfl
      have := (hq this).1
      omega
    · rw [if_pos hp.1]
      obtain ⟨k, hk⟩ : ∃ k : Nat, (((g ++ cs).length : Nat) : Int) - 1 - p = k := ⟨((((g ++ cs).length : Nat) : Int) - 1 - p).toNat, by omega⟩
      refine ⟨.var k, by rw [hk]; try rfl, fun s hs => .var ?_, ?_, ?_, by simp [Tm.var, Ty.zero]⟩
      · have hcf := F.cof_ct x (by rw [hx.fm]; exact hcof)
        rw [hx.fm] at hcf
        have h1 : h.cof.2.1 = true := by rw [hcf.1, F.has, hs]; try rfl
        have h2 := (hq h1).2
        rw [hcf.2 s hs] at h2
        have hlt := (List.getElem?_eq_some_iff.1 h2).1
        rw [List.getElem?_reverse (by omega)]
        rw [← h2]
        congr 1
        omega
      · rw [hk]; exact Tm.check_small (Tm.var_ok (by omega)) (by simp [Tm.var])
      · rw [hk]; simp [Tm.var, Tm.least_mk, Tm.leasts]; omega
  obtain ⟨u, hu, huty, hpk, hpl, hps⟩ := hT
  have her := F.realF_err huk hpk hul hpl
  have hsm := (c14 (h.up 0 cs.length) (placeT (g ++ cs).length p) (by omega) (by omega) (Tm.least_mono (by omega) _ hpl) []).1
  refine ⟨her, hsm, fun h0 => ?_⟩
  have hmade : F.IsMade (F.cb 2) (g ++ cs) (h.up 0 cs.length) (x.sub fun i => .var (i + cs.length)) := by
    refine ⟨e2.symm, hx.typ.sub fun i y hy => .var ?_, fun s hs => hx.cts s (by rw [F.ct_sub] at hs; exact hs), (F.fits_sub x _).2 hx.fits⟩
    rw [List.reverse_append, List.getElem?_append_right (by simp)]
    simpa using hy
  have hzero : (realF (h.up 0 cs.length) (placeT (g ++ cs).length p)).1 = ((x.sub fun i => .var (i + cs.length)).rl T.var (if (x.sub fun i => T.var (i + cs.length)).has = true then u else .unit)).fm := by
    rw [e2, ← hu] at h0 ⊢
    exact F.realF_zero _ u h0
  obtain ⟨k1, k2, k3, k4⟩ := F.rl_made hall hmade (t := u) (fun s hs => huty s (by rw [F.ct_sub] at hs; exact hs)) hzero hsm.1
  exact ⟨k2, k3, k4⟩
def HypOk (all : List Ty) (r : Fm) : Prop := Small r ∧ r.check = 0 ∧ r.has = false ∧ r.typ all = 0
theorem hyps_facts {g cs : List Ty} (hall : ∀ x ∈ g ++ cs, x.check = 0) (hm : cs.length ≤ 100) (hn : (g ++ cs).length ≤ 100) (hs : List Fm) : ∀ (ps : List Int), ps.length = hs.length → (∀ h ∈ hs, FormMade (F.cb 2) g h) → (∀ p ∈ ps, p = -1 ∨ (0 ≤ p ∧ p < ((g ++ cs).length : Nat))) →
    (∀ (i : Nat) (h : Fm), hs[i]? = some h → h.cof.2.2 = 0 ∧ ∃ q, ps[i]? = some q ∧ (h.cof.2.1 = true → 0 ≤ q ∧ (g ++ cs)[q.toNat]? = some h.cof.1)) →
    ((realHyps (g ++ cs).length cs.length ps hs).2 = 0 ∨ (realHyps (g ++ cs).length cs.length ps hs).2 = 4) ∧ ((realHyps (g ++ cs).length cs.length ps hs).2 = 0 → (realHyps (g ++ cs).length cs.length ps hs).1.length = hs.length ∧ ∀ r ∈ (realHyps (g ++ cs).length cs.length ps hs).1, HypOk (g ++ cs) r) := by
  induction hs with
  | nil =>
    intro ps hl _ _ _
    have : ps = [] := List.length_eq_zero_iff.1 hl
    subst this
    exact ⟨.inl rfl, fun _ => ⟨rfl, fun r hr => by simp [realHyps] at hr⟩⟩
  | cons h hs ih =>
    intro ps hl hf hp hc
    cases ps with
    | nil => simp at hl
    | cons p ps =>
      obtain ⟨c1, q, c2, c3⟩ := hc 0 h rfl
      cases c2
      obtain ⟨a1, a2, a3⟩ := hyp_facts hall (hf h (by simp)) hm hn (hp p (by simp)) c1 c3
      obtain ⟨b1, b2⟩ := ih ps (by simpa using hl) (fun h' hh => hf h' (by simp [hh])) (fun p' hh => hp p' (by simp [hh])) (fun i h' hi => hc (i + 1) h' hi)
      rw [realHyps]
      by_cases e1 : (realHyp (g ++ cs).length cs.length p h).2 = 0
      · rw [if_neg (by simpa using e1)]
        by_cases e2 : (realHyps (g ++ cs).length cs.length ps hs).2 = 0
        · rw [if_neg (by simpa using e2)]
          obtain ⟨d1, d2⟩ := b2 e2
          refine ⟨.inl rfl, fun _ => ⟨congrArg (· + 1) d1, fun r hr => ?_⟩⟩
          rcases List.mem_cons.1 hr with rfl | hr
          · exact ⟨a2, a3 e1⟩
          · exact d2 r hr
        · rw [if_pos e2]
          exact ⟨b1, fun h0 => absurd h0 e2⟩
      · rw [if_pos e1]
        exact ⟨a1, fun h0 => absurd h0 e1⟩
theorem seq_facts {g : List Ty} {hs : List Fm} (hg : Good 3 g) (hgl : g.length ≤ 3) (hf : ∀ h ∈ hs, FormMade (F.cb 2) g h) (hl : hs.length ≤ 2) :
    ((realSeq g hs).2 = 0 ∨ (realSeq g hs).2 = 3 ∨ (realSeq g hs).2 = 4) ∧ ((realSeq g hs).2 = 0 → (realSeq g hs).1.2.length = hs.length ∧ g.length ≤ (realSeq g hs).1.1.length ∧ ctxCheck (realSeq g hs).1.1 = 0 ∧ (∀ x ∈ (realSeq g hs).1.1, x.check = 0) ∧ ∀ r ∈ (realSeq g hs).1.2, HypOk (realSeq g hs).1.1 r) := by
  have hgc := ctx_good hg
  have h0 : looks g hs = look g [] hs := by
    unfold looks
    rw [if_pos (ctx_zero hgc (by omega)), if_neg (by omega)]
  have hle := look_err hs (fun h hh => (hf h hh).check) g []
  unfold realSeq
  rw [h0]
  by_cases e : (look g [] hs).2.2 = 0
  · rw [if_neg (by simpa using e)]
    obtain ⟨cs, qs, a1, a2, a3, a4, a5⟩ := look_places hs g [] e
    have a6 := (look_facts hs g [] e (by simp)).2.2
    rw [a1, a2] at *
    simp only [List.nil_append] at *
    have hcl : cs.length ≤ 2 := by have := a6.1; simp at this; omega
    have hall : ∀ x ∈ g ++ cs, x.check = 0 := by
      intro x hx
      rcases List.mem_append.1 hx with hx | hx
      · exact hgc x hx
      · obtain ⟨h, hm, e⟩ := a4 x hx
        obtain ⟨y, hy⟩ := (hf h hm).made
        have hcf := F.cof_ct y (by rw [hy.fm, e])
        rw [hy.fm, e] at hcf
        obtain ⟨s, hs⟩ : ∃ s, y.ct = some s := by
          have := hcf.1
          simp only [F.has] at this
          exact Option.isSome_iff_exists.1 this.symm
        have := hcf.2 s hs
        have hc := hy.cts s hs
        have h7 : F.cb 2 = 7 := rfl
        simp only at this
        rw [this]
        exact Ty.check_iff.2 ⟨hc.1, by have := hc.2; omega⟩
    have hmore : (((g ++ cs).length : Nat) : Int) - g.length = cs.length := by simp; omega
    rw [hmore]
    obtain ⟨b1, b2⟩ := hyps_facts hall (by omega) (by simp; omega) hs qs a3 hf a6.2 a5
    by_cases e2 : (realHyps (g ++ cs).length cs.length qs hs).2 = 0
    · rw [if_neg (by simpa using e2), if_neg (by simp; omega)]
      obtain ⟨d1, d2⟩ := b2 e2
      exact ⟨.inl rfl, fun _ => ⟨d1, by simp, ctx_zero hall (by simp; omega), hall, d2⟩⟩
    · rw [if_pos e2]
      exact ⟨.inr (.inr (b1.resolve_left e2)), fun h => absurd h e2⟩
  · rw [if_pos e]
    exact ⟨.inr (.inr (hle.resolve_left e)), fun h => absurd h e⟩
theorem mkFormulas_made (g : List Ty) (hg : Good 3 g) (hgl : g.length ≤ 3) (n : Nat) : ∀ r, ∀ h ∈ (mkFormulas 2 g n r).1, FormMade (F.cb 2) g h := by
  induction n with
  | zero => intro r h hh; simp [mkFormulas] at hh
  | succ n ih =>
    intro r h hh
    rw [mkFormulas] at hh
    rcases List.mem_cons.1 hh with rfl | hh
    · exact formMade 2 (by omega) g r hg (by omega)
    · exact ih _ h hh
theorem made_sizes {g : List Ty} {hs : List Fm} (h : ∀ x ∈ hs, FormMade (F.cb 2) g x) : Fm.sizes hs ≤ 3000 * hs.length := by
  induction hs with
  | nil => simp
  | cons y hs ih =>
    have := (h y (by simp)).size
    have := ih fun z hz => h z (by simp [hz])
    simp
    omega
theorem all_sizes {all : List Ty} (h : ∀ x ∈ all, x.check = 0) : Ty.sizes all ≤ 64 * all.length := by
  induction all with
  | nil => simp
  | cons y all ih =>
    have := Ty.ok_size (h y (by simp))
    have := ih fun z hz => h z (by simp [hz])
    simp
    omega
def i5 (all : List Ty) (hs : List Fm) (o1 o2 : Own) (σ : List Frm) (j : Nat) : St → Prop
  | ⟨env, loc, σ', _⟩ => env 5 = .one (.box σ.length 5 0 0) ∧ env 53 = .one (.slice .no 5 (hs.map encF)) ∧ env 54 = .one (.int .i64 hs.length) ∧ env 55 = .one (.int .i64 j) ∧ loc 5 = [[.slice o1 2 (all.map enc), .slice o2 5 (hs.map encF)]] ∧ σ' = σ
theorem law5 (l : List Int) (hi : i64s l) (σ : List Frm) : CallsV cfg 5 [.one (.slice .no 1 (encI l))] σ (.val (.one (.bool true))) σ := by
  refine w5 (by simp) ?_
  rw [s5]
  simp
  refine opV_call (c8 _) (by simp) ?_
  simp
  refine opV_call (c9 l _) (by simp) ?_
  by_cases hl : l.length ≤ 500
  rotate_left
  · simp [hl]
    refine opV_call (c8 _) (by simp) ?_
    simp
  simp [hl]
  have hd : Dk l := ⟨by omega, hi⟩
  refine opV_new (c10 l _) (by simp) ?_
  simp
  refine opV_own1 (d22 hd ⟨σ.length, 20, 0⟩ (List.suffix_refl l)) (by simp) (by simp [Pl.ptr]) ?_
  have hfine := mkSequent_fine l
  have hmade : ∀ h ∈ (mkSequent l).1.2, FormMade (F.cb 2) (mkSequent l).1.1 h := mkFormulas_made _ (mkContext_good l).1 (mkContext_good l).2 _ _
  obtain ⟨g1, g2, _, g4⟩ := hfine
  generalize (mkSequent l).1.1 = g at *
  generalize (mkSequent l).1.2 = hs at *
  obtain ⟨f1, f2⟩ := seq_facts g1 g2 hmade g4
  have hgs : Ty.sizes g ≤ 128000 := Good.sizes2000 (fun x hx => ⟨(g1 x hx).1, by have := (g1 x hx).2; omega⟩) (by omega)
  have hhs : Fm.sizes hs ≤ 3000 * hs.length := made_sizes hmade
  simp [encS]
  refine opV_call (c23 g hs (by omega) (by omega) _) (by simp [encS]) ?_
  generalize realSeq g hs = R at *
  by_cases h0 : R.2 = 0
  rotate_left
  · have h34 := f1.resolve_left h0
    have h0' : (R.2 == 0) = false := by simpa using h0
    rcases h34 with h | h
    · simp [tupS, encS, h]
    · simp [tupS, encS, h]
  obtain ⟨d1, d2, d3, d4, d5⟩ := f2 h0
  obtain ⟨⟨all, rs⟩, e⟩ := R
  simp only at h0 d1 d2 d3 d4 d5
  subst h0
  have hlen : ((rs.length : Int) == (hs.length : Int)) = true := by rw [d1]; simp
  have hlen2 : ¬ (all.length : Int) < g.length := by omega
  have hal : all.length ≤ 16 := ctx_len d3
  have hals : Ty.sizes all ≤ 64 * all.length := all_sizes d4
  simp [tupS, encS, d1, hlen, hlen2, bne]
  refine wpP_range rs.length (i5 all rs .no .no σ) (by omega) ⟨by simp, by simp, by simp [d1], by simp, by simp, by simp [setLoc]⟩ ?_ ?_ (hend := ?_)
  · rintro j ⟨env, loc, σ', live⟩ ⟨e5, e53, e54, e55, h5, rfl⟩
    exact ⟨e55, e54⟩
  · rintro j ⟨env, loc, σ', live⟩ hj ⟨e5, e53, e54, e55, h5, rfl⟩
    obtain ⟨x, hx, hdr, hm⟩ := drop_cons hj
    obtain ⟨k1, k2, k3, k4⟩ := d5 x hm
    have hxs := k1.2
    have hxc := k1.1
    simp [e5, e53, e54, e55, h5, hx]
    refine opV_call (c16 x (by omega) _) (by simp) ?_
    rw [hasOf_eq k2, k3, k2]
    simp [e5, e53, e54, e55, h5]
    refine opV_call (c17 x all (by omega) _) (by simp) ?_
    have htd : x.typed all = 0 := by
      unfold Fm.typed Fm.belowT
      rw [if_neg (by simpa using d3), if_neg (by simpa using k2)]
      exact k4
    rw [htd]
    simp [e5, e53, e54, e55, h5]
    exact ⟨by simp, by simp, by simp, by simp, by simp [h5], rfl⟩
  · rintro ⟨env, loc, σ', live⟩ ⟨e5, e53, e54, e55, h5, rfl⟩
    simp
end Go.Proofs.YtnpgbkldpdogjaaGreatDoor.V
