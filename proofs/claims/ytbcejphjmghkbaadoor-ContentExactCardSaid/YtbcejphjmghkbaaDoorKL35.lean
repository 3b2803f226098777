/-
Parts of the proof of one law, put together by program: part 5.
-/
import Derived.Test.YtbcejphjmghkbaaDoorKL34
import Derived.Carry
import Derived.OpenShut
import Derived.LaidMore
import Derived.LaidLaws
import Derived.ProofKit
import Derived.ChangeShapes
import Derived.JoinedOf
import Derived.Stop.Joined

namespace Go.Proofs.YtbcejphjmghkbaaDoor.V
open Go Go.RowKit
section
variable {H : Type} {henc : TypeId × Value → H} {P : Program} {W : World} {M : Map}
def RepL (W : World) (M : Map) (cs : List Cell) (vs : List Value) : Prop := cs.length = vs.length ∧ ∀ (i : Nat) (c : Cell) (v : Value), cs[i]? = some c → vs[i]? = some v → RepC W M c v
theorem RepL.app {a b : List Cell} {va vb : List Value} (h : RepL W M a va) (k : RepL W M b vb) : RepL W M (a ++ b) (va ++ vb) := by
  refine ⟨by simp [h.1, k.1], fun i c v hc hv => ?_⟩
  by_cases hi : i < a.length
  · rw [List.getElem?_append_left hi] at hc
    rw [List.getElem?_append_left (by rw [← h.1]; exact hi)] at hv
    exact h.2 i c v hc hv
  · rw [List.getElem?_append_right (by omega)] at hc
    rw [List.getElem?_append_right (by rw [← h.1]; omega), ← h.1] at hv
    exact k.2 _ c v hc hv
theorem RepL.one {c : Cell} {v : Value} (h : RepC W M c v) : RepL W M [c] [v] := by
  refine ⟨rfl, fun i c' v' hc hv => ?_⟩
  cases i with
  | zero => cases hc; cases hv; exact h
  | succ i => simp at hc
abbrev tr (henc : TypeId × Value → H) (P : Program) (W : World) (n : Nat) (t : TypeId) (cs : List Value) : Option (DataW H × List MemPlace) := DataW.trod henc P W 0 (fun _ => true) true n t cs
theorem mapM_get {α β : Type} {f : α → Option β} : ∀ {l : List α} {r : List β}, l.mapM f = some r → r.length = l.length ∧ ∀ (i : Nat) (x : α), l[i]? = some x → f x = r[i]?
  | [], r, h => by simp at h; subst h; simp
  | x :: l, r, h => by
    simp only [List.mapM_cons, Option.bind_eq_bind, Option.bind_eq_some_iff, Option.pure_def, Option.some.injEq] at h
    obtain ⟨y, h1, ys, h2, rfl⟩ := h
    obtain ⟨h3, h4⟩ := mapM_get h2
    refine ⟨by simp [h3], fun i z hz => ?_⟩
    cases i with
    | zero => simp at hz; subst hz; simpa using h1
    | succ i => simp at hz ⊢; exact h4 i z hz
theorem cells_get {base : Nat} {a : Addr} {n : Nat} {cs : List Value} (h : W.cells? base a n = some cs) : cs.length = n ∧ ∀ i, i < n → W.cell? (a.add i) = cs[i]? := by
  unfold World.cells? at h
  split at h
  · obtain ⟨h1, h2⟩ := mapM_get h
    refine ⟨by simpa using h1, fun i hi => ?_⟩
    exact h2 i i (by simp [hi])
  · cases h
theorem read_slice {α : Type} {encA : α → List Cell} {t e : TypeId} {sz fuel : Nat} {cs : List Value} {x : DataW H × List MemPlace} (hprot : ∀ b i v, W.cell? ⟨b, i, none⟩ = some v → i < M.prot b) (ht : P.underlying t = some (.slice e)) (hsz : P.cellsOf e = sz) (hpos : 0 < sz)
    (hread : ∀ n, n < fuel → ∀ cs x, tr henc P W n e cs = some x → ∃ a : α, RepL W M (encA a) cs) (h : tr henc P W fuel t cs = some x) : ∃ l : List α, RepL W M [.slice .no sz (l.map encA)] cs := by
  rcases DataW.trod_slice ht h with ⟨rfl, _⟩ | ⟨a, len, cap, elems, rest, n, rfl, rfl, _, _, hlc, _, hlen, hel, _, _⟩
  · exact ⟨[], .one (.nil _ _ _ _ (fun h => by cases h))⟩
  · rw [hsz] at hel
    have key : ∀ i, i < len → ∃ (y : α) (vs : List Value), W.cells? 0 (a.add (i * sz)) sz = some vs ∧ RepL W M (encA y) vs := by
      intro i hi
      have h1 := hel i hi
      rw [List.getElem?_eq_getElem (by omega)] at h1
      obtain ⟨vs, h2, h3⟩ := Option.bind_eq_some_iff.1 h1
      obtain ⟨y, hy⟩ := hread n (by omega) vs _ h3
      exact ⟨y, vs, h2, hy⟩
    have hl : ∃ l : List α, l.length = len ∧ ∀ (i : Nat) (y : α), l[i]? = some y → ∃ vs, W.cells? 0 (a.add (i * sz)) sz = some vs ∧ RepL W M (encA y) vs := by
      clear hel hlen
      have : ∀ m, m ≤ len → ∃ l : List α, l.length = m ∧ ∀ (i : Nat) (y : α), l[i]? = some y → ∃ vs, W.cells? 0 (a.add (i * sz)) sz = some vs ∧ RepL W M (encA y) vs := by
        intro m
        induction m with
        | zero => intro _; exact ⟨[], rfl, fun i y h => by simp at h⟩
        | succ m ih =>
          intro hm
          obtain ⟨l, h1, h2⟩ := ih (by omega)
          obtain ⟨y, vs, h3, h4⟩ := key m (by omega)
          refine ⟨l ++ [y], by simp [h1], fun i z hz => ?_⟩
          by_cases hi : i < l.length
          · rw [List.getElem?_append_left hi] at hz; exact h2 i z hz
          · rw [List.getElem?_append_right (by omega)] at hz
            have : i = m := by
              have := (List.getElem?_eq_some_iff.1 hz).1
              simp at this
              omega
            subst this
            rw [h1] at hz
            simp at hz
            subst hz
            exact ⟨vs, h3, h4⟩
      exact this len (Nat.le_refl _)
    obtain ⟨l, hll, hl⟩ := hl
    refine ⟨l, .one ?_⟩
    cases hz : l with
    | nil =>
      rw [hz] at hll
      simp at hll
      subst hll
      exact .nil _ _ _ _ (fun h => by cases h)
    | cons y0 l0 =>
      have hspot : a.spot = none := by
        obtain ⟨vs, h2, h3⟩ := hl 0 y0 (by rw [hz]; rfl)
        obtain ⟨h4, h5⟩ := cells_get h2
        have h6 := h5 0 hpos
        rw [List.getElem?_eq_getElem (by omega)] at h6
        have := World.cell?_spot h6
        simpa [Addr.add] using this
      obtain ⟨b, off, spot⟩ := a
      simp only at hspot
      subst hspot
      rw [← hz]
      have hcell : ∀ (j i : Nat) (y : α) (c : Cell), l[j]? = some y → (encA y)[i]? = some c → (∃ v, W.cell? ⟨b, off + (j * sz + i), none⟩ = some v ∧ RepC W M c v) ∧ (encA y).length = sz := by
        intro j i y c hy hc
        obtain ⟨vs, h2, h3⟩ := hl j y hy
        obtain ⟨h4, h5⟩ := cells_get h2
        have hi := (List.getElem?_eq_some_iff.1 hc).1
        have hle : (encA y).length = sz := by rw [h3.1, h4]
        have h6 := h5 i (by omega)
        rw [List.getElem?_eq_getElem (by omega)] at h6
        refine ⟨⟨_, ?_, h3.2 i c _ hc (List.getElem?_eq_getElem (by omega))⟩, hle⟩
        rw [← h6]
        congr 1
        simp only [Addr.add]
        repeat' split
        all_goals first
          | (simp_all; done)
          | (simp; omega)
      have hlens : ∀ y ∈ l, (encA y).length = sz := by
        intro y hy
        obtain ⟨j, hj⟩ := List.getElem?_of_mem hy
        obtain ⟨vs, h2, h3⟩ := hl j y hj
        rw [h3.1, (cells_get h2).1]
      rw [← hll]
      have hcap : l.length ≤ cap := by omega
      have hf := RepC.slice (w := W) (M := M) .no sz (l.map encA) b off cap (fun j i => (W.cell? ⟨b, off + (j * sz + i), none⟩).getD undef) (fun e he => by
          obtain ⟨y, hy, rfl⟩ := List.mem_map.1 he; exact hlens y hy) ?_ (fun h => by cases h) (by simpa using hcap) ?_ ?_
      · simpa using hf
      · -- the last cell
        have hne : l.length - 1 < l.length := by rw [hz]; simp
        obtain ⟨y, hy⟩ : ∃ y, l[l.length - 1]? = some y := ⟨_, List.getElem?_eq_getElem hne⟩
        have hly := hlens y (List.mem_of_getElem? hy)
        obtain ⟨c, hc⟩ : ∃ c, (encA y)[sz - 1]? = some c := ⟨_, List.getElem?_eq_getElem (by omega)⟩
        obtain ⟨⟨v, hv, _⟩, _⟩ := hcell _ _ y c hy hc
        have := hprot _ _ _ hv
        rw [List.length_map]
        have e : l.length * sz = (l.length - 1) * sz + sz := by
          rw [Nat.sub_mul, Nat.one_mul]
          have : sz ≤ l.length * sz := Nat.le_mul_of_pos_left _ (by omega)
          omega
        omega
      · intro j i es c hj hi
        rw [List.getElem?_map] at hj
        obtain ⟨y, hy, rfl⟩ := Option.map_eq_some_iff.1 hj
        obtain ⟨⟨v, hv, _⟩, _⟩ := hcell j i y c hy hi
        rw [hv]; rfl
      · intro j i es c hj hi
        rw [List.getElem?_map] at hj
        obtain ⟨y, hy, rfl⟩ := Option.map_eq_some_iff.1 hj
        obtain ⟨⟨v, hv, hr⟩, _⟩ := hcell j i y c hy hi
        rw [hv]; exact hr
theorem read_int {t : TypeId} {k : IntKind} {fuel : Nat} {cs : List Value} {x : DataW H × List MemPlace} (ht : P.underlying t = some (.int k)) (h : tr henc P W fuel t cs = some x) : ∃ n, (Lit.int k n).wf = true ∧ RepL W M [.int k n] cs := by
  obtain ⟨n, rfl, _, h2⟩ := DataW.trod_int ht h
  exact ⟨n, h2, .one (.int k n)⟩
theorem wf_i64 {n : Int} (h : (Lit.int .i64 n).wf = true) : -9223372036854775808 ≤ n ∧ n ≤ 9223372036854775807 := by
  simp only [Lit.wf, Bool.and_eq_true, decide_eq_true_eq] at h
  have e1 : IntKind.min .i64 = -9223372036854775808 := by decide
  have e2 : IntKind.max .i64 = 9223372036854775807 := by decide
  rw [e1, e2] at h
  exact h
def structOf (P : Program) (t : TypeId) : List (TypeId × Nat) := match P.underlying t with
  | some (.struct fs) => fs.toList.map fun f => (f.type, f.offset)
  | _ => []
theorem read_struct {t : TypeId} {l : List (TypeId × Nat)} {n : Nat} {cs : List Value} {x : DataW H × List MemPlace} (hs : structOf P t = l) (hne : l ≠ []) (h : tr henc P W n t cs = some x) :
    ∃ m, n = m + 1 ∧ cs.length = P.cellsOf t ∧ ∀ (j tj oj : Nat), l[j]? = some (tj, oj) → ∃ y, tr henc P W m tj ((cs.drop oj).take (P.cellsOf tj)) = some y := by
  unfold structOf at hs
  split at hs
  · rename_i fs hu
    obtain ⟨xs, m, rfl, _, hl, hxs, hel⟩ := DataW.trod_struct hu h
    refine ⟨m, rfl, hl, fun j tj oj hj => ?_⟩
    rw [← hs, List.getElem?_map] at hj
    obtain ⟨f, hf, he⟩ := Option.map_eq_some_iff.1 hj
    cases he
    have hf' : fs[j]? = some f := by simpa using hf
    have hlt : j < xs.length := by rw [hxs]; exact (Array.getElem?_eq_some_iff.1 hf').1
    exact ⟨xs[j], (hel j f hf').trans (List.getElem?_eq_getElem hlt)⟩
  · exact absurd hs.symm hne
noncomputable def map0 (W : World) : Map := ⟨fun b => match W.heap[b]? with
  | some (.cells c _ _) => c.size
  | _ => 0, fun _ _ _ => .none, fun _ => .none⟩
theorem map0_prot (W : World) : ∀ b i v, W.cell? ⟨b, i, .none⟩ = some v → i < (map0 W).prot b := by
  intro b i v h
  unfold World.cell? at h
  simp only [map0]
  split at h
  · rename_i c _ _ hb
    rw [hb]
    simp at h
    exact (Array.getElem?_eq_some_iff.1 h).1
  · cases h
theorem base0 {C : Cfg} {W : World} (hg : Globs C W (map0 W)) : Base C W (map0 W) [] := by
  have hn : ∀ d t v b, (map0 W).box d t v ≠ some b := fun d t v b h => by simp [map0] at h
  refine ⟨fun d t v b h => absurd h (hn d t v b), fun d t v d' t' v' b h => absurd h (hn d t v b), hg, fun b hb => ?_⟩
  simp only [map0]
  rw [Array.getElem?_eq_none hb]
theorem law_calls {C : Cfg} {f : FuncId} {ps : List PV} (h : CallsV C f ps [] (.val (.one (.bool true))) []) {W : World} (hg : Globs C W (map0 W)) {args : Array Value} (hl : args.size = ps.length) (ha : ∀ (i : Nat) (p : PV), ps[i]? = some p → RepV W (map0 W) p (args.getD i undef)) :
    Calls C.P f args W fun e W' => e = .returned (.bool true) ∧ Below W.heap.size W W' := by
  obtain ⟨_, _, h⟩ := h
  refine (h W (map0 W) args (base0 hg) hl ha).mono fun e W' ⟨M', v, he, hk, _, _, hr⟩ => ?_
  subst he
  refine ⟨?_, ⟨hk.os, hk.tape, hk.output, hk.size, fun b hb => hk.keep b hb fun d t v h => by cases h⟩⟩
  obtain ⟨_, hr⟩ := hr
  cases hr with
  | one c v h => cases h; rfl
theorem repV_one {W : World} {M : Map} {c : Cell} {v : Value} (h : RepL W M [c] v.cells.toList) (hv : v.cells.toList = [v]) : RepV W M (.one c) v := by
  rw [hv] at h
  exact .one c v (h.2 0 c v rfl rfl)
theorem repV_agg {W : World} {M : Map} {cs : List Cell} {vs : Array Value} (h : RepL W M cs (Value.cells (.agg vs)).toList) : RepV W M (.agg cs) (.agg vs) := by
  have e : (Value.cells (.agg vs)).toList = vs.toList := rfl
  rw [e] at h
  refine .agg cs vs (by simpa using h.1.symm) fun i c hc => ?_
  have hi : i < vs.size := by have := (List.getElem?_eq_some_iff.1 hc).1; have := h.1; simp at this; omega
  have := h.2 i c (vs.getD i undef) hc (by simp [Array.getD, hi])
  exact this
end
end Go.Proofs.YtbcejphjmghkbaaDoor.V


set_option maxRecDepth 100000
namespace Go.Proofs.YtbcejphjmghkbaaDoor.V
open Go Go.Proofs Go.RowKit Go.ChangeShapes Go.WideShapes Go.ChangeAt
section
variable {H : Type} {henc : TypeId × Value → H} {W : World}
theorem st25 : structOf Tryd.prog 25 = [(3, 0), (23, 1)] := by kernel_rfl
theorem st62 : structOf Tryd.prog 62 = [(3, 0), (3, 1), (25, 2), (26, 4)] := by kernel_rfl
theorem st29 : structOf Tryd.prog 29 = [(3, 0), (25, 1), (26, 3), (27, 4)] := by kernel_rfl
theorem st31 : structOf Tryd.prog 31 = [(23, 0), (27, 1)] := by kernel_rfl
theorem un3 : Tryd.prog.underlying 3 = some (.int .i64) := by kernel_rfl
theorem un4 : Tryd.prog.underlying 4 = some .bool := by kernel_rfl
theorem un22 : Tryd.prog.underlying 22 = some (.slice 3) := by kernel_rfl
theorem un23 : Tryd.prog.underlying 23 = some (.slice 25) := by kernel_rfl
theorem un26 : Tryd.prog.underlying 26 = some (.slice 62) := by kernel_rfl
theorem un27 : Tryd.prog.underlying 27 = some (.slice 29) := by kernel_rfl
theorem ce3 : Tryd.prog.cellsOf 3 = 1 := by kernel_rfl
theorem ce22 : Tryd.prog.cellsOf 22 = 1 := by kernel_rfl
theorem ce23 : Tryd.prog.cellsOf 23 = 1 := by kernel_rfl
theorem ce25 : Tryd.prog.cellsOf 25 = 2 := by kernel_rfl
theorem ce26 : Tryd.prog.cellsOf 26 = 1 := by kernel_rfl
theorem ce27 : Tryd.prog.cellsOf 27 = 1 := by kernel_rfl
theorem ce29 : Tryd.prog.cellsOf 29 = 5 := by kernel_rfl
theorem ce31 : Tryd.prog.cellsOf 31 = 2 := by kernel_rfl
theorem ce62 : Tryd.prog.cellsOf 62 = 5 := by kernel_rfl
theorem read_ty : ∀ (n : Nat) (cs : List Value) (x : DataW H × List MemPlace), tr henc Tryd.prog W n 25 cs = some x → ∃ t : Ty, RepL W (map0 W) (enc t) cs := by
  intro n
  induction n using Nat.strongRecOn with
  | ind n ih =>
  intro cs x h
  obtain ⟨m, rfl, hl, hf⟩ := read_struct st25 (by simp) h
  rw [ce25] at hl
  match cs, hl with
  | [a, b], _ =>
    obtain ⟨y0, h0⟩ := hf 0 3 0 rfl
    obtain ⟨y1, h1⟩ := hf 1 23 1 rfl
    rw [ce3] at h0
    rw [ce23] at h1
    obtain ⟨k, _, hk⟩ := read_int (M := map0 W) un3 h0
    obtain ⟨l, hl⟩ := read_slice (map0_prot W) un23 ce25 (by omega) (fun k hk cs x h => ih k (by omega) cs x h) h1
    refine ⟨.mk k l, ?_⟩
    rw [enc_mk]
    exact RepL.app hk hl
theorem read_tm : ∀ (n : Nat) (cs : List Value) (x : DataW H × List MemPlace), tr henc Tryd.prog W n 62 cs = some x → ∃ t : Tm, RepL W (map0 W) (encT t) cs := by
  intro n
  induction n using Nat.strongRecOn with
  | ind n ih =>
  intro cs x h
  obtain ⟨m, rfl, hl, hf⟩ := read_struct st62 (by simp) h
  rw [ce62] at hl
  match cs, hl with
  | [a, b, c, d, e], _ =>
    obtain ⟨y0, h0⟩ := hf 0 3 0 rfl
    obtain ⟨y1, h1⟩ := hf 1 3 1 rfl
    obtain ⟨y2, h2⟩ := hf 2 25 2 rfl
    obtain ⟨y3, h3⟩ := hf 3 26 4 rfl
    rw [ce3] at h0 h1
    rw [ce25] at h2
    rw [ce26] at h3
    obtain ⟨k, _, hk⟩ := read_int (M := map0 W) un3 h0
    obtain ⟨i, _, hi⟩ := read_int (M := map0 W) un3 h1
    obtain ⟨t, ht⟩ := read_ty _ _ _ h2
    obtain ⟨l, hl⟩ := read_slice (map0_prot W) un26 ce62 (by omega) (fun k hk cs x h => ih k (by omega) cs x h) h3
    refine ⟨.mk k i t l, ?_⟩
    rw [encT_mk]
    exact RepL.app hk (RepL.app hi (RepL.app ht hl))
theorem read_fm : ∀ (n : Nat) (cs : List Value) (x : DataW H × List MemPlace), tr henc Tryd.prog W n 29 cs = some x → ∃ t : Fm, RepL W (map0 W) (encF t) cs := by
  intro n
  induction n using Nat.strongRecOn with
  | ind n ih =>
  intro cs x h
  obtain ⟨m, rfl, hl, hf⟩ := read_struct st29 (by simp) h
  rw [ce29] at hl
  match cs, hl with
  | [a, b, c, d, e], _ =>
    obtain ⟨y0, h0⟩ := hf 0 3 0 rfl
    obtain ⟨y1, h1⟩ := hf 1 25 1 rfl
    obtain ⟨y2, h2⟩ := hf 2 26 3 rfl
    obtain ⟨y3, h3⟩ := hf 3 27 4 rfl
    rw [ce3] at h0
    rw [ce25] at h1
    rw [ce26] at h2
    rw [ce27] at h3
    obtain ⟨k, _, hk⟩ := read_int (M := map0 W) un3 h0
    obtain ⟨t, ht⟩ := read_ty _ _ _ h1
    obtain ⟨q, hq⟩ := read_slice (map0_prot W) un26 ce62 (by omega) (fun k hk cs x h => read_tm k cs x h) h2
    obtain ⟨l, hl⟩ := read_slice (map0_prot W) un27 ce29 (by omega) (fun k hk cs x h => ih k (by omega) cs x h) h3
    refine ⟨.mk k t q l, ?_⟩
    rw [encF_mk]
    exact RepL.app hk (RepL.app ht (RepL.app hq hl))
theorem read_seq {n : Nat} {cs : List Value} {x : DataW H × List MemPlace} (h : tr henc Tryd.prog W n 31 cs = some x) : ∃ (ts : List Ty) (hs : List Fm), RepL W (map0 W) (encS ts hs) cs := by
  obtain ⟨m, rfl, hl, hf⟩ := read_struct st31 (by simp) h
  rw [ce31] at hl
  match cs, hl with
  | [a, b], _ =>
    obtain ⟨y0, h0⟩ := hf 0 23 0 rfl
    obtain ⟨y1, h1⟩ := hf 1 27 1 rfl
    rw [ce23] at h0
    rw [ce27] at h1
    obtain ⟨ts, ht⟩ := read_slice (map0_prot W) un23 ce25 (by omega) (fun k hk cs x h => read_ty k cs x h) h0
    obtain ⟨hs, hh⟩ := read_slice (map0_prot W) un27 ce29 (by omega) (fun k hk cs x h => read_fm k cs x h) h1
    exact ⟨ts, hs, RepL.app ht hh⟩
theorem read_nums {n : Nat} {cs : List Value} {x : DataW H × List MemPlace} (h : tr henc Tryd.prog W n 22 cs = some x) : ∃ l : List Int, i64s l ∧ RepL W (map0 W) [.slice .no 1 (encI l)] cs := by
  obtain ⟨l, hl⟩ := read_slice (α := {k : Int // -9223372036854775808 ≤ k ∧ k ≤ 9223372036854775807}) (encA := fun k => [.int .i64 k.1]) (map0_prot W) un22 ce3 (by omega) (fun k hk cs x h => by
    obtain ⟨n, h1, h2⟩ := read_int (M := map0 W) un3 h
    exact ⟨⟨n, wf_i64 h1⟩, h2⟩) h
  refine ⟨l.map (·.1), fun k hk => ?_, ?_⟩
  · obtain ⟨y, _, rfl⟩ := List.mem_map.1 hk
    exact y.2
  · have e : encI (l.map (·.1)) = l.map fun k => [.int .i64 k.1] := by simp [encI]
    rw [e]
    exact hl
end
def laidL : List (String × DataW Unit) := [("proofprograms/tree.arities", Rows.laid_proofprograms_tree_arities)]
theorem gArities : Tryd.prog.globalNamed "proofprograms/tree.arities" = some 0 := by kernel_rfl
theorem tArities : (Tryd.prog.globals[0]?).map (·.type) = some 186 := by kernel_rfl
theorem un186 : Tryd.prog.underlying 186 = some (.array 14 3) := by kernel_rfl
theorem ce186 : Tryd.prog.cellsOf 186 = 14 := by kernel_rfl
theorem own : ownKnob Tryd.prog.godebug = none := by kernel_rfl
theorem laidOut : laidOutB Tryd.prog = true := by kernel_rfl
theorem door_met (os : Os) (args : Array Value) : laidMetH Tryd.prog laidL ((World.doorLaid Tryd.prog 400 os).forCall (fun _ _ => 0) ⟨#[], args, []⟩).memory :=
  laidMetH_of_parts3 (fuel := 8) (laidMet_of_run' 8 (by kernel_rfl) (by kernel_rfl)) (by kernel_rfl) (by kernel_rfl)
def arityInts : List Int := [0, 0, 1, 2, 0, 1, 3, 0, 2, 3, 2, 1, 1, 0]
theorem arity_eq : arity = arityInts.map fun n => Cell.int .i64 n := rfl
theorem globs_of_laid {W : World} (h : laidMetH Tryd.prog laidL W) : Globs cfg W (map0 W) := by
  rw [MakeChecks.laidMetH_plain _ _ _ (by kernel_rfl)] at h
  obtain ⟨ps, ⟨g0, t0, cs0, f0, p0, q0, hg0, ht0, hv0, hd0, _, _⟩, _, _⟩ := h
  obtain rfl := Option.some.inj (gArities.symm.trans hg0)
  obtain rfl := Option.some.inj (tArities.symm.trans ht0)
  obtain ⟨xs, m, rfl, hx, hl, hxl, hel⟩ := DataW.trod_array un186 hd0
  rw [ce186] at hl
  have hxm : xs.map (·.1) = arityInts.map fun n => (DataW.lit (.int .i64 n) : DataW Unit) := by
    simp only [Prod.mk.injEq] at hx
    have := hx.1
    unfold Rows.laid_proofprograms_tree_arities at this
    injection this with this
    rw [← this]
    rfl
  have key : ∀ (i : Nat) (n : Int), arityInts[i]? = some n → W.cell? ⟨0, i, none⟩ = some (.int .i64 n) := by
    intro i n hi
    have hi14 : i < 14 := (List.getElem?_eq_some_iff.1 hi).1
    have h1 := hel i hi14
    rw [ce3, Nat.mul_one] at h1
    have h2 : (xs.map (·.1))[i]? = some (.lit (.int .i64 n)) := by rw [hxm, List.getElem?_map, hi]; rfl
    rw [List.getElem?_map] at h2
    obtain ⟨y, hy, hy2⟩ := Option.map_eq_some_iff.1 h2
    rw [hy] at h1
    obtain ⟨k, e1, e2, _⟩ := DataW.trod_int un3 h1
    have hk : k = n := by
      rw [e2] at hy2
      simp at hy2
      exact hy2
    subst hk
    have h3 := World.var?_cell hg0 hv0 i
    rw [h3]
    have h4 : (cs0.toList.drop i).take 1 = [Value.int .i64 k] := e1
    have h5 : cs0.toList[i]? = some (Value.int .i64 k) := by
      have := congrArg (fun l => l[0]?) h4
      simpa using this
    simpa using h5
  intro g cs hg
  have : g = 0 ∧ cs = arity := by
    simp only [cfg] at hg
    split at hg
    · rename_i e; exact ⟨e, (Option.some.inj hg).symm⟩
    · cases hg
  obtain ⟨rfl, rfl⟩ := this
  have hc := RepC.cptr (w := W) (M := map0 W) arity 0 0 0 (fun i => .int .i64 (arityInts.getD i 0)) ?_ ?_ ?_
  · exact hc
  · have := map0_prot W 0 13 _ (key 13 0 rfl)
    simp only [arity_eq, List.length_map]
    show 0 + 14 ≤ _
    omega
  · intro i c hi
    rw [arity_eq, List.getElem?_map] at hi
    obtain ⟨n, hn, _⟩ := Option.map_eq_some_iff.1 hi
    rw [Nat.zero_add, key i n hn, List.getD_eq_getElem?_getD, hn]
    rfl
  · intro i c hi
    rw [arity_eq, List.getElem?_map] at hi
    obtain ⟨n, hn, rfl⟩ := Option.map_eq_some_iff.1 hi
    rw [List.getD_eq_getElem?_getD, hn]
    exact .int .i64 n
end Go.Proofs.YtbcejphjmghkbaaDoor.V
