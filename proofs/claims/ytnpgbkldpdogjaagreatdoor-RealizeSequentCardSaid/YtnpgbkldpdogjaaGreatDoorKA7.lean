/-
Parts of the proof of one law, put together by program: part 7.
-/
import Derived.Test.YtnpgbkldpdogjaaGreatDoorKA6
set_option linter.unusedSimpArgs false
set_option linter.unusedVariables false
set_option maxRecDepth 100000
namespace Go.Proofs.YtnpgbkldpdogjaaGreatDoor.V
open Go Go.Proofs
theorem c159 (G : Int → Int → Tm) {m : Int} {σ : List Frm} {f : Nat} {caps : List Cell} (hS : Answers f caps G m σ) (t : Tm) (hsz : t.size ≤ 549755813888) (hlo : t.low = true) (hle : t.least m = true) :
    CallsV cfg 159 [.agg (encT t), .one (.func f caps)] σ (.val (.agg (encT (t.reb G 0)))) σ := by
  refine w159 (by simp) ?_
  rw [s159]
  simp [onesOf]
  refine opV_callF (f := 166) (caps := [(⟨σ.length, 3, 0⟩ : Pl).cell, (⟨σ.length, 5, 0⟩ : Pl).cell]) (ps := [.agg (encT t), .one (.int .i64 0)]) (by simp [Pl.cell])
    (c166 G t (f := f) (caps := caps) ⟨by simp [cellsAt], by simp [cellsAt, Pl.cell]⟩ (hS.app [_]) hlo hle 0 (by omega) (by omega)) (by simp) ?_
  simp
def liftG (fr b : Int) (i d : Int) : Tm := .var (if fr ≤ i - d then i + b else i)
theorem c160 {σ : List Frm} {pa pb : Pl} {fr b m : Int} (ha : cellsAt σ pa = some [.int .i64 fr]) (hb : cellsAt σ pb = some [.int .i64 b]) (hb0 : -1099511627776 ≤ b) (hb1 : b ≤ 1099511627776) (hm : m ≤ 1099511627776) : Answers 160 [pa.cell, pb.cell] (liftG fr b) m σ := by
  intro τ i d hi0 hi1 hd0 hd1
  have ha' : cellsAt (σ ++ τ) pa = some [.int .i64 fr] := by rw [cellsAt_append (cellsAt_lt ha)]; exact ha
  have hb' : cellsAt (σ ++ τ) pb = some [.int .i64 b] := by rw [cellsAt_append (cellsAt_lt hb)]; exact hb
  generalize σ ++ τ = ρ at ha' hb'
  have h1 : ¬ pa.d = ρ.length := by have := cellsAt_lt ha'; omega
  have h2 : ¬ pb.d = ρ.length := by have := cellsAt_lt hb'; omega
  refine w160 (by simp) ?_
  rw [s160]
  simp [Pl.cell, readBox_at ha', h1, h2]
  rw [wrap_id (by omega) (by omega)]
  by_cases h : fr ≤ i - d
  · simp [h, readBox_at hb', h2]
    rw [wrap_id (by omega) (by omega)]
    refine opV_call (c161 (i + b) _) (by simp) ?_
    simp [liftG, h]
  · simp [h]
    refine opV_call (c161 i _) (by simp) ?_
    simp [liftG, h]
theorem var_shape {i : Int} {t : Ty} {l : List Tm} (h : (Tm.mk 1 i t l).ok = true) : Tm.mk 1 i t l = .var i := by
  simp only [Tm.ok_mk, Bool.and_eq_true] at h
  have hl : l = [] := List.length_eq_zero_iff.1 (Tm.head_var h.1)
  have h2 := h.1
  simp only [Tm.head, Bool.and_eq_true] at h2
  have h3 := h2.2
  obtain ⟨k, ts⟩ := t
  simp [tmTyped, Ty.none] at h3
  obtain ⟨rfl, rfl⟩ := h3
  rw [hl]
  try rfl
theorem reb_up (fr b : Int) (t : Tm) : t.ok = true → ∀ d, t.reb (liftG fr b) d = t.up (fr + d) b := by
  induction t using Tm.ind with
  | _ k i s l ih =>
    intro hok d
    by_cases hk : k = 1
    · subst hk
      rw [var_shape hok, Tm.var, Tm.reb_mk, Tm.up_mk, if_pos rfl]
      have e : (fr ≤ i - d) = (fr + d ≤ i) := propext (by omega)
      simp [liftG, Tm.var]
      by_cases h : fr + d ≤ i
      · rw [if_pos (by omega), if_pos h]
      · rw [if_neg (by omega), if_neg h]
    · have h2 := hok
      simp only [Tm.ok_mk, Bool.and_eq_true, Tm.oks_iff] at h2
      have hk' : ¬ (k = 1 ∧ fr + d ≤ i) := fun h => hk h.1
      rw [Tm.reb_mk, Tm.up_mk, if_neg hk, if_neg hk']
      have e : (l.map fun x => x.reb (liftG fr b) (if k = 2 then d + 1 else d)) = l.map fun x => x.up (if k = 2 then fr + d + 1 else fr + d) b := List.map_congr_left fun x hx => by
        rw [ih x hx (h2.2 x hx)]
        congr 1
        split <;> omega
      rw [e]
theorem c140 (t : Tm) (hsz : t.size ≤ 549755813888) (hok : t.ok = true) (hle : t.least 536870912 = true) (fr b : Int) (hb0 : -1099511627776 ≤ b) (hb1 : b ≤ 1099511627776) (σ : List Frm) : CallsV cfg 140 [.agg (encT t), .one (.int .i64 fr), .one (.int .i64 b)] σ (.val (.agg (encT (t.up fr b)))) σ := by
  refine w140 (by simp) ?_
  rw [s140]
  simp [onesOf]
  refine opV_call (c159 (liftG fr b) (f := 160) (caps := [(⟨σ.length, 4, 0⟩ : Pl).cell, (⟨σ.length, 5, 0⟩ : Pl).cell]) (c160 (fr := fr) (b := b) (by simp [cellsAt]) (by simp [cellsAt]) hb0 hb1 (by omega)) t hsz (Tm.low_ok t hok) hle) (by simp [Pl.cell]) ?_
  rw [reb_up fr b t hok, Int.add_zero]
  simp
end Go.Proofs.YtnpgbkldpdogjaaGreatDoor.V

namespace Go.Proofs.YtnpgbkldpdogjaaGreatDoor.V
open Go
theorem Tm.sub_count : Tm.sub.count = 16 := by decide +kernel
theorem Tm.plus_count : Tm.plus.count = 9 := by decide +kernel
theorem Tm.num_count (n : Nat) : (Tm.num n).count = n + 1 := by
  induction n with
  | zero => simp [Tm.num, Tm.node]
  | succ n ih => simp [Tm.num, Tm.node, ih]; omega
theorem Tm.num_times (n : Nat) (c : Int) : (Tm.num n).times c = 0 := by
  induction n generalizing c with
  | zero => simp [Tm.num, Tm.node, Tm.times_mk, Tm.timess]
  | succ n ih => simp [Tm.num, Tm.node, Tm.times_mk, Tm.timess, ih]
theorem Tm.plus_times {c : Int} (h : 0 ≤ c) : Tm.plus.times c = 0 := by
  simp [Tm.plus, Tm.lamN, Tm.recN, Tm.tnode, Tm.node, Tm.var, Tm.times_mk, Tm.timess]
  omega
theorem Tm.sub_times {c : Int} (h : 0 ≤ c) : Tm.sub.times c = 0 := by
  simp [Tm.sub, Tm.pred, Tm.app, Tm.lamN, Tm.recN, Tm.tnode, Tm.node, Tm.var, Tm.times_mk, Tm.timess]
  omega
def Cnt (B : Nat) (V : Int) (t : Tm) : Prop := t.count ≤ B ∧ ∀ c, 0 ≤ c → t.times c ≤ V
theorem Cnt.mono {B B' : Nat} {V V' : Int} {t : Tm} (h : Cnt B V t) (hB : B ≤ B') (hV : V ≤ V') : Cnt B' V' t := ⟨Nat.le_trans h.1 hB, fun c hc => Int.le_trans (h.2 c hc) hV⟩
theorem cnt_var (i : Int) : Cnt 1 1 (.var i) := ⟨by simp [Tm.var], fun c _ => by simp [Tm.var, Tm.times_mk, Tm.timess]; split <;> omega⟩
theorem cnt_num (n : Nat) : Cnt (n + 1) 0 (.num n) := ⟨by rw [Tm.num_count]; omega, fun c _ => by rw [Tm.num_times]; omega⟩
theorem cnt_node0 {k : Int} (h : k ≠ 1) : Cnt 1 0 (.node k []) := ⟨by simp [Tm.node], fun c _ => by simp [Tm.node, Tm.times_mk, Tm.timess, h]⟩
theorem cnt_node1 {k : Int} (h : k ≠ 1) (h2 : k ≠ 2) {B : Nat} {V : Int} {x : Tm} (hx : Cnt B V x) : Cnt (1 + B) V (.node k [x]) :=
  ⟨by have := hx.1; simp [Tm.node]; omega, fun c hc => by have := hx.2 c hc; simp [Tm.node, Tm.times_mk, Tm.timess, h, h2]; omega⟩
theorem cnt_node2 {k : Int} (h : k ≠ 1) (h2 : k ≠ 2) {B B' : Nat} {V V' : Int} {x y : Tm} (hx : Cnt B V x) (hy : Cnt B' V' y) : Cnt (1 + B + B') (V + V') (.node k [x, y]) :=
  ⟨by have := hx.1; have := hy.1; simp [Tm.node]; omega, fun c hc => by have := hx.2 c hc; have := hy.2 c hc; simp [Tm.node, Tm.times_mk, Tm.timess, h, h2]; omega⟩
theorem cnt_tnode3 {k : Int} (h : k ≠ 1) (h2 : k ≠ 2) {s : Ty} {B B' B'' : Nat} {V V' V'' : Int} {x y z : Tm} (hx : Cnt B V x) (hy : Cnt B' V' y) (hz : Cnt B'' V'' z) : Cnt (1 + B + B' + B'') (V + V' + V'') (.tnode k s [x, y, z]) :=
  ⟨by have := hx.1; have := hy.1; have := hz.1; simp [Tm.tnode]; omega, fun c hc => by have := hx.2 c hc; have := hy.2 c hc; have := hz.2 c hc; simp [Tm.tnode, Tm.times_mk, Tm.timess, h, h2]; omega⟩
theorem cnt_lam {s : Ty} {B : Nat} {V : Int} {x : Tm} (hx : Cnt B V x) : Cnt (1 + B) V (.tnode 2 s [x]) :=
  ⟨by have := hx.1; simp [Tm.tnode]; omega, fun c hc => by have := hx.2 (c + 1) (by omega); simp [Tm.tnode, Tm.times_mk, Tm.timess]; omega⟩
theorem cnt_plus : Cnt 9 0 .plus := ⟨by rw [Tm.plus_count]; omega, fun c hc => by rw [Tm.plus_times hc]; omega⟩
theorem cnt_sub : Cnt 16 0 .sub := ⟨by rw [Tm.sub_count]; omega, fun c hc => by rw [Tm.sub_times hc]; omega⟩
theorem mkTerm0_cnt (t : Ty) : ∀ (g : List Ty) (r : List Int), (t.size ≤ 1 → Cnt 3 1 (mkTerm0 g t r).1) ∧ (t.size ≤ 3 → Cnt 7 2 (mkTerm0 g t r).1) := by
  induction t using Ty.ind with
  | _ k l ih =>
  intro g r
  unfold mkTerm0
  rcases hv : pickVar (vars g (.mk k l)) r with ⟨_ | i, r'⟩ <;> simp only
  rotate_left
  · exact ⟨fun _ => (cnt_var i).mono (by omega) (by omega), fun _ => (cnt_var i).mono (by omega) (by omega)⟩
  · split
    · have hn := next_range (n := 3) (by omega) r'
      have h := cnt_num (next 3 r').1.toNat
      exact ⟨fun _ => h.mono (by omega) (by omega), fun _ => h.mono (by omega) (by omega)⟩
    · split
      · exact ⟨fun _ => (cnt_node0 (by omega)).mono (by omega) (by omega), fun _ => (cnt_node0 (by omega)).mono (by omega) (by omega)⟩
      · split
        · rename_i a b
          have ha := a.size_pos
          have hb := b.size_pos
          split
          · refine ⟨fun h => by simp at h; omega, fun h => ?_⟩
            simp at h
            exact (cnt_node2 (by omega) (by omega) ((ih a (by simp) _ _).1 (by omega)) ((ih b (by simp) _ _).1 (by omega))).mono (by omega) (by omega)
          · split
            · refine ⟨fun h => by simp at h; omega, fun h => ?_⟩
              simp at h
              exact (cnt_lam ((ih b (by simp) _ _).1 (by omega))).mono (by omega) (by omega)
            · exact ⟨fun _ => (cnt_node0 (by omega)).mono (by omega) (by omega), fun _ => (cnt_node0 (by omega)).mono (by omega) (by omega)⟩
        · exact ⟨fun _ => (cnt_node0 (by omega)).mono (by omega) (by omega), fun _ => (cnt_node0 (by omega)).mono (by omega) (by omega)⟩
theorem cnt_plain {b bt S : Nat} {v vt W : Int} {F : List Ty → Ty → List Int → Tm × List Int} (t : Ty) (ht : t.ok = true ∧ t.size ≤ 3) (hv0 : 0 ≤ v) (hvt : 0 ≤ vt) (hb0 : 3 ≤ b)
    (h1 : ∀ g s r, Good 3 g → s.ok = true ∧ s.size ≤ 1 → Cnt b v (F g s r).1) (h2 : ∀ g r, Good 3 g → Cnt bt vt (F g t r).1)
    (hS : 18 + 2 * b ≤ S ∧ 4 + 2 * bt + b ≤ S) (hW : 2 * vt + v ≤ W ∧ 2 * v ≤ W) (g : List Ty) (r : List Int) (hg : Good 3 g) : Cnt S W (mkPlain F g t r).1 := by
  obtain ⟨k, l⟩ := t
  have hnat : Ty.nat.ok = true ∧ Ty.nat.size ≤ 1 := ⟨Ty.nat_ok, by simp⟩
  unfold mkPlain
  simp only
  split
  · rename_i hk
    have hsz : (Ty.mk k l).size ≤ 1 := by
      have h := ht.1
      subst hk
      simp [Ty.ok_mk, tyArity] at h
      have hl : l = [] := List.length_eq_zero_iff.1 h.1.symm
      simp [hl]
    have go : ∀ r, Cnt b v (F g (.mk k l) r).1 := fun r => h1 _ _ _ hg ⟨ht.1, hsz⟩
    split
    · exact (cnt_node1 (by omega) (by omega) (go _)).mono (by omega) (by omega)
    · split
      · exact (cnt_node2 (by omega) (by omega) (cnt_node2 (by omega) (by omega) cnt_plus (go _)) (go _)).mono (by omega) (by omega)
      · split
        · exact (cnt_node2 (by omega) (by omega) (cnt_node2 (by omega) (by omega) cnt_sub (go _)) (go _)).mono (by omega) (by omega)
        · have hn := next_range (n := 3) (by omega) (next 5 r).2
          exact (cnt_num _).mono (by omega) (by omega)
  · split
    · split
      · exact (cnt_node2 (by omega) (by omega) (h1 _ _ _ hg hnat) (h2 _ _ hg)).mono (by omega) (by omega)
      · exact (cnt_node0 (by omega)).mono (by omega) (by omega)
    · split
      · rename_i a c
        have hab := Ty.parts2 ht
        have hsz := ht.2
        have ha := a.size_pos
        have hc := c.size_pos
        simp at hsz
        split
        · exact (cnt_node2 (by omega) (by omega) (h1 _ _ _ hg ⟨hab.1.1, by omega⟩) (h1 _ _ _ hg ⟨hab.2.1, by omega⟩)).mono (by omega) (by omega)
        · split
          · exact (cnt_lam (h1 _ _ _ (hg.app (Good.one hab.1)) ⟨hab.2.1, by omega⟩)).mono (by omega) (by omega)
          · exact (cnt_node0 (by omega)).mono (by omega) (by omega)
      · exact (cnt_node0 (by omega)).mono (by omega) (by omega)
theorem mkTerm_step {d b bt S : Nat} {v vt W : Int} (t : Ty) (ht : t.ok = true ∧ t.size ≤ 3) (hv0 : 0 ≤ v) (hvt : 0 ≤ vt) (hb0 : 3 ≤ b)
    (h1 : ∀ g s r, Good 3 g → s.ok = true ∧ s.size ≤ 1 → Cnt b v (mkTerm d g s r).1) (h2 : ∀ g r, Good 3 g → Cnt bt vt (mkTerm d g t r).1)
    (hS : 18 + 2 * b ≤ S ∧ 4 + 2 * bt + b ≤ S ∧ 6 + 2 * bt ≤ S) (hW : 2 * vt + v ≤ W ∧ 1 + v ≤ W ∧ 2 * v ≤ W) (g : List Ty) (r : List Int) (hg : Good 3 g) : Cnt S W (mkTerm (d + 1) g t r).1 := by
  have hnat : Ty.nat.ok = true ∧ Ty.nat.size ≤ 1 := ⟨Ty.nat_ok, by simp⟩
  have hlist : Ty.list.ok = true ∧ Ty.list.size ≤ 1 := ⟨Ty.list_ok, by simp⟩
  have up3 : ∀ {s : Ty}, s.ok = true ∧ s.size ≤ 1 → s.ok = true ∧ s.size ≤ 3 := fun h => ⟨h.1, by have := h.2; omega⟩
  have plain : ∀ r, Cnt S W (mkPlain (mkTerm d) g t r).1 := fun r => cnt_plain t ht hv0 hvt hb0 h1 h2 ⟨hS.1, hS.2.1⟩ ⟨hW.1, hW.2.2⟩ g r hg
  unfold mkTerm
  split
  · rename_i i r' hv
    exact (cnt_var i).mono (by omega) (by omega)
  · rename_i r' hv
    simp only
    split
    · exact (cnt_node2 (by omega) (by omega) (cnt_lam (h2 _ _ (hg.app (Good.one (up3 (mkType0 _)))))) (h1 _ _ _ hg (mkType0 _))).mono (by omega) (by omega)
    · split
      · exact (cnt_node1 (by omega) (by omega) (cnt_node2 (by omega) (by omega) (h2 _ _ hg) (h1 _ _ _ hg (mkType0 _)))).mono (by omega) (by omega)
      · split
        · refine Cnt.mono (cnt_tnode3 (by omega) (by omega) (h2 _ _ hg) (cnt_lam (cnt_lam (h2 _ _ (hg.app (Good.cons (up3 hnat) (Good.one ht)))))) (cnt_num _)) ?_ (by omega)
          have hn := next_range (n := 3) (by omega) (mkTerm d g t (mkTerm d (g ++ [.nat, t]) t (next 8 r').2).2).2
          omega
        · split
          · exact (cnt_tnode3 (by omega) (by omega) (h2 _ _ hg) (cnt_lam (cnt_lam (cnt_lam (h2 _ _ (hg.app (Good.cons (up3 hnat) (Good.cons (up3 hlist) (Good.one ht)))))))) (h1 _ _ _ hg hlist)).mono (by omega) (by omega)
          · split
            · exact (cnt_node1 (by omega) (by omega) (cnt_node2 (by omega) (by omega) (h1 _ _ _ hg (mkType0 _)) (h2 _ _ hg))).mono (by omega) (by omega)
            · split
              · split
                · rename_i i a hf
                  obtain ⟨j, e1, e2, e3⟩ := funFrom_mem t _ _ _ _ hf
                  have hga := hg (.fn a t) (by have := List.mem_of_getElem? e3; simpa using this)
                  have ha := (Ty.parts2 hga).1
                  have hsz := hga.2
                  have htp := t.size_pos
                  simp [Ty.fn] at hsz
                  exact (cnt_node2 (by omega) (by omega) (cnt_var i) (h1 _ _ _ hg ⟨ha.1, by omega⟩)).mono (by omega) (by omega)
                · exact plain _
              · exact plain _
theorem mkTerm1_nat (g : List Ty) (r : List Int) (hg : Good 3 g) : Cnt 24 3 (mkTerm 1 g .nat r).1 :=
  mkTerm_step (d := 0) (b := 3) (bt := 3) (v := 1) (vt := 1) .nat ⟨Ty.nat_ok, by simp⟩ (by omega) (by omega) (by omega) (fun g s r _ hs => (mkTerm0_cnt s g r).1 hs.2) (fun g r _ => (mkTerm0_cnt .nat g r).1 (by simp)) (by omega) (by omega) g r hg
end Go.Proofs.YtnpgbkldpdogjaaGreatDoor.V

namespace Go.Proofs.YtnpgbkldpdogjaaGreatDoor.V
open Go
theorem fmQ_iff {k : Int} : fmQ k = true ↔ k = 4 ∨ k = 5 ∨ k = 6 ∨ k = 7 := by simp [fmQ]; omega
end Go.Proofs.YtnpgbkldpdogjaaGreatDoor.V

namespace Go.Proofs.YtnpgbkldpdogjaaGreatDoor.V
open Go
def CntF (B : Nat) (V : Int) (f : Fm) : Prop := f.count ≤ B ∧ ∀ c, 0 ≤ c → f.times c ≤ V
theorem CntF.mono {B B' : Nat} {V V' : Int} {t : Fm} (h : CntF B V t) (hB : B ≤ B') (hV : V ≤ V') : CntF B' V' t := ⟨Nat.le_trans h.1 hB, fun c hc => Int.le_trans (h.2 c hc) hV⟩
theorem cnt_eqF {B B' : Nat} {V V' : Int} {s t : Tm} (hs : Cnt B V s) (ht : Cnt B' V' t) : CntF (1 + B + B') (V + V') (.eq s t) :=
  ⟨by have := hs.1; have := ht.1; simp [Fm.eq]; omega, fun c hc => by have := hs.2 c hc; have := ht.2 c hc; simp [Fm.eq, Fm.times_mk, Tm.timess, Fm.timess]; omega⟩
theorem cnt_twoF {k : Int} (hk : k = 2 ∨ k = 3) {B B' : Nat} {V V' : Int} {f g : Fm} (hf : CntF B V f) (hg : CntF B' V' g) : CntF (1 + B + B') (V + V') (.two k f g) := by
  have hq : fmQ k = false := by rcases hk with rfl | rfl <;> rfl
  exact ⟨by have := hf.1; have := hg.1; simp [Fm.two]; omega, fun c hc => by have := hf.2 c hc; have := hg.2 c hc; simp [Fm.two, Fm.times_mk, Tm.timess, Fm.timess, hq]; omega⟩
theorem cnt_qF {k : Int} (hk : k = 4 ∨ k = 5 ∨ k = 6 ∨ k = 7) {s : Ty} {B : Nat} {V : Int} {f : Fm} (hf : CntF B V f) : CntF (1 + B) V (.q k s f) := by
  have hq : fmQ k = true := fmQ_iff.2 hk
  exact ⟨by have := hf.1; simp [Fm.q]; omega, fun c hc => by have := hf.2 (c + 1) (by omega); simp [Fm.q, Fm.times_mk, Tm.timess, Fm.timess, hq]; omega⟩
def fcB : Nat → Nat
  | 0 => 49
  | d + 1 => 2 * fcB d + 1
def fvB : Nat → Int
  | 0 => 6
  | d + 1 => 2 * fvB d
theorem fcB_ge (d : Nat) : 49 ≤ fcB d := by induction d with
  | zero => simp [fcB]
  | succ d ih => simp only [fcB]; omega
theorem fvB_ge (d : Nat) : 6 ≤ fvB d := by induction d with
  | zero => simp [fvB]
  | succ d ih => simp only [fvB]; omega
theorem eqn_cnt (g : List Ty) (r : List Int) (hg : Good 3 g) (d : Nat) : CntF (fcB d) (fvB d) (.eq (mkTerm 1 g .nat r).1 (mkTerm 1 g .nat (mkTerm 1 g .nat r).2).1) :=
  (cnt_eqF (mkTerm1_nat g r hg) (mkTerm1_nat g _ hg)).mono (by have := fcB_ge d; omega) (by have := fvB_ge d; omega)
theorem mkFormula_cnt (d : Nat) : ∀ (g : List Ty) (r : List Int), Good 3 g → CntF (fcB d) (fvB d) (mkFormula d g r).1 := by
  induction d with
  | zero => exact fun g r hg => eqn_cnt g r hg 0
  | succ d ih =>
    intro g r hg
    have h49 := fcB_ge d
    have h6 := fvB_ge d
    have two : ∀ k, k = 2 ∨ k = 3 → CntF (fcB (d + 1)) (fvB (d + 1)) (.two k (mkFormula d g (next 9 r).2).1 (mkFormula d g (mkFormula d g (next 9 r).2).2).1) := fun k hk => (cnt_twoF hk (ih _ _ hg) (ih _ _ hg)).mono (by simp only [fcB]; omega) (by simp only [fvB]; omega)
    have q : ∀ k s r', k = 4 ∨ k = 5 ∨ k = 6 ∨ k = 7 → s.ok = true ∧ s.size ≤ 3 → CntF (fcB (d + 1)) (fvB (d + 1)) (.q k s (mkFormula d (g ++ [s]) r').1) := fun k s r' hk hs => (cnt_qF hk (ih _ _ (hg.app (Good.one hs)))).mono (by simp only [fcB]; omega) (by simp only [fvB]; omega)
    unfold mkFormula
    simp only
    split
    · exact two 2 (.inl rfl)
    · split
      · exact two 3 (.inr rfl)
      · split
        · exact q 4 _ _ (by simp) (mkType1 _)
        · split
          · exact q 5 _ _ (by simp) (mkType1 _)
          · split
            · refine q _ _ _ ?_ ⟨(mkType0 _).1, by have := (mkType0 (next 9 r).2).2; omega⟩
              have := next_range (n := 2) (by omega) (mkType 0 (next 9 r).2).2
              omega
            · exact eqn_cnt g _ hg (d + 1)
end Go.Proofs.YtnpgbkldpdogjaaGreatDoor.V

namespace Go.Proofs.YtnpgbkldpdogjaaGreatDoor.V
open Go
theorem Tm.least_mono {m M : Int} (h : m ≤ M) (t : Tm) : t.least m = true → t.least M = true := by
  induction t using Tm.ind with
  | _ k i s l ih =>
    rw [Tm.least, Tm.least]
    simp only [Bool.and_eq_true, decide_eq_true_eq, Tm.leasts_iff]
    exact fun ⟨h1, h2⟩ => ⟨by omega, fun x hx => ih x hx (h2 x hx)⟩
theorem Tm.put_least {m M : Int} {s : Tm} (hs : s.least m = true) (t : Tm) : ∀ a d : Int, 0 ≤ a → 0 ≤ d → m + a + d + t.size ≤ M → t.least m = true → (t.put a d s).least M = true := by
  induction t using Tm.ind with
  | _ k i y l ih =>
    intro a d ha hd hM h
    have h' := h
    rw [Tm.least] at h
    simp only [Bool.and_eq_true, decide_eq_true_eq, Tm.leasts_iff] at h
    simp at hM
    rw [Tm.put_mk]
    split
    · split
      · exact Tm.least_mono (by omega) _ (Tm.up_least (by omega) s 0 hs)
      · split
        · exact Tm.var_least (by omega)
        · exact Tm.least_mono (by omega) _ h'
    · rw [Tm.least]
      simp only [Bool.and_eq_true, decide_eq_true_eq, Tm.leasts_iff]
      refine ⟨by omega, fun x hx => ?_⟩
      obtain ⟨z, hz, rfl⟩ := List.mem_map.1 hx
      have hsz := Tm.sizes_mem hz
      have hp := y.size_pos
      exact ih z hz _ _ ha (by split <;> omega) (by split <;> omega) (h.2 z hz)
theorem Fm.up_least {m b : Int} (hb : 0 ≤ b) (f : Fm) : ∀ a, f.least m = true → (f.up a b).least (m + b) = true := by
  induction f using Fm.ind with
  | _ k t n l ih =>
    intro a h
    rw [Fm.up_mk, Fm.least]
    rw [Fm.least] at h
    simp only [Bool.and_eq_true, Tm.leasts_iff, Fm.leasts_iff] at h ⊢
    refine ⟨fun x hx => ?_, fun x hx => ?_⟩
    · obtain ⟨y, hy, rfl⟩ := List.mem_map.1 hx
      exact Tm.up_least hb y _ (h.1 y hy)
    · obtain ⟨y, hy, rfl⟩ := List.mem_map.1 hx
      exact ih y hy _ (h.2 y hy)
theorem Fm.put_least {m M : Int} {s : Tm} (hs : s.least m = true) (f : Fm) : ∀ a d : Int, 0 ≤ a → 0 ≤ d → m + a + d + f.size ≤ M → f.least m = true → (f.put a d s).least M = true := by
  induction f using Fm.ind with
  | _ k t n l ih =>
    intro a d ha hd hM h
    simp at hM
    rw [Fm.put_mk, Fm.least]
    rw [Fm.least] at h
    simp only [Bool.and_eq_true, Tm.leasts_iff, Fm.leasts_iff] at h ⊢
    refine ⟨fun x hx => ?_, fun x hx => ?_⟩
    · obtain ⟨y, hy, rfl⟩ := List.mem_map.1 hx
      have := Tm.sizes_mem hy
      exact Tm.put_least hs y _ _ ha hd (by omega) (h.1 y hy)
    · obtain ⟨y, hy, rfl⟩ := List.mem_map.1 hx
      have := Fm.sizes_mem hy
      have hp := t.size_pos
      exact ih y hy _ _ ha (by split <;> omega) (by split <;> omega) (h.2 y hy)
theorem Fm.least_mono {m M : Int} (h : m ≤ M) (t : Fm) : t.least m = true → t.least M = true := by
  induction t using Fm.ind with
  | _ k s n l ih =>
    rw [Fm.least, Fm.least]
    simp only [Bool.and_eq_true, Tm.leasts_iff, Fm.leasts_iff]
    exact fun ⟨h1, h2⟩ => ⟨fun x hx => Tm.least_mono h x (h1 x hx), fun x hx => ih x hx (h2 x hx)⟩
structure Stays (f : Fm) : Prop where
  ok : f.ok = true
  cnt : CntF 399 48 f
  size : f.size ≤ 3000
  least : f.least 536870912 = true
theorem Stays.check {f : Fm} (h : Stays f) : f.check = 0 := Fm.check_small h.ok (Nat.le_trans h.cnt.1 (by omega))
end Go.Proofs.YtnpgbkldpdogjaaGreatDoor.V

namespace Go.Proofs.YtnpgbkldpdogjaaGreatDoor.V
open Go
def okT (t : Ty) : Ty × Int := if t.check = 0 then (t, 0) else (.zero, 4)
def inferStep (k : Int) (t : Ty) (ts : List Ty) : Ty × Int :=
  if k = 3 then (if (ts.headD .zero).kind ≠ 4 ∨ Ty.same ((ts.headD .zero).args.headD .zero) (ts.getD 1 .zero) = false then (.zero, 7) else ((ts.headD .zero).args.getD 1 .zero, 0))
  else if k = 4 then (.nat, 0)
  else if k = 5 then (if Ty.same (ts.headD .zero) .nat = false then (.zero, 7) else (.nat, 0))
  else if k = 6 then (if Ty.same (ts.headD .zero) t = false ∨ Ty.same (ts.getD 1 .zero) (.fn .nat (.fn t t)) = false ∨ Ty.same (ts.getD 2 .zero) .nat = false then (.zero, 7) else (t, 0))
  else if k = 7 then (.list, 0)
  else if k = 8 then (if Ty.same (ts.headD .zero) .nat = false ∨ Ty.same (ts.getD 1 .zero) .list = false then (.zero, 7) else (.list, 0))
  else if k = 9 then (if Ty.same (ts.headD .zero) t = false ∨ Ty.same (ts.getD 1 .zero) (.fn .nat (.fn .list (.fn t t))) = false ∨ Ty.same (ts.getD 2 .zero) .list = false then (.zero, 7) else (t, 0))
  else if k = 10 then okT (.pair (ts.headD .zero) (ts.getD 1 .zero))
  else if k = 11 ∨ k = 12 then (if (ts.headD .zero).kind ≠ 3 then (.zero, 7) else if k = 11 then ((ts.headD .zero).args.headD .zero, 0) else ((ts.headD .zero).args.getD 1 .zero, 0))
  else (.unit, 0)
mutual
def Tm.infer : Tm → List Ty → Ty × Int
  | .mk k i t l, g =>
    if k = 1 then if (g.length : Int) ≤ i then (.zero, 6) else (g.getD (g.length - 1 - i.toNat) .zero, 0)
    else if k = 2 then
      if (Tm.inferh l (g ++ [t])).2 ≠ 0 then (.zero, (Tm.inferh l (g ++ [t])).2) else okT (.fn t (Tm.inferh l (g ++ [t])).1)
    else if (Tm.infers l g).2 ≠ 0 then (.zero, (Tm.infers l g).2) else inferStep k t (Tm.infers l g).1
def Tm.inferh : List Tm → List Ty → Ty × Int
  | [], _ => (.zero, 0)
  | x :: _, g => x.infer g
def Tm.infers : List Tm → List Ty → List Ty × Int
  | [], _ => ([], 0)
  | x :: l, g => if (x.infer g).2 ≠ 0 then ([], (x.infer g).2) else if (Tm.infers l g).2 ≠ 0 then ([], (Tm.infers l g).2) else ((x.infer g).1 :: (Tm.infers l g).1, 0)
end
end Go.Proofs.YtnpgbkldpdogjaaGreatDoor.V

set_option maxRecDepth 100000
namespace Go.Proofs.YtnpgbkldpdogjaaGreatDoor.V
open Go Go.Proofs
theorem c164 (t : Ty) (hsz : t.size ≤ 1099511627776) (σ : List Frm) : CallsV cfg 164 [.agg (enc t)] σ (.val (enc2 (okT t))) σ := by
  refine w164 (by simp [enc2]) ?_
  rw [s164]
  simp
  refine opV_call (c102 t hsz _) (by simp) ?_
  unfold okT
  by_cases hc : t.check = 0
  · simp [hc, enc2]
  · have hc' : (t.check == 0) = false := by simpa using hc
    simp [hc, hc', bne, enc2, Ty.zero]
end Go.Proofs.YtnpgbkldpdogjaaGreatDoor.V

namespace Go.Proofs.YtnpgbkldpdogjaaGreatDoor.V
open Go
inductive T where
  | var (i : Nat)
  | lam (s : Ty) (b : T)
  | app (f a : T)
  | zero
  | succ (n : T)
  | recN (s : Ty) (b f n : T)
  | nil
  | cons (h l : T)
  | fold (s : Ty) (b f l : T)
  | pair (a b : T)
  | fst (p : T)
  | snd (p : T)
  | unit
namespace T
def tm : T → Tm
  | var i => .var i
  | lam s b => .tnode 2 s [b.tm]
  | app f a => .node 3 [f.tm, a.tm]
  | zero => .node 4 []
  | succ n => .node 5 [n.tm]
  | recN s b f n => .tnode 6 s [b.tm, f.tm, n.tm]
  | nil => .node 7 []
  | cons h l => .node 8 [h.tm, l.tm]
  | fold s b f l => .tnode 9 s [b.tm, f.tm, l.tm]
  | pair a b => .node 10 [a.tm, b.tm]
  | fst p => .node 11 [p.tm]
  | snd p => .node 12 [p.tm]
  | unit => .node 13 []
def wf : T → Bool
  | var _ => true
  | lam s b => s.check == 0 && b.wf
  | app f a => f.wf && a.wf
  | zero => true
  | succ n => n.wf
  | recN s b f n => s.check == 0 && b.wf && f.wf && n.wf
  | nil => true
  | cons h l => h.wf && l.wf
  | fold s b f l => s.check == 0 && b.wf && f.wf && l.wf
  | pair a b => a.wf && b.wf
  | fst p => p.wf
  | snd p => p.wf
  | unit => true
def upr (ρ : Nat → Nat) : Nat → Nat
  | 0 => 0
  | i + 1 => ρ i + 1
def ren (ρ : Nat → Nat) : T → T
  | var i => var (ρ i)
  | lam s b => lam s (b.ren (upr ρ))
  | app f a => app (f.ren ρ) (a.ren ρ)
  | zero => zero
  | succ n => succ (n.ren ρ)
  | recN s b f n => recN s (b.ren ρ) (f.ren ρ) (n.ren ρ)
  | nil => nil
  | cons h l => cons (h.ren ρ) (l.ren ρ)
  | fold s b f l => fold s (b.ren ρ) (f.ren ρ) (l.ren ρ)
  | pair a b => pair (a.ren ρ) (b.ren ρ)
  | fst p => fst (p.ren ρ)
  | snd p => snd (p.ren ρ)
  | unit => unit
def ups (σ : Nat → T) : Nat → T
  | 0 => var 0
  | i + 1 => (σ i).ren Nat.succ
def sub (σ : Nat → T) : T → T
  | var i => σ i
  | lam s b => lam s (b.sub (ups σ))
  | app f a => app (f.sub σ) (a.sub σ)
  | zero => zero
  | succ n => succ (n.sub σ)
  | recN s b f n => recN s (b.sub σ) (f.sub σ) (n.sub σ)
  | nil => nil
  | cons h l => cons (h.sub σ) (l.sub σ)
  | fold s b f l => fold s (b.sub σ) (f.sub σ) (l.sub σ)
  | pair a b => pair (a.sub σ) (b.sub σ)
  | fst p => fst (p.sub σ)
  | snd p => snd (p.sub σ)
  | unit => unit
def scons (a : T) (σ : Nat → T) : Nat → T
  | 0 => a
  | i + 1 => σ i
def inst (b a : T) : T := b.sub (scons a var)
theorem upr_comp (ρ ξ : Nat → Nat) : (fun i => upr ξ (upr ρ i)) = upr fun i => ξ (ρ i) := by
  funext i; cases i <;> rfl
theorem upr_id : upr (fun i => i) = fun i => i := by
  funext i; cases i <;> rfl
theorem ren_id (t : T) : t.ren (fun i => i) = t := by
  induction t <;> simp_all [ren, upr_id]
theorem ren_ren (t : T) : ∀ ρ ξ : Nat → Nat, (t.ren ρ).ren ξ = t.ren fun i => ξ (ρ i) := by
  induction t <;> intro ρ ξ <;> simp_all [ren]
  rw [upr_comp]
theorem ups_ren (ρ : Nat → Nat) (σ : Nat → T) : (fun i => ups σ (upr ρ i)) = ups fun i => σ (ρ i) := by
  funext i; cases i <;> rfl
theorem ren_sub (t : T) : ∀ (ρ : Nat → Nat) (σ : Nat → T), (t.ren ρ).sub σ = t.sub fun i => σ (ρ i) := by
  induction t <;> intro ρ σ <;> simp_all [ren, sub]
  rw [ups_ren]
theorem ren_ups (ρ : Nat → Nat) (σ : Nat → T) : (fun i => (ups σ i).ren (upr ρ)) = ups fun i => (σ i).ren ρ := by
  funext i
  cases i with
  | zero => rfl
  | succ i => simp only [ups, ren_ren]; rfl
theorem sub_ren (t : T) : ∀ (σ : Nat → T) (ρ : Nat → Nat), (t.sub σ).ren ρ = t.sub fun i => (σ i).ren ρ := by
  induction t <;> intro σ ρ <;> simp_all [ren, sub]
  rw [ren_ups]
theorem sub_ups (σ τ : Nat → T) : (fun i => (ups σ i).sub (ups τ)) = ups fun i => (σ i).sub τ := by
  funext i
  cases i with
  | zero => rfl
  | succ i => simp only [ups, ren_sub, sub_ren]
theorem sub_sub (t : T) : ∀ σ τ : Nat → T, (t.sub σ).sub τ = t.sub fun i => (σ i).sub τ := by
  induction t <;> intro σ τ <;> simp_all [sub]
  rw [sub_ups]
theorem ups_var : ups var = var := by
  funext i; cases i <;> rfl
theorem sub_var (t : T) : t.sub var = t := by
  induction t <;> simp_all [sub, ups_var]
theorem ren_eq_sub (t : T) : ∀ ρ : Nat → Nat, t.ren ρ = t.sub fun i => var (ρ i) := by
  intro ρ
  have := ren_sub t ρ var
  rw [sub_var] at this
  exact this
theorem inst_sub (b a : T) (σ : Nat → T) : (b.inst a).sub σ = (b.sub (ups σ)).inst (a.sub σ) := by
  unfold inst
  rw [sub_sub, sub_sub]
  congr 1
  funext i
  cases i with
  | zero => rfl
  | succ i => simp only [scons, ups, ren_sub]; exact (sub_var _).symm
theorem inst_ren (b a : T) (ρ : Nat → Nat) : (b.inst a).ren ρ = (b.ren (upr ρ)).inst (a.ren ρ) := by
  unfold inst
  rw [sub_ren, ren_sub]
  congr 1
  funext i
  cases i <;> rfl
end T
end Go.Proofs.YtnpgbkldpdogjaaGreatDoor.V

namespace Go.Proofs.YtnpgbkldpdogjaaGreatDoor.V
open Go
namespace T
inductive Par : T → T → Prop
  | var (i) : Par (var i) (var i)
  | lam (s) {b b'} : Par b b' → Par (lam s b) (lam s b')
  | app {f f' a a'} : Par f f' → Par a a' → Par (app f a) (app f' a')
  | zero : Par zero zero
  | succ {n n'} : Par n n' → Par (succ n) (succ n')
  | recN (s) {b b' f f' n n'} : Par b b' → Par f f' → Par n n' → Par (recN s b f n) (recN s b' f' n')
  | nil : Par nil nil
  | cons {h h' l l'} : Par h h' → Par l l' → Par (cons h l) (cons h' l')
  | fold (s) {b b' f f' l l'} : Par b b' → Par f f' → Par l l' → Par (fold s b f l) (fold s b' f' l')
  | pair {a a' b b'} : Par a a' → Par b b' → Par (pair a b) (pair a' b')
  | fst {p p'} : Par p p' → Par (fst p) (fst p')
  | snd {p p'} : Par p p' → Par (snd p) (snd p')
  | unit : Par unit unit
  | beta (s) {b b' a a'} : Par b b' → Par a a' → Par (app (lam s b) a) (b'.inst a')
  | rec0 (s f) {b b'} : Par b b' → Par (recN s b f zero) b'
  | recS (s) {b b' f f' n n'} : Par b b' → Par f f' → Par n n' → Par (recN s b f (succ n)) (app (app f' n') (recN s b' f' n'))
  | fold0 (s f) {b b'} : Par b b' → Par (fold s b f nil) b'
  | foldS (s) {b b' f f' h h' l l'} : Par b b' → Par f f' → Par h h' → Par l l' → Par (fold s b f (cons h l)) (app (app (app f' h') l') (fold s b' f' l'))
  | fstP (b) {a a'} : Par a a' → Par (fst (pair a b)) a'
  | sndP (a) {b b'} : Par b b' → Par (snd (pair a b)) b'
theorem Par.refl (t : T) : Par t t := by
  induction t with
  | var i => exact .var i
  | lam s b h => exact .lam s h
  | app f a hf ha => exact .app hf ha
  | zero => exact .zero
  | succ n h => exact .succ h
  | recN s b f n h1 h2 h3 => exact .recN s h1 h2 h3
  | nil => exact .nil
  | cons h l h1 h2 => exact .cons h1 h2
  | fold s b f l h1 h2 h3 => exact .fold s h1 h2 h3
  | pair a b h1 h2 => exact .pair h1 h2
  | fst p h => exact .fst h
  | snd p h => exact .snd h
  | unit => exact .unit
theorem Par.ren {t u : T} (h : Par t u) : ∀ ρ : Nat → Nat, Par (t.ren ρ) (u.ren ρ) := by
  induction h <;> intro ρ
  case beta s b b' a a' _ _ h1 h2 => rw [inst_ren]; exact .beta s (h1 _) (h2 _)
  all_goals (simp only [T.ren]; constructor <;> simp_all)
theorem Par.sub {t u : T} (h : Par t u) : ∀ {σ τ : Nat → T}, (∀ i, Par (σ i) (τ i)) → Par (t.sub σ) (u.sub τ) := by
  have up : ∀ {σ τ : Nat → T}, (∀ i, Par (σ i) (τ i)) → ∀ i, Par (ups σ i) (ups τ i) := by
    intro σ τ h i
    cases i with
    | zero => exact .var 0
    | succ i => exact (h i).ren _
  induction h <;> intro σ τ hs
  case var i => exact hs i
  case beta s b b' a a' _ _ h1 h2 => rw [inst_sub]; exact .beta s (h1 (up hs)) (h2 hs)
  case lam s b b' _ h1 => exact .lam s (h1 (up hs))
  all_goals (simp only [T.sub]; constructor <;> simp_all)
theorem Par.inst {b b' a a' : T} (hb : Par b b') (ha : Par a a') : Par (b.inst a) (b'.inst a') :=
  hb.sub fun i => by
    cases i with
    | zero => exact ha
    | succ i => exact .var i
def dev : T → T
  | var i => var i
  | lam s b => lam s b.dev
  | app f a => match f, f.dev with
    | lam _ _, lam _ b => b.inst a.dev
    | _, f' => app f' a.dev
  | zero => zero
  | succ n => succ n.dev
  | recN s b f n => match n, n.dev with
    | zero, _ => b.dev
    | succ _, succ n' => app (app f.dev n') (recN s b.dev f.dev n')
    | _, n' => recN s b.dev f.dev n'
  | nil => nil
  | cons h l => cons h.dev l.dev
  | fold s b f l => match l, l.dev with
    | nil, _ => b.dev
    | cons _ _, cons h' l' => app (app (app f.dev h') l') (fold s b.dev f.dev l')
    | _, l' => fold s b.dev f.dev l'
  | pair a b => pair a.dev b.dev
  | fst p => match p, p.dev with
    | pair _ _, pair a _ => a
    | _, p' => fst p'
  | snd p => match p, p.dev with
    | pair _ _, pair _ b => b
    | _, p' => snd p'
  | unit => unit
theorem Par.dev {t u : T} (h : Par t u) : Par u t.dev := by
  induction h with
  | var i => exact .var i
  | lam s _ h => exact .lam s h
  | @app f f' a a' hf _ h1 h2 =>
    cases f with
    | lam s b =>
      cases hf with
      | lam s hb =>
        cases h1 with
        | lam s h => exact .beta s h h2
    | _ => exact .app h1 h2
  | zero => exact .zero
  | succ _ h => exact .succ h
  | @recN s b b' f f' n n' _ _ hn h1 h2 h3 =>
    cases n with
    | zero => cases hn; exact .rec0 s _ h1
    | succ m =>
      cases hn with
      | succ hm =>
        cases h3 with
        | succ h => exact .recS s h1 h2 h
    | _ => exact .recN s h1 h2 h3
  | nil => exact .nil
  | cons _ _ h1 h2 => exact .cons h1 h2
  | @fold s b b' f f' l l' _ _ hl h1 h2 h3 =>
    cases l with
    | nil => cases hl; exact .fold0 s _ h1
    | cons x y =>
      cases hl with
      | cons hx hy =>
        cases h3 with
        | cons e1 e2 => exact .foldS s h1 h2 e1 e2
    | _ => exact .fold s h1 h2 h3
  | pair _ _ h1 h2 => exact .pair h1 h2
  | @fst p p' hp h =>
    cases p with
    | pair a b =>
      cases hp with
      | pair ha hb =>
        cases h with
        | pair e1 e2 => exact .fstP _ e1
    | _ => exact .fst h
  | @snd p p' hp h =>
    cases p with
    | pair a b =>
      cases hp with
      | pair ha hb =>
        cases h with
        | pair e1 e2 => exact .sndP _ e2
    | _ => exact .snd h
  | unit => exact .unit
  | beta s _ _ h1 h2 => exact Par.inst h1 h2
  | rec0 s f _ h => exact h
  | recS s _ _ _ h1 h2 h3 => exact .app (.app h2 h3) (.recN s h1 h2 h3)
  | fold0 s f _ h => exact h
  | foldS s _ _ _ _ h1 h2 h3 h4 => exact .app (.app (.app h2 h3) h4) (.fold s h1 h2 h4)
  | fstP b _ h => exact h
  | sndP a _ h => exact h
inductive Red : T → T → Prop
  | refl (t) : Red t t
  | step {t u v} : Par t u → Red u v → Red t v
theorem Red.trans {t u v : T} (h : Red t u) (k : Red u v) : Red t v := by
  induction h with
  | refl => exact k
  | step h _ ih => exact .step h (ih k)
theorem Red.one {t u : T} (h : Par t u) : Red t u := .step h (.refl u)
theorem strip1 {t u v : T} (h : Par t u) (k : Red t v) : ∃ w, Red u w ∧ Par v w := by
  induction k generalizing u with
  | refl t => exact ⟨u, .refl u, h⟩
  | @step t x v hx _ ih =>
    obtain ⟨w, h1, h2⟩ := ih hx.dev
    exact ⟨w, .step h.dev h1, h2⟩
def root : T → Bool
  | app (lam _ _) _ => true
  | recN _ _ _ zero => true
  | recN _ _ _ (succ _) => true
  | fold _ _ _ nil => true
  | fold _ _ _ (cons _ _) => true
  | fst (pair _ _) => true
  | snd (pair _ _) => true
  | _ => false
def normal : T → Bool
  | var _ => true
  | lam _ b => b.normal
  | app f a => !(app f a).root && f.normal && a.normal
  | zero => true
  | succ n => n.normal
  | recN s b f n => !(recN s b f n).root && b.normal && f.normal && n.normal
  | nil => true
  | cons h l => h.normal && l.normal
  | fold s b f l => !(fold s b f l).root && b.normal && f.normal && l.normal
  | pair a b => a.normal && b.normal
  | fst p => !(fst p).root && p.normal
  | snd p => !(snd p).root && p.normal
  | unit => true
theorem Par.normal {t u : T} (h : Par t u) : t.normal = true → u = t := by
  induction h <;> intro hn <;> simp_all [T.normal, T.root]
theorem Red.normal {t u : T} (h : Red t u) (hn : t.normal = true) : u = t := by
  induction h with
  | refl => rfl
  | step h _ ih => rw [h.normal hn] at ih; exact ih hn
end T
end Go.Proofs.YtnpgbkldpdogjaaGreatDoor.V

namespace Go.Proofs.YtnpgbkldpdogjaaGreatDoor.V
open Go
namespace T
inductive HasTy : List Ty → T → Ty → Prop
  | var {g i s} : g[i]? = some s → HasTy g (var i) s
  | lam {g s b t} : HasTy (s :: g) b t → (Ty.fn s t).check = 0 → HasTy g (lam s b) (.fn s t)
  | app {g f a s t} : HasTy g f (.fn s t) → HasTy g a s → HasTy g (app f a) t
  | zero {g} : HasTy g zero .nat
  | succ {g n} : HasTy g n .nat → HasTy g (succ n) .nat
  | recN {g s b f n} : HasTy g b s → HasTy g f (.fn .nat (.fn s s)) → HasTy g n .nat → s.check = 0 → HasTy g (recN s b f n) s
  | nil {g} : HasTy g nil .list
  | cons {g h l} : HasTy g h .nat → HasTy g l .list → HasTy g (cons h l) .list
  | fold {g s b f l} : HasTy g b s → HasTy g f (.fn .nat (.fn .list (.fn s s))) → HasTy g l .list → s.check = 0 → HasTy g (fold s b f l) s
  | pair {g a b s t} : HasTy g a s → HasTy g b t → (Ty.pair s t).check = 0 → HasTy g (pair a b) (.pair s t)
  | fst {g p s t} : HasTy g p (.pair s t) → HasTy g (fst p) s
  | snd {g p s t} : HasTy g p (.pair s t) → HasTy g (snd p) t
  | unit {g} : HasTy g unit .unit
theorem HasTy.ren {g : List Ty} {t : T} {s : Ty} (h : HasTy g t s) : ∀ {g' : List Ty} {ρ : Nat → Nat}, (∀ i x, g[i]? = some x → g'[ρ i]? = some x) → HasTy g' (t.ren ρ) s := by
  induction h with
  | var h => exact fun hr => .var (hr _ _ h)
  | lam _ hc ih =>
    intro g' ρ hr
    refine .lam (ih fun i x hx => ?_) hc
    cases i with
    | zero => exact hx
    | succ i => exact hr i x hx
  | app _ _ h1 h2 => exact fun hr => .app (h1 hr) (h2 hr)
  | zero => exact fun _ => .zero
  | succ _ h1 => exact fun hr => .succ (h1 hr)
  | recN _ _ _ hc h1 h2 h3 => exact fun hr => .recN (h1 hr) (h2 hr) (h3 hr) hc
  | nil => exact fun _ => .nil
  | cons _ _ h1 h2 => exact fun hr => .cons (h1 hr) (h2 hr)
  | fold _ _ _ hc h1 h2 h3 => exact fun hr => .fold (h1 hr) (h2 hr) (h3 hr) hc
  | pair _ _ hc h1 h2 => exact fun hr => .pair (h1 hr) (h2 hr) hc
  | fst _ h1 => exact fun hr => .fst (h1 hr)
  | snd _ h1 => exact fun hr => .snd (h1 hr)
  | unit => exact fun _ => .unit
theorem HasTy.sub {g : List Ty} {t : T} {s : Ty} (h : HasTy g t s) : ∀ {g' : List Ty} {σ : Nat → T}, (∀ i x, g[i]? = some x → HasTy g' (σ i) x) → HasTy g' (t.sub σ) s := by
  induction h with
  | var h => exact fun hr => hr _ _ h
  | lam _ hc ih =>
    intro g' ρ hr
    refine .lam (ih fun i x hx => ?_) hc
    cases i with
    | zero => exact .var hx
    | succ i => exact (hr i x hx).ren fun j y hy => hy
  | app _ _ h1 h2 => exact fun hr => .app (h1 hr) (h2 hr)
  | zero => exact fun _ => .zero
  | succ _ h1 => exact fun hr => .succ (h1 hr)
  | recN _ _ _ hc h1 h2 h3 => exact fun hr => .recN (h1 hr) (h2 hr) (h3 hr) hc
  | nil => exact fun _ => .nil
  | cons _ _ h1 h2 => exact fun hr => .cons (h1 hr) (h2 hr)
  | fold _ _ _ hc h1 h2 h3 => exact fun hr => .fold (h1 hr) (h2 hr) (h3 hr) hc
  | pair _ _ hc h1 h2 => exact fun hr => .pair (h1 hr) (h2 hr) hc
  | fst _ h1 => exact fun hr => .fst (h1 hr)
  | snd _ h1 => exact fun hr => .snd (h1 hr)
  | unit => exact fun _ => .unit
theorem HasTy.inst {g : List Ty} {b a : T} {s t : Ty} (hb : HasTy (s :: g) b t) (ha : HasTy g a s) : HasTy g (b.inst a) t :=
  hb.sub fun i x hx => by
    cases i with
    | zero => cases hx; exact ha
    | succ i => exact .var hx
theorem fn_parts {a b : Ty} (h : (Ty.fn a b).check = 0) : a.check = 0 ∧ b.check = 0 := by
  have h := Ty.check_iff.1 h
  rw [Ty.fn_size] at h
  have h1 : a.ok = true ∧ b.ok = true := by simpa [Ty.fn, tyArity] using h.1
  exact ⟨Ty.check_iff.2 ⟨h1.1, by omega⟩, Ty.check_iff.2 ⟨h1.2, by omega⟩⟩
theorem pair_parts {a b : Ty} (h : (Ty.pair a b).check = 0) : a.check = 0 ∧ b.check = 0 := by
  have h := Ty.check_iff.1 h
  rw [Ty.pair_size] at h
  have h1 : a.ok = true ∧ b.ok = true := by simpa [Ty.pair, tyArity] using h.1
  exact ⟨Ty.check_iff.2 ⟨h1.1, by omega⟩, Ty.check_iff.2 ⟨h1.2, by omega⟩⟩
theorem HasTy.good {g : List Ty} {t : T} {s : Ty} (h : HasTy g t s) : (∀ x ∈ g, x.check = 0) → t.wf = true ∧ s.check = 0 := by
  induction h with
  | var h => exact fun hg => ⟨rfl, hg _ (List.mem_of_getElem? h)⟩
  | lam h1 hc ih =>
    intro hg
    have hp := fn_parts hc
    have := ih fun x hx => by
      rcases List.mem_cons.1 hx with rfl | hx
      · exact hp.1
      · exact hg x hx
    exact ⟨by simp [wf, hp.1, this.1], hc⟩
  | app _ _ i1 i2 => exact fun hg => ⟨by simp [wf, (i1 hg).1, (i2 hg).1], (fn_parts (i1 hg).2).2⟩
  | zero => exact fun _ => ⟨rfl, Ty.nat_check⟩
  | succ _ i1 => exact fun hg => ⟨by simp [wf, (i1 hg).1], Ty.nat_check⟩
  | recN _ _ _ hc i1 i2 i3 => exact fun hg => ⟨by simp [wf, hc, (i1 hg).1, (i2 hg).1, (i3 hg).1], hc⟩
  | nil => exact fun _ => ⟨rfl, Ty.list_check⟩
  | cons _ _ i1 i2 => exact fun hg => ⟨by simp [wf, (i1 hg).1, (i2 hg).1], Ty.list_check⟩
  | fold _ _ _ hc i1 i2 i3 => exact fun hg => ⟨by simp [wf, hc, (i1 hg).1, (i2 hg).1, (i3 hg).1], hc⟩
  | pair _ _ hc i1 i2 => exact fun hg => ⟨by simp [wf, (i1 hg).1, (i2 hg).1], hc⟩
  | fst _ i1 => exact fun hg => ⟨by simp [wf, (i1 hg).1], (pair_parts (i1 hg).2).1⟩
  | snd _ i1 => exact fun hg => ⟨by simp [wf, (i1 hg).1], (pair_parts (i1 hg).2).2⟩
  | unit => exact fun _ => ⟨rfl, Ty.check_iff.2 ⟨Ty.unit_ok, by simp⟩⟩
def numeral : T → Bool
  | zero => true
  | succ n => n.numeral
  | _ => false
def listed : T → Bool
  | nil => true
  | cons h l => h.numeral && l.listed
  | _ => false
def num : Nat → T
  | 0 => zero
  | n + 1 => succ (num n)
theorem num_tm (n : Nat) : (num n).tm = Tm.num n := by
  induction n with
  | zero => rfl
  | succ n ih => simp only [num, tm, ih]; rfl
theorem num_ty {g : List Ty} (n : Nat) : HasTy g (num n) .nat := by
  induction n with
  | zero => exact .zero
  | succ n ih => exact .succ ih
theorem small_check {a : Ty} (h : a.ok = true ∧ a.size ≤ 64) : a.check = 0 := Ty.check_iff.2 h
theorem fn_small {a b : Ty} {m : Nat} (ha : a.ok = true ∧ a.size ≤ m) (hb : b.ok = true ∧ b.size ≤ 63 - m) (hm : m ≤ 63) : (Ty.fn a b).check = 0 := Ty.check_iff.2 ⟨Ty.fn_ok ha.1 hb.1, by rw [Ty.fn_size]; omega⟩
def predT : T := lam .nat (recN .nat zero (lam .nat (lam .nat (var 1))) (var 0))
def plusT : T := lam .nat (lam .nat (recN .nat (var 1) (lam .nat (lam .nat (succ (var 0)))) (var 0)))
def subT : T := lam .nat (lam .nat (recN .nat (var 1) (lam .nat (lam .nat (app predT (var 0)))) (var 0)))
theorem nn_check : (Ty.fn .nat .nat).check = 0 := by decide +kernel
theorem nnn_check : (Ty.fn .nat (.fn .nat .nat)).check = 0 := by decide +kernel
theorem predT_ty {g : List Ty} : HasTy g predT (.fn .nat .nat) := .lam (.recN .zero (.lam (.lam (.var rfl) nn_check) nnn_check) (.var rfl) Ty.nat_check) nn_check
theorem plusT_ty {g : List Ty} : HasTy g plusT (.fn .nat (.fn .nat .nat)) := .lam (.lam (.recN (.var rfl) (.lam (.lam (.succ (.var rfl)) nn_check) nnn_check) (.var rfl) Ty.nat_check) nn_check) nnn_check
theorem subT_ty {g : List Ty} : HasTy g subT (.fn .nat (.fn .nat .nat)) := .lam (.lam (.recN (.var rfl) (.lam (.lam (.app predT_ty (.var rfl)) nn_check) nnn_check) (.var rfl) Ty.nat_check) nn_check) nnn_check
def Made (g : List Ty) (t : Ty) (x : Tm) : Prop := ∃ u : T, u.tm = x ∧ HasTy g.reverse u t
theorem made_var {g : List Ty} {t : Ty} {l r r' : List Int} {i : Int} (hl : l = vars g t) (h : pickVar l r = (some i, r')) : Made g t (.var i) := by
  subst hl
  obtain ⟨j, rfl, _, h2⟩ := vars_mem (pickVar_some h)
  exact ⟨.var j, rfl, .var h2⟩
theorem made_num {g : List Ty} {n : Nat} : Made g .nat (.num n) := ⟨num n, num_tm n, num_ty n⟩
theorem Made.lam {g : List Ty} {s t : Ty} {x : Tm} (h : Made (g ++ [s]) t x) (hc : (Ty.fn s t).check = 0) : Made g (.fn s t) (.tnode 2 s [x]) := by
  obtain ⟨u, rfl, h⟩ := h
  rw [List.reverse_append] at h
  exact ⟨.lam s u, rfl, .lam h hc⟩
theorem Made.app {g : List Ty} {s t : Ty} {x y : Tm} (h : Made g (.fn s t) x) (k : Made g s y) : Made g t (.node 3 [x, y]) := by
  obtain ⟨u, rfl, h⟩ := h
  obtain ⟨v, rfl, k⟩ := k
  exact ⟨.app u v, rfl, .app h k⟩
theorem Made.pair {g : List Ty} {s t : Ty} {x y : Tm} (h : Made g s x) (k : Made g t y) (hc : (Ty.pair s t).check = 0) : Made g (.pair s t) (.node 10 [x, y]) := by
  obtain ⟨u, rfl, h⟩ := h
  obtain ⟨v, rfl, k⟩ := k
  exact ⟨.pair u v, rfl, .pair h k hc⟩
theorem Made.fst {g : List Ty} {s t : Ty} {x : Tm} (h : Made g (.pair s t) x) : Made g s (.node 11 [x]) := by
  obtain ⟨u, rfl, h⟩ := h
  exact ⟨.fst u, rfl, .fst h⟩
theorem Made.snd {g : List Ty} {s t : Ty} {x : Tm} (h : Made g (.pair s t) x) : Made g t (.node 12 [x]) := by
  obtain ⟨u, rfl, h⟩ := h
  exact ⟨.snd u, rfl, .snd h⟩
theorem Made.recN {g : List Ty} {s : Ty} {x y z : Tm} (h1 : Made g s x) (h2 : Made g (.fn .nat (.fn s s)) y) (h3 : Made g .nat z) (hc : s.check = 0) : Made g s (.tnode 6 s [x, y, z]) := by
  obtain ⟨u, rfl, h1⟩ := h1
  obtain ⟨v, rfl, h2⟩ := h2
  obtain ⟨w, rfl, h3⟩ := h3
  exact ⟨.recN s u v w, rfl, .recN h1 h2 h3 hc⟩
theorem Made.fold {g : List Ty} {s : Ty} {x y z : Tm} (h1 : Made g s x) (h2 : Made g (.fn .nat (.fn .list (.fn s s))) y) (h3 : Made g .list z) (hc : s.check = 0) : Made g s (.tnode 9 s [x, y, z]) := by
  obtain ⟨u, rfl, h1⟩ := h1
  obtain ⟨v, rfl, h2⟩ := h2
  obtain ⟨w, rfl, h3⟩ := h3
  exact ⟨.fold s u v w, rfl, .fold h1 h2 h3 hc⟩
theorem unit_of {k : Int} {l : List Ty} (hok : (Ty.mk k l).ok = true) (h1 : ¬ k = 1) (h2 : ¬ k = 2) (h3 : ∀ a b, l = [a, b] → ¬ k = 3 ∧ ¬ k = 4) : Ty.mk k l = .unit := by
  simp only [Ty.ok_mk, Bool.and_eq_true, beq_iff_eq] at hok
  have ha := hok.1
  unfold tyArity at ha
  split at ha
  · rename_i h
    have hl : l = [] := List.length_eq_zero_iff.1 (by simpa using ha.symm)
    have hk : k = 5 := by omega
    rw [hl, hk]; try rfl
  · split at ha
    · rename_i h
      match l, ha with
      | [a, b], _ => have := h3 a b rfl; omega
    · cases ha
theorem nat_of {l : List Ty} (hok : (Ty.mk 1 l).ok = true) : Ty.mk 1 l = .nat := by
  simp only [Ty.ok_mk, Bool.and_eq_true, beq_iff_eq] at hok
  have hl : l = [] := List.length_eq_zero_iff.1 (by simpa [tyArity] using hok.1.symm)
  rw [hl]; try rfl
theorem list_of {l : List Ty} (hok : (Ty.mk 2 l).ok = true) : Ty.mk 2 l = .list := by
  simp only [Ty.ok_mk, Bool.and_eq_true, beq_iff_eq] at hok
  have hl : l = [] := List.length_eq_zero_iff.1 (by simpa [tyArity] using hok.1.symm)
  rw [hl]; try rfl
theorem made_unit {g : List Ty} : Made g .unit (.node 13 []) := ⟨.unit, rfl, .unit⟩
theorem made_nil {g : List Ty} : Made g .list (.node 7 []) := ⟨.nil, rfl, .nil⟩
theorem mkTerm0_made (t : Ty) : ∀ (g : List Ty) (r : List Int), t.check = 0 → Made g t (mkTerm0 g t r).1 := by
  induction t using Ty.ind with
  | _ k l ih =>
  intro g r hc
  have ht := Ty.check_iff.1 hc
  unfold mkTerm0
  rcases hv : pickVar (vars g (.mk k l)) r with ⟨_ | i, r'⟩ <;> simp only
  rotate_left
  · exact made_var rfl hv
  · split
    · rename_i h1; subst h1; rw [nat_of ht.1]; exact made_num
    · split
      · rename_i h2; subst h2; rw [list_of ht.1]; exact made_nil
      · split
        · rename_i h1 h2 _ a b
          split
          · rename_i h3
            subst h3
            have hp := pair_parts hc
            exact (ih a (by simp) g r' hp.1).pair (ih b (by simp) g _ hp.2) hc
          · split
            · rename_i h4
              subst h4
              have hp := fn_parts hc
              exact (ih b (by simp) (g ++ [a]) r' hp.2).lam hc
            · rename_i h3 h4
              rw [unit_of ht.1 h1 h2 fun _ _ _ => ⟨h3, h4⟩]; exact made_unit
        · rename_i h1 h2 _ h3
          rw [unit_of ht.1 h1 h2 fun a b h => absurd h (h3 a b)]; exact made_unit
theorem Made.succ {g : List Ty} {x : Tm} (h : Made g .nat x) : Made g .nat (.node 5 [x]) := by
  obtain ⟨u, rfl, h⟩ := h
  exact ⟨.succ u, rfl, .succ h⟩
theorem Made.cons {g : List Ty} {x y : Tm} (h : Made g .nat x) (k : Made g .list y) : Made g .list (.node 8 [x, y]) := by
  obtain ⟨u, rfl, h⟩ := h
  obtain ⟨v, rfl, k⟩ := k
  exact ⟨.cons u v, rfl, .cons h k⟩
theorem made_plus {g : List Ty} : Made g (.fn .nat (.fn .nat .nat)) .plus := ⟨plusT, rfl, plusT_ty⟩
theorem made_sub {g : List Ty} : Made g (.fn .nat (.fn .nat .nat)) .sub := ⟨subT, rfl, subT_ty⟩
theorem mkPlain_made {m : Nat} (hm : m ≤ 15) {F : List Ty → Ty → List Int → Tm × List Int} (hF : ∀ g t r, Good m g → t.ok = true ∧ t.size ≤ m → Made g t (F g t r).1) (g : List Ty) (t : Ty) (r : List Int) (hg : Good m g) (ht : t.ok = true ∧ t.size ≤ m) : Made g t (mkPlain F g t r).1 := by
  obtain ⟨k, l⟩ := t
  have hp := Ty.size_pos (.mk k l)
  have hnat : Ty.nat.ok = true ∧ Ty.nat.size ≤ m := ⟨Ty.nat_ok, by simp; omega⟩
  have hc : (Ty.mk k l).check = 0 := small_check ⟨ht.1, by omega⟩
  unfold mkPlain
  simp only
  split
  · rename_i h1
    subst h1
    have e := nat_of ht.1
    rw [e] at ht ⊢
    split
    · exact (hF _ _ _ hg ht).succ
    · split
      · exact (made_plus.app (hF _ _ _ hg ht)).app (hF _ _ _ hg ht)
      · split
        · exact (made_sub.app (hF _ _ _ hg ht)).app (hF _ _ _ hg ht)
        · exact made_num
  · split
    · rename_i h2
      subst h2
      have e := list_of ht.1
      rw [e] at ht ⊢
      split
      · exact (hF _ _ _ hg hnat).cons (hF _ _ _ hg ht)
      · exact made_nil
    · split
      · rename_i h1 h2 _ a b
        have hab := Ty.parts2 ht
        split
        · rename_i h3
          subst h3
          exact (hF _ _ _ hg hab.1).pair (hF _ _ _ hg hab.2) hc
        · split
          · rename_i h4
            subst h4
            exact (hF _ _ _ (hg.app (Good.one hab.1)) hab.2).lam hc
          · rename_i h3 h4
            rw [unit_of ht.1 h1 h2 fun _ _ _ => ⟨h3, h4⟩]; exact made_unit
      · rename_i h1 h2 _ h3
        rw [unit_of ht.1 h1 h2 fun a b h => absurd h (h3 a b)]; exact made_unit
theorem mkTerm_made {m : Nat} (hm : m ≤ 15) (d : Nat) : ∀ (g : List Ty) (t : Ty) (r : List Int), Good m g → t.ok = true ∧ t.size ≤ m → Made g t (mkTerm d g t r).1 := by
  induction d with
  | zero =>
    intro g t r hg ht
    exact mkTerm0_made t g r (small_check ⟨ht.1, by omega⟩)
  | succ d ih =>
    intro g t r hg ht
    have hp := Ty.size_pos t
    have hnat : Ty.nat.ok = true ∧ Ty.nat.size ≤ m := ⟨Ty.nat_ok, by simp; omega⟩
    have hlist : Ty.list.ok = true ∧ Ty.list.size ≤ m := ⟨Ty.list_ok, by simp; omega⟩
    have htc : t.check = 0 := small_check ⟨ht.1, by omega⟩
    have h0 : ∀ r, (mkType 0 r).1.ok = true ∧ (mkType 0 r).1.size ≤ m := fun r => ⟨(mkType0 r).1, by have := (mkType0 r).2; omega⟩
    have fc : ∀ {a b : Ty}, a.ok = true ∧ a.size ≤ m → b.ok = true ∧ b.size ≤ 48 → (Ty.fn a b).check = 0 := fun ha hb => fn_small ha ⟨hb.1, by have := hb.2; omega⟩ (by omega)
    have pc : ∀ {a b : Ty}, a.ok = true ∧ a.size ≤ m → b.ok = true ∧ b.size ≤ m → (Ty.pair a b).check = 0 := fun ha hb => Ty.check_iff.2 ⟨Ty.pair_ok ha.1 hb.1, by rw [Ty.pair_size]; have := ha.2; have := hb.2; omega⟩
    have le : ∀ {a : Ty}, a.ok = true ∧ a.size ≤ m → a.ok = true ∧ a.size ≤ 48 := fun h => ⟨h.1, by have := h.2; omega⟩
    have tt : (Ty.fn t t).ok = true ∧ (Ty.fn t t).size ≤ 48 := ⟨Ty.fn_ok ht.1 ht.1, by rw [Ty.fn_size]; have := ht.2; omega⟩
    have ltt : (Ty.fn .list (Ty.fn t t)).ok = true ∧ (Ty.fn .list (Ty.fn t t)).size ≤ 48 := ⟨Ty.fn_ok Ty.list_ok tt.1, by rw [Ty.fn_size, Ty.fn_size, Ty.list_size]; have := ht.2; omega⟩
    unfold mkTerm
    split
    · rename_i i r' hv
      exact made_var rfl hv
    · rename_i r' hv
      have plain := mkPlain_made hm (fun g t r => ih g t r) g t (next 8 r').2 hg ht
      simp only
      split
      · exact ((ih _ _ _ (hg.app (Good.one (h0 _))) ht).lam (fc (h0 _) (le ht))).app (ih _ _ _ hg (h0 _))
      · split
        · exact ((ih _ _ _ hg ht).pair (ih _ _ _ hg (h0 _)) (pc ht (h0 _))).fst
        · split
          · have h1 := ih (g ++ [.nat, t]) t (next 8 r').2 (hg.app (Good.cons hnat (Good.one ht))) ht
            rw [show g ++ [Ty.nat, t] = (g ++ [Ty.nat]) ++ [t] by simp] at h1 ⊢
            exact (ih _ _ _ hg ht).recN ((h1.lam (fc ht (le ht))).lam (fc hnat tt)) made_num htc
          · split
            · have h1 := ih (g ++ [.nat, .list, t]) t (next 8 r').2 (hg.app (Good.cons hnat (Good.cons hlist (Good.one ht)))) ht
              rw [show g ++ [Ty.nat, Ty.list, t] = ((g ++ [Ty.nat]) ++ [Ty.list]) ++ [t] by simp] at h1 ⊢
              exact (ih _ _ _ hg ht).fold (((h1.lam (fc ht (le ht))).lam (fc hlist tt)).lam (fc hnat ltt)) (ih _ _ _ hg hlist) htc
            · split
              · exact ((ih _ _ _ hg (h0 _)).pair (ih _ _ _ hg ht) (pc (h0 _) ht)).snd
              · split
                · split
                  · rename_i i a hf
                    obtain ⟨j, rfl, e2, e3⟩ := funFrom_mem t _ _ _ _ hf
                    have hga := hg (.fn a t) (by have := List.mem_of_getElem? e3; simpa using this)
                    have ha := (Ty.parts2 hga).1
                    have hv : Made g (.fn a t) (.var ((0 + j : Nat) : Int)) := ⟨.var j, by simp [tm], .var e3⟩
                    exact hv.app (ih _ _ _ hg ha)
                  · exact plain
                · exact plain
end T
end Go.Proofs.YtnpgbkldpdogjaaGreatDoor.V

namespace Go.Proofs.YtnpgbkldpdogjaaGreatDoor.V
open Go
namespace T
theorem tm_ok (t : T) : t.tm.ok = t.wf := by
  have nd : ∀ (k : Int) (l : List Tm), tmArity k = some l.length → tmTyped k = false → (Tm.node k l).ok = Tm.oks l := fun k l h1 h2 => by simp [Tm.node, Tm.head_node h1 h2]
  have td : ∀ (k : Int) (s : Ty) (l : List Tm), tmArity k = some l.length → tmTyped k = true → (Tm.tnode k s l).ok = (s.check == 0 && Tm.oks l) := fun k s l h1 h2 => by simp [Tm.tnode, Tm.head, h1, h2]
  induction t with
  | var i => exact Tm.var_ok (by omega)
  | lam s b h => rw [tm, td 2 s [b.tm] rfl rfl]; simp [wf, h]
  | app f a h1 h2 => rw [tm, nd 3 [f.tm, a.tm] rfl rfl]; simp [wf, h1, h2]
  | zero => rfl
  | succ n h => rw [tm, nd 5 [n.tm] rfl rfl]; simp [wf, h]
  | recN s b f n h1 h2 h3 => rw [tm, td 6 s [b.tm, f.tm, n.tm] rfl rfl]; simp [wf, h1, h2, h3, Bool.and_assoc]
  | nil => rfl
  | cons f a h1 h2 => rw [tm, nd 8 [f.tm, a.tm] rfl rfl]; simp [wf, h1, h2]
  | fold s b f n h1 h2 h3 => rw [tm, td 9 s [b.tm, f.tm, n.tm] rfl rfl]; simp [wf, h1, h2, h3, Bool.and_assoc]
  | pair f a h1 h2 => rw [tm, nd 10 [f.tm, a.tm] rfl rfl]; simp [wf, h1, h2]
  | fst n h => rw [tm, nd 11 [n.tm] rfl rfl]; simp [wf, h]
  | snd n h => rw [tm, nd 12 [n.tm] rfl rfl]; simp [wf, h]
  | unit => rfl
theorem arity_cases {k : Int} {n : Nat} (h : tmArity k = some n) : (n = 0 ∧ (k = 1 ∨ k = 4 ∨ k = 7 ∨ k = 13)) ∨ (n = 1 ∧ (k = 2 ∨ k = 5 ∨ k = 11 ∨ k = 12)) ∨ (n = 2 ∧ (k = 3 ∨ k = 8 ∨ k = 10)) ∨ (n = 3 ∧ (k = 6 ∨ k = 9)) := by
  unfold tmArity at h
  split at h
  · rename_i hk
    have : k = 1 ∨ k = 2 ∨ k = 3 ∨ k = 4 ∨ k = 5 ∨ k = 6 ∨ k = 7 ∨ k = 8 ∨ k = 9 ∨ k = 10 ∨ k = 11 ∨ k = 12 ∨ k = 13 := by omega
    rcases this with rfl | rfl | rfl | rfl | rfl | rfl | rfl | rfl | rfl | rfl | rfl | rfl | rfl <;> simp at h <;> subst h <;> simp
  · cases h
theorem none_iff {t : Ty} : t.none = true ↔ t = .zero := by
  obtain ⟨k, l⟩ := t
  cases l <;> simp [Ty.none, Ty.zero]
theorem of_ok (t : Tm) : t.ok = true → ∃ u : T, u.tm = t := by
  induction t using Tm.ind with
  | _ k i s l ih =>
    intro h
    simp only [Tm.ok_mk, Bool.and_eq_true, Tm.oks_iff] at h
    obtain ⟨hh, hl⟩ := h
    have hnn := Tm.head_nonneg hh
    simp only [Tm.head, Bool.and_eq_true, beq_iff_eq, Bool.or_eq_true, decide_eq_true_eq] at hh
    obtain ⟨⟨⟨ha, _⟩, hik⟩, hty⟩ := hh
    have hs : tmTyped k = false → s = .zero := fun e => by rw [e] at hty; exact none_iff.1 (by simpa using hty)
    rcases arity_cases ha with ⟨hn, hk⟩ | ⟨hn, hk⟩ | ⟨hn, hk⟩ | ⟨hn, hk⟩
    · obtain rfl := List.length_eq_zero_iff.1 hn
      rcases hk with rfl | rfl | rfl | rfl
      · exact ⟨.var i.toNat, by rw [hs rfl]; simp [tm, Tm.var, Int.toNat_of_nonneg hnn]⟩
      · obtain rfl : i = 0 := by omega
        exact ⟨.zero, by rw [hs rfl]; try rfl⟩
      · obtain rfl : i = 0 := by omega
        exact ⟨.nil, by rw [hs rfl]; try rfl⟩
      · obtain rfl : i = 0 := by omega
        exact ⟨.unit, by rw [hs rfl]; try rfl⟩
    · obtain ⟨x, rfl⟩ := List.length_eq_one_iff.1 hn
      obtain ⟨u, hu⟩ := ih x (by simp) (hl x (by simp))
      have hi : i = 0 := by omega
      subst hi hu
      rcases hk with rfl | rfl | rfl | rfl
      · exact ⟨.lam s u, rfl⟩
      · exact ⟨.succ u, by rw [hs rfl]; try rfl⟩
      · exact ⟨.fst u, by rw [hs rfl]; try rfl⟩
      · exact ⟨.snd u, by rw [hs rfl]; try rfl⟩
    · match l, hn with
      | [x, y], _ =>
        obtain ⟨u, hu⟩ := ih x (by simp) (hl x (by simp))
        obtain ⟨v, hv⟩ := ih y (by simp) (hl y (by simp))
        have hi : i = 0 := by omega
        subst hi hu hv
        rcases hk with rfl | rfl | rfl
        · exact ⟨.app u v, by rw [hs rfl]; try rfl⟩
        · exact ⟨.cons u v, by rw [hs rfl]; try rfl⟩
        · exact ⟨.pair u v, by rw [hs rfl]; try rfl⟩
    · match l, hn with
      | [x, y, z], _ =>
        obtain ⟨u, hu⟩ := ih x (by simp) (hl x (by simp))
        obtain ⟨v, hv⟩ := ih y (by simp) (hl y (by simp))
        obtain ⟨w, hw⟩ := ih z (by simp) (hl z (by simp))
        have hi : i = 0 := by omega
        subst hi hu hv hw
        rcases hk with rfl | rfl
        · exact ⟨.recN s u v w, rfl⟩
        · exact ⟨.fold s u v w, rfl⟩
def sh (fr by' : Nat) (i : Nat) : Nat := if fr ≤ i then i + by' else i
theorem upr_sh (fr by' : Nat) : upr (sh fr by') = sh (fr + 1) by' := by
  funext i
  cases i with
  | zero => simp [upr, sh]
  | succ i => simp only [upr, sh]; split <;> split <;> omega
theorem sh0 (n : Nat) : sh 0 n = fun i => i + n := by funext i; simp [sh]
def pt (n : Nat) (s : T) (i : Nat) : T := if i = n then s.ren (fun j => j + n) else if n < i then var (i - 1) else var i
theorem ups_pt (n : Nat) (s : T) : ups (pt n s) = pt (n + 1) s := by
  funext i
  cases i with
  | zero => simp [ups, pt]
  | succ i =>
    simp only [ups, pt]
    by_cases h : i = n
    · subst h
      simp [ren_ren]
      rfl
    · have h' : ¬ i + 1 = n + 1 := by omega
      rw [if_neg h, if_neg h']
      by_cases h2 : n < i
      · rw [if_pos h2, if_pos (by omega), ren]
        congr 1
        omega
      · rw [if_neg h2, if_neg (by omega), ren]
theorem pt0 (s : T) : pt 0 s = scons s var := by
  funext i
  cases i with
  | zero => simp [pt, scons, ren_id]
  | succ i => simp [pt, scons]
theorem tm_up (t : T) : ∀ fr by' : Nat, t.tm.up fr by' = (t.ren (sh fr by')).tm := by
  have nd : ∀ (k : Int) (l : List Tm) (a b : Int), k ≠ 1 → k ≠ 2 → (Tm.node k l).up a b = .node k (l.map fun x => x.up a b) := fun k l a b h1 h2 => by simp [Tm.node, Tm.up_mk, h1, h2]
  have td : ∀ (k : Int) (s : Ty) (l : List Tm) (a b : Int), k ≠ 1 → k ≠ 2 → (Tm.tnode k s l).up a b = .tnode k s (l.map fun x => x.up a b) := fun k s l a b h1 h2 => by simp [Tm.tnode, Tm.up_mk, h1, h2]
  induction t with
  | var i =>
    intro fr by'
    simp only [tm, ren, Tm.var, Tm.up_mk, sh]
    congr 1
    split <;> split <;> simp_all <;> omega
  | lam s b h =>
    intro fr by'
    rw [ren, upr_sh, tm, tm, Tm.tnode, Tm.tnode, Tm.up_mk]
    have := h (fr + 1) by'
    simp_all
  | _ => intro fr by'; simp_all [tm, ren, nd, td]
theorem tm_put (t s : T) : ∀ a d : Nat, t.tm.put a d s.tm = (t.sub (pt (a + d) s)).tm := by
  have nd : ∀ (k : Int) (l : List Tm) (a b : Int) (s : Tm), k ≠ 1 → k ≠ 2 → (Tm.node k l).put a b s = .node k (l.map fun x => x.put a b s) := fun k l a b s h1 h2 => by simp [Tm.node, Tm.put_mk, h1, h2]
  have td : ∀ (k : Int) (s : Ty) (l : List Tm) (a b : Int) (u : Tm), k ≠ 1 → k ≠ 2 → (Tm.tnode k s l).put a b u = .tnode k s (l.map fun x => x.put a b u) := fun k s l a b u h1 h2 => by simp [Tm.tnode, Tm.put_mk, h1, h2]
  induction t with
  | var i =>
    intro a d
    simp only [tm, sub, Tm.var, Tm.put_mk, pt]
    have e : ((a : Int) + d) = ((a + d : Nat) : Int) := by omega
    rw [e]
    by_cases h : i = a + d
    · subst h
      have := tm_up s 0 (a + d)
      rw [sh0] at this
      simp only [if_true]
      exact this
    · have h' : ¬ (i : Int) = ((a + d : Nat) : Int) := by omega
      simp only [if_true, if_neg h, if_neg h']
      by_cases h2 : a + d < i
      · have h2' : ((a + d : Nat) : Int) < i := by omega
        simp only [if_pos h2, if_pos h2', tm, Tm.var]
        congr 1
        omega
      · have h2' : ¬ ((a + d : Nat) : Int) < i := by omega
        simp only [if_neg h2, if_neg h2', tm, Tm.var]
  | lam u b h =>
    intro a d
    rw [sub, ups_pt, tm, tm, Tm.tnode, Tm.tnode, Tm.put_mk]
    have := h a (d + 1)
    rw [show a + (d + 1) = a + d + 1 by omega] at this
    simp_all
  | _ => intro a d; simp_all [tm, sub, nd, td]
theorem tm_inst (b a : T) : b.tm.put 0 0 a.tm = (b.inst a).tm := by
  have := tm_put b a 0 0
  rw [show (0 : Nat) + 0 = 0 from rfl, pt0] at this
  exact this
end T
end Go.Proofs.YtnpgbkldpdogjaaGreatDoor.V

namespace Go.Proofs.YtnpgbkldpdogjaaGreatDoor.V
open Go
theorem Tm.infer_var (i : Int) (g : List Ty) : (Tm.var i).infer g = if (g.length : Int) ≤ i then (.zero, 6) else (g.getD (g.length - 1 - i.toNat) .zero, 0) := by rw [Tm.var, Tm.infer, if_pos rfl]
theorem Tm.infer_lam (s : Ty) (x : Tm) (g : List Ty) : (Tm.tnode 2 s [x]).infer g = if (x.infer (g ++ [s])).2 ≠ 0 then (.zero, (x.infer (g ++ [s])).2) else okT (.fn s (x.infer (g ++ [s])).1) := by rw [Tm.tnode, Tm.infer, if_neg (by omega), if_pos rfl, Tm.inferh]
theorem Tm.infer_else {k i : Int} (h1 : k ≠ 1) (h2 : k ≠ 2) (s : Ty) (l : List Tm) (g : List Ty) : (Tm.mk k i s l).infer g = if (Tm.infers l g).2 ≠ 0 then (.zero, (Tm.infers l g).2) else inferStep k s (Tm.infers l g).1 := by rw [Tm.infer, if_neg h1, if_neg h2]
@[simp] theorem Tm.infers_nil (g : List Ty) : Tm.infers [] g = ([], 0) := by rw [Tm.infers]
theorem Tm.infers_cons (x : Tm) (l : List Tm) (g : List Ty) : Tm.infers (x :: l) g = if (x.infer g).2 ≠ 0 then ([], (x.infer g).2) else if (Tm.infers l g).2 ≠ 0 then ([], (Tm.infers l g).2) else ((x.infer g).1 :: (Tm.infers l g).1, 0) := by rw [Tm.infers]
theorem getD_rev {g : List Ty} {i : Nat} {s : Ty} (h : g.reverse[i]? = some s) : i < g.length ∧ g.getD (g.length - 1 - i) .zero = s := by
  have h1 := (List.getElem?_eq_some_iff.1 h).1
  rw [List.length_reverse] at h1
  rw [List.getElem?_reverse h1] at h
  exact ⟨h1, by rw [List.getD_eq_getElem?_getD, h]; try rfl⟩
theorem okT_check {t : Ty} (h : t.check = 0) : okT t = (t, 0) := by unfold okT; rw [if_pos h]
theorem same_self (t : Ty) : Ty.same t t = true := (Ty.same_iff t t).2 rfl
namespace T
theorem HasTy.infer {G : List Ty} {u : T} {s : Ty} (h : HasTy G u s) : ∀ g : List Ty, G = g.reverse → u.tm.infer g = (s, 0) := by
  have hd1 : ∀ (a : Ty) (l : List Ty), (a :: l).headD .zero = a := fun _ _ => rfl
  induction h with
  | @var G i s h =>
    rintro g rfl
    obtain ⟨h1, h2⟩ := getD_rev h
    rw [tm, Tm.infer_var, if_neg (by omega), Int.toNat_natCast, h2]
  | @lam G s b t hb hc ih =>
    rintro g rfl
    rw [tm, Tm.infer_lam, ih (g ++ [s]) (by simp)]
    simp [okT_check hc]
  | @app G f a s t hf ha i1 i2 =>
    rintro g rfl
    rw [tm, Tm.node, Tm.infer_else (by omega) (by omega)]
    simp [Tm.infers_cons, i1 g rfl, i2 g rfl, inferStep, Ty.fn, Ty.kind, Ty.args, same_self]
  | zero => rintro g rfl; rw [tm, Tm.node, Tm.infer_else (by omega) (by omega)]; simp [inferStep]
  | @succ G n hn i1 =>
    rintro g rfl
    rw [tm, Tm.node, Tm.infer_else (by omega) (by omega)]
    simp [Tm.infers_cons, i1 g rfl, inferStep, same_self]
  | @recN G s b f n h1 h2 h3 hc i1 i2 i3 =>
    rintro g rfl
    rw [tm, Tm.tnode, Tm.infer_else (by omega) (by omega)]
    simp [Tm.infers_cons, i1 g rfl, i2 g rfl, i3 g rfl, inferStep, same_self]
  | nil => rintro g rfl; rw [tm, Tm.node, Tm.infer_else (by omega) (by omega)]; simp [inferStep]
  | @cons G n m hn hm i1 i2 =>
    rintro g rfl
    rw [tm, Tm.node, Tm.infer_else (by omega) (by omega)]
    simp [Tm.infers_cons, i1 g rfl, i2 g rfl, inferStep, same_self]
  | @fold G s b f n h1 h2 h3 hc i1 i2 i3 =>
    rintro g rfl
    rw [tm, Tm.tnode, Tm.infer_else (by omega) (by omega)]
    simp [Tm.infers_cons, i1 g rfl, i2 g rfl, i3 g rfl, inferStep, same_self]
  | @pair G a b s t ha hb hc i1 i2 =>
    rintro g rfl
    rw [tm, Tm.node, Tm.infer_else (by omega) (by omega)]
    simp [Tm.infers_cons, i1 g rfl, i2 g rfl, inferStep, okT_check hc]
  | @fst G p s t hp i1 =>
    rintro g rfl
    rw [tm, Tm.node, Tm.infer_else (by omega) (by omega)]
    simp [Tm.infers_cons, i1 g rfl, inferStep, Ty.pair, Ty.kind, Ty.args]
  | @snd G p s t hp i1 =>
    rintro g rfl
    rw [tm, Tm.node, Tm.infer_else (by omega) (by omega)]
    simp [Tm.infers_cons, i1 g rfl, inferStep, Ty.pair, Ty.kind, Ty.args]
  | unit => rintro g rfl; rw [tm, Tm.node, Tm.infer_else (by omega) (by omega)]; simp [inferStep]
end T
theorem fn_of {t : Ty} (h : t.check = 0) (hk : t.kind = 4) : ∃ a b, t = .fn a b := by
  obtain ⟨k, l⟩ := t
  have h1 := (Ty.check_iff.1 h).1
  simp only [Ty.kind] at hk
  subst hk
  simp only [Ty.ok_mk, Bool.and_eq_true, tyArity] at h1
  have h2 : l.length = 2 := by have := h1.1; simp at this; omega
  match l, h2 with
  | [a, b], _ => exact ⟨a, b, rfl⟩
theorem pair_of {t : Ty} (h : t.check = 0) (hk : t.kind = 3) : ∃ a b, t = .pair a b := by
  obtain ⟨k, l⟩ := t
  have h1 := (Ty.check_iff.1 h).1
  simp only [Ty.kind] at hk
  subst hk
  simp only [Ty.ok_mk, Bool.and_eq_true, tyArity] at h1
  have h2 : l.length = 2 := by have := h1.1; simp at this; omega
  match l, h2 with
  | [a, b], _ => exact ⟨a, b, rfl⟩
theorem okT_eq {t r : Ty} (h : okT t = (r, 0)) : t.check = 0 ∧ r = t := by
  unfold okT at h
  split at h
  · rename_i hc; cases h; exact ⟨hc, rfl⟩
  · cases h
theorem infers_zero {x : Tm} {l : List Tm} {g ts : List Ty} (h : Tm.infers (x :: l) g = (ts, 0)) : ∃ t ts', ts = t :: ts' ∧ x.infer g = (t, 0) ∧ Tm.infers l g = (ts', 0) := by
  rw [Tm.infers_cons] at h
  by_cases h1 : (x.infer g).2 = 0
  · by_cases h2 : (Tm.infers l g).2 = 0
    · simp [h1, h2] at h
      exact ⟨_, _, h.symm, by rw [← h1], by rw [← h2]⟩
    · simp [h1, h2] at h
  · simp [h1] at h
theorem infer_zero {k i : Int} (h1 : k ≠ 1) (h2 : k ≠ 2) {s r : Ty} {l : List Tm} {g : List Ty} (h : (Tm.mk k i s l).infer g = (r, 0)) : ∃ ts, Tm.infers l g = (ts, 0) ∧ inferStep k s ts = (r, 0) := by
  rw [Tm.infer_else h1 h2] at h
  by_cases he : (Tm.infers l g).2 = 0
  · rw [if_neg (by simpa using he)] at h
    exact ⟨_, by rw [← he], h⟩
  · rw [if_pos he] at h
    simp at h
    exact absurd h.2 he
namespace T
theorem infer_ty (u : T) : u.wf = true → ∀ (g : List Ty) (s : Ty), (∀ x ∈ g, x.check = 0) → u.tm.infer g = (s, 0) → HasTy g.reverse u s := by
  induction u with
  | var i =>
    intro _ g s hg h
    rw [tm, Tm.infer_var] at h
    split at h
    · simp at h
    · rename_i hi
      simp at h
      refine .var ?_
      rw [List.getElem?_reverse (by omega)]
      rw [List.getElem?_eq_getElem (by omega)] at h ⊢
      simpa using h
  | lam t b ih =>
    intro hw g s hg h
    simp only [wf, Bool.and_eq_true, beq_iff_eq] at hw
    rw [tm, Tm.infer_lam] at h
    by_cases he : (b.tm.infer (g ++ [t])).2 = 0
    · rw [if_neg (by simpa using he)] at h
      obtain ⟨hc, rfl⟩ := okT_eq h
      have := ih hw.2 (g ++ [t]) (b.tm.infer (g ++ [t])).1 (fun x hx => by rcases List.mem_append.1 hx with hx | hx; exact hg x hx; simp at hx; rw [hx]; exact hw.1) (by rw [← he])
      rw [List.reverse_append] at this
      exact .lam this hc
    · rw [if_pos he] at h
      simp at h
      exact absurd h.2 he
  | app f a i1 i2 =>
    intro hw g s hg h
    simp only [wf, Bool.and_eq_true] at hw
    rw [tm, Tm.node] at h
    obtain ⟨ts, h1, h2⟩ := infer_zero (by omega) (by omega) h
    obtain ⟨t, ts, rfl, q1, h1⟩ := infers_zero h1
    obtain ⟨t', ts, rfl, q2, h1⟩ := infers_zero h1
    have k1 := i1 hw.1 g t hg q1
    have k2 := i2 hw.2 g t' hg q2
    simp [inferStep] at h2
    split at h2
    · simp at h2
    · rename_i hh
      simp at hh
      obtain ⟨p, q, rfl⟩ := fn_of (k1.good (fun x hx => hg x (List.mem_reverse.1 hx))).2 hh.1
      simp [Ty.fn, Ty.args] at h2 hh
      have := (Ty.same_iff _ _).1 hh
      subst this
      rw [← h2]
      exact .app k1 k2
  | zero => intro _ g s hg h; rw [tm, Tm.node] at h; obtain ⟨ts, _, h2⟩ := infer_zero (by omega) (by omega) h; simp [inferStep] at h2; rw [← h2]; exact .zero
  | succ n i1 =>
    intro hw g s hg h
    simp only [wf] at hw
    rw [tm, Tm.node] at h
    obtain ⟨ts, h1, h2⟩ := infer_zero (by omega) (by omega) h
    obtain ⟨t, ts, rfl, q1, h1⟩ := infers_zero h1
    have k1 := i1 hw g t hg q1
    simp [inferStep] at h2
    split at h2
    · simp at h2
    · rename_i hh
      simp at hh
      have := (Ty.same_iff _ _).1 hh
      subst this
      simp at h2
      rw [← h2]
      exact .succ k1
  | recN t b f n i1 i2 i3 =>
    intro hw g s hg h
    simp only [wf, Bool.and_eq_true, beq_iff_eq] at hw
    rw [tm, Tm.tnode] at h
    obtain ⟨ts, h1, h2⟩ := infer_zero (by omega) (by omega) h
    obtain ⟨t1, ts, rfl, q1, h1⟩ := infers_zero h1
    obtain ⟨t2, ts, rfl, q2, h1⟩ := infers_zero h1
    obtain ⟨t3, ts, rfl, q3, h1⟩ := infers_zero h1
    have k1 := i1 hw.1.1.2 g t1 hg q1
    have k2 := i2 hw.1.2 g t2 hg q2
    have k3 := i3 hw.2 g t3 hg q3
    simp [inferStep] at h2
    split at h2
    · simp at h2
    · rename_i hh
      simp at hh
      have e1 := (Ty.same_iff _ _).1 hh.1
      have e2 := (Ty.same_iff _ _).1 hh.2.1
      have e3 := (Ty.same_iff _ _).1 hh.2.2
      simp at h2
      subst e1 e2 e3 h2
      exact .recN k1 k2 k3 hw.1.1.1
  | nil => intro _ g s hg h; rw [tm, Tm.node] at h; obtain ⟨ts, _, h2⟩ := infer_zero (by omega) (by omega) h; simp [inferStep] at h2; rw [← h2]; exact .nil
  | cons a b i1 i2 =>
    intro hw g s hg h
    simp only [wf, Bool.and_eq_true] at hw
    rw [tm, Tm.node] at h
    obtain ⟨ts, h1, h2⟩ := infer_zero (by omega) (by omega) h
    obtain ⟨t1, ts, rfl, q1, h1⟩ := infers_zero h1
    obtain ⟨t2, ts, rfl, q2, h1⟩ := infers_zero h1
    have k1 := i1 hw.1 g t1 hg q1
    have k2 := i2 hw.2 g t2 hg q2
    simp [inferStep] at h2
    split at h2
    · simp at h2
    · rename_i hh
      simp at hh
      have e1 := (Ty.same_iff _ _).1 hh.1
      have e2 := (Ty.same_iff _ _).1 hh.2
      simp at h2
      subst e1 e2 h2
      exact .cons k1 k2
  | fold t b f n i1 i2 i3 =>
    intro hw g s hg h
    simp only [wf, Bool.and_eq_true, beq_iff_eq] at hw
    rw [tm, Tm.tnode] at h
    obtain ⟨ts, h1, h2⟩ := infer_zero (by omega) (by omega) h
    obtain ⟨t1, ts, rfl, q1, h1⟩ := infers_zero h1
    obtain ⟨t2, ts, rfl, q2, h1⟩ := infers_zero h1
    obtain ⟨t3, ts, rfl, q3, h1⟩ := infers_zero h1
    have k1 := i1 hw.1.1.2 g t1 hg q1
    have k2 := i2 hw.1.2 g t2 hg q2
    have k3 := i3 hw.2 g t3 hg q3
    simp [inferStep] at h2
    split at h2
    · simp at h2
    · rename_i hh
      simp at hh
      have e1 := (Ty.same_iff _ _).1 hh.1
      have e2 := (Ty.same_iff _ _).1 hh.2.1
      have e3 := (Ty.same_iff _ _).1 hh.2.2
      simp at h2
      subst e1 e2 e3 h2
      exact .fold k1 k2 k3 hw.1.1.1
  | pair a b i1 i2 =>
    intro hw g s hg h
    simp only [wf, Bool.and_eq_true] at hw
    rw [tm, Tm.node] at h
    obtain ⟨ts, h1, h2⟩ := infer_zero (by omega) (by omega) h
    obtain ⟨t1, ts, rfl, q1, h1⟩ := infers_zero h1
    obtain ⟨t2, ts, rfl, q2, h1⟩ := infers_zero h1
    have k1 := i1 hw.1 g t1 hg q1
    have k2 := i2 hw.2 g t2 hg q2
    simp [inferStep] at h2
    obtain ⟨hc, rfl⟩ := okT_eq h2
    exact .pair k1 k2 hc
  | fst p i1 =>
    intro hw g s hg h
    simp only [wf] at hw
    rw [tm, Tm.node] at h
    obtain ⟨ts, h1, h2⟩ := infer_zero (by omega) (by omega) h
    obtain ⟨t, ts, rfl, q1, h1⟩ := infers_zero h1
    have k1 := i1 hw g t hg q1
    simp [inferStep] at h2
    split at h2
    · rename_i hh
      obtain ⟨p, q, rfl⟩ := pair_of (k1.good (fun x hx => hg x (List.mem_reverse.1 hx))).2 hh
      simp [Ty.pair, Ty.args] at h2
      rw [← h2]
      exact .fst k1
    · simp at h2
  | snd p i1 =>
    intro hw g s hg h
    simp only [wf] at hw
    rw [tm, Tm.node] at h
    obtain ⟨ts, h1, h2⟩ := infer_zero (by omega) (by omega) h
    obtain ⟨t, ts, rfl, q1, h1⟩ := infers_zero h1
    have k1 := i1 hw g t hg q1
    simp [inferStep] at h2
    split at h2
    · rename_i hh
      obtain ⟨p, q, rfl⟩ := pair_of (k1.good (fun x hx => hg x (List.mem_reverse.1 hx))).2 hh
      simp [Ty.pair, Ty.args] at h2
      rw [← h2]
      exact .snd k1
    · simp at h2
  | unit => intro _ g s hg h; rw [tm, Tm.node] at h; obtain ⟨ts, _, h2⟩ := infer_zero (by omega) (by omega) h; simp [inferStep] at h2; rw [← h2]; exact .unit
end T
theorem ctx_app {g : List Ty} {t : Ty} (hg : ∀ x ∈ g, x.check = 0) (ht : t.check = 0) : ∀ x ∈ g ++ [t], x.check = 0 := fun x hx => by
  rcases List.mem_append.1 hx with hx | hx
  · exact hg x hx
  · simp at hx; rw [hx]; exact ht
theorem infer_check {t : Tm} {g : List Ty} (hok : t.ok = true) (hg : ∀ x ∈ g, x.check = 0) (h : (t.infer g).2 = 0) : (t.infer g).1.check = 0 := by
  obtain ⟨u, rfl⟩ := T.of_ok t hok
  have := T.infer_ty u (by rw [← T.tm_ok]; exact hok) g (u.tm.infer g).1 hg (by rw [← h])
  exact (this.good fun x hx => hg x (List.mem_reverse.1 hx)).2
def Tm.typed (t : Tm) (g : List Ty) : Ty × Int := if t.check ≠ 0 then (.zero, t.check) else t.infer g
def Tm.eqs : List Tm → List Ty → Int
  | [], _ => 0
  | x :: l, g => if (x.typed g).2 ≠ 0 then (x.typed g).2 else if (x.typed g).1.kind ≠ 1 then 7 else Tm.eqs l g
mutual
def Fm.typ : Fm → List Ty → Int
  | .mk k t m l, g => if Tm.eqs m g ≠ 0 then Tm.eqs m g else Fm.typs l (if fmQ k = true then g ++ [t] else g)
def Fm.typs : List Fm → List Ty → Int
  | [], _ => 0
  | x :: l, g => if x.typ g ≠ 0 then x.typ g else Fm.typs l g
end
theorem Fm.typ_mk (k : Int) (t : Ty) (m : List Tm) (l : List Fm) (g : List Ty) : (Fm.mk k t m l).typ g = if Tm.eqs m g ≠ 0 then Tm.eqs m g else Fm.typs l (if fmQ k = true then g ++ [t] else g) := by rw [Fm.typ]
@[simp] theorem Fm.typs_nil (g : List Ty) : Fm.typs [] g = 0 := by rw [Fm.typs]
theorem Fm.typs_cons (x : Fm) (l : List Fm) (g : List Ty) : Fm.typs (x :: l) g = if x.typ g ≠ 0 then x.typ g else Fm.typs l g := by rw [Fm.typs]
def Fm.belowT (f : Fm) (g : List Ty) : Int := if f.check ≠ 0 then f.check else f.typ g
def Fm.typed (f : Fm) (g : List Ty) : Int := if ctxCheck g ≠ 0 then ctxCheck g else f.belowT g
theorem checks_all (g : List Ty) : checks g = 0 → ∀ x ∈ g, x.check = 0 := by
  induction g with
  | nil => intro _ x hx; simp at hx
  | cons y g ih =>
    rw [checks]
    split
    · rename_i hy
      intro h x hx
      rcases List.mem_cons.1 hx with rfl | hx
      · exact hy
      · exact ih h x hx
    · rename_i hy; exact fun h => absurd h hy
theorem ctx_checks {g : List Ty} (h : ctxCheck g = 0) : ∀ x ∈ g, x.check = 0 := by
  unfold ctxCheck at h
  split at h
  · cases h
  · exact checks_all g h
end Go.Proofs.YtnpgbkldpdogjaaGreatDoor.V

set_option maxRecDepth 100000
namespace Go.Proofs.YtnpgbkldpdogjaaGreatDoor.V
open Go Go.Proofs
theorem opP_sliceCap {C : Cfg} {dst : Option Nat} {ty t : TypeId} {k : St → Prop} {st : St} {x hi mx : Operand} {d : TyD} {e : TypeId} {de : TyD} {o : Own} {es : List (List Cell)} {kk kk' : IntKind} {n : Int} (h1 : C.T t = some d) (h2 : d.k = .slice e) (h3 : C.T e = some de) (hx : oper C st.env x = .one (.slice o de.size es)) (hh : oper C st.env hi = .one (.int kk n)) (hm : oper C st.env mx = .one (.int kk' n)) (hn0 : 0 ≤ n) (hn1 : n ≤ es.length)
    (hk : k (put st dst (.one (.slice .full de.size (es.take n.toNat))))) : opP C dst (.slice t x none (some hi) (some mx)) ty k st := by
  have e0 : opP C dst (.slice t x none (some hi) (some mx)) ty k st = opV C ⟨dst, .slice t x none (some hi) (some mx), ty, "", #[], none⟩ k st := rfl
  rw [e0]
  simp only [opV, opR]
  exact ⟨_, ⟨d, e, de, o, de.size, es, h1, h2, h3, rfl, hx, by simp [sliceR, hh, hm, hn0, hn1]⟩, hk⟩
@[simp] theorem erC_comp : erC ∘ erC = erC := funext erC_erC
theorem typed_check {k i : Int} {s : Ty} {l : List Tm} (h : (Tm.mk k i s l).ok = true) (hk : tmTyped k = true) : s.check = 0 := by
  simp only [Tm.ok_mk, Bool.and_eq_true, Tm.head, hk] at h
  simpa using h.1.2
theorem shape2 {i : Int} {s : Ty} {l : List Tm} (h : (Tm.mk 2 i s l).ok = true) : ∃ x, l = [x] ∧ x.ok = true ∧ s.check = 0 := by
  simp only [Tm.ok_mk, Bool.and_eq_true, Tm.oks_iff, Tm.head] at h
  obtain ⟨⟨⟨⟨h1, _⟩, _⟩, h3⟩, h2⟩ := h
  simp [tmArity] at h1
  simp [tmTyped] at h3
  match l, h1 with
  | [x], _ => exact ⟨x, rfl, h2 x (by simp), h3⟩
def infApp (ts : List Ty) (r : List Ty × Int) : List Ty × Int := if r.2 ≠ 0 then ([], r.2) else (ts ++ r.1, 0)
theorem infApp_nil (r : List Ty × Int) (h : r.2 ≠ 0 → r.1 = []) : infApp [] r = r := by
  unfold infApp
  split
  · rename_i hr; rw [← h hr]
  · rename_i hr; simp at hr; rw [← hr]; try rfl
theorem Tm.infers_err (l : List Tm) (g : List Ty) : (Tm.infers l g).2 ≠ 0 → (Tm.infers l g).1 = [] := by
  cases l with
  | nil => intro h; simp at h
  | cons x l =>
    rw [Tm.infers_cons]
    split
    · intro _; rfl
    · split
      · intro _; rfl
      · intro h; simp at h
def i152 (t : Tm) (l : List Tm) (g : List Ty) (σ : List Frm) (j : Nat) : St → Prop
  | ⟨env, loc, σ', live⟩ => ∃ ow ts, env 0 = .one (.slice .no 2 (g.map enc)) ∧ env 3 = .one (.box σ.length 3 0 0) ∧ env 4 = .one (.box σ.length 4 0 0) ∧ env 8 = .one (.slice ow 2 (ts.map enc)) ∧ env 67 = .one (.slice .no 5 (l.map encT)) ∧ env 68 = .one (.int .i64 l.length) ∧ env 69 = .one (.int .i64 j) ∧
    loc 3 = [encT t] ∧ loc 4 = [z25] ∧ σ' = σ ∧ okOwn live ow ∧ ts.length = j ∧ Tm.infers l g = infApp ts (Tm.infers (l.drop j) g) ∧ ∀ x ∈ ts, x.check = 0
theorem c152 (t : Tm) : t.ok = true → ∀ (g : List Ty), (∀ x ∈ g, x.check = 0) → t.size + Ty.sizes g ≤ 549755813888 → ∀ (σ : List Frm), CallsV cfg 152 [.one (.slice .no 2 (g.map enc)), .agg (encT t)] σ (.val (enc2 (t.infer g))) σ := by
  induction t using Tm.ind with
  | _ k i s l ih =>
  intro hok g hg hsz σ
  have hlg := Ty.length_le g
  obtain ⟨hi0, hpo⟩ := Tm.ok_parts hok
  refine w152 (by simp [enc2]) ?_
  rw [s152]
  by_cases hk : k = 1
  · subst hk
    rw [var_shape hok, Tm.infer_var]
    by_cases h : (g.length : Int) ≤ i
    · simp [h, enc2, Tm.var, Ty.zero]
    · have hlt : g.length - 1 - i.toNat < g.length := by omega
      obtain ⟨x, hx, _, hm⟩ := drop_cons hlt
      have hxs := Ty.sizes_mem hm
      have e : g.getD (g.length - 1 - i.toNat) .zero = x := by rw [List.getD_eq_getElem?_getD, hx]; try rfl
      rw [e]
      have hn : ((g.length : Int) - 1 - i).toNat = g.length - 1 - i.toNat := by omega
      simp [h, Tm.var]
      rw [wrap_id (n := (g.length : Int) - 1) (by omega) (by omega), wrap_id (by omega) (by omega)]
      simp [hn, hx]
      refine ⟨by omega, ?_⟩
      refine opV_call (c79 x (by omega) _) (by simp) ?_
      simp [enc2]
  by_cases hk2 : k = 2
  · subst hk2
    obtain ⟨x, rfl, hx, hsc⟩ := shape2 hok
    simp at hsz
    have hin : (Tm.mk 2 i s [x]).infer g = if (x.infer (g ++ [s])).2 ≠ 0 then (.zero, (x.infer (g ++ [s])).2) else okT (.fn s (x.infer (g ++ [s])).1) := by rw [Tm.infer, if_neg (by omega), if_pos rfl, Tm.inferh]
    rw [hin]
    have hgs := ctx_app hg hsc
    have hck := infer_check hx hgs
    simp
    refine wpP_draw (fun _ _ _ => false) ?_
    simp
    refine opP_sliceCap (o := .no) (es := g.map enc) (kk := .i64) (kk' := .i64) (n := (g.length : Int)) T27 rfl T30 (by simp) (by simp) (by simp) (by omega) (by simp) ?_
    have htk : (g.map enc).take g.length = g.map enc := List.take_of_length_le (by simp)
    simp [htk]
    refine ⟨by omega, by omega, ?_⟩
    refine stepD_call (ih x (by simp) hx (g ++ [s]) hgs (by simp; omega) _) (by simp) ?_
    by_cases he : (x.infer (g ++ [s])).2 = 0
    · have h64 := (Ty.check_iff.1 (hck he)).2
      simp [enc2, he]
      refine opV_call (c78 s (x.infer (g ++ [s])).1 (by omega) (by omega) _) (by simp) ?_
      simp
      refine opV_call (c164 (.fn s (x.infer (g ++ [s])).1) (by simp [Ty.fn]; omega) _) (by simp [Ty.fn]) ?_
      simp [enc2]
    · have he' : ((x.infer (g ++ [s])).2 == 0) = false := by simpa using he
      simp [enc2, he, he', bne, Ty.zero]
  have hlen := Tm.length_le l
  simp at hsz
  rw [Tm.infer_else hk hk2]
  simp [hk, hk2]
  refine wpP_range l.length (i152 (.mk k i s l) l g σ) (by omega) ⟨.full, [], by simp, by simp, by simp, by simp, by simp, by simp, by simp, by simp, by simp [z25], rfl, by simp, rfl, by simp [infApp_nil _ (Tm.infers_err l g)], by simp⟩ ?_ ?_ (hend := ?_)
  · rintro j ⟨env, loc, σ', live⟩ ⟨ow, ts, e0, e3, e4, e8, e67, e68, e69, h3, h4, rfl, how, htl, hinf, hts⟩
    exact ⟨e69, e68⟩
  · rintro j ⟨env, loc, σ', live⟩ hj ⟨ow, ts, e0, e3, e4, e8, e67, e68, e69, h3, h4, rfl, how, htl, hinf, hts⟩
    obtain ⟨x, hx, hd, hm⟩ := drop_cons hj
    have := Tm.sizes_mem hm
    have hck := infer_check (hpo x hm) hg
    rw [hd, Tm.infers_cons] at hinf
    simp [e0, e3, e4, e8, e67, e68, e69, h3, h4, hx]
    refine opV_call (ih x hm (hpo x hm) g hg (by omega) _) (by simp) ?_
    by_cases he : (x.infer g).2 = 0
    rotate_left
    · have he' : ((x.infer g).2 == 0) = false := by simpa using he
      rw [if_pos he] at hinf
      have hI : (Tm.infers l g).2 = (x.infer g).2 := by rw [hinf]; simp [infApp, he]
      simp [enc2, e0, e3, e4, e8, e67, e68, e69, h3, h4, he, he', bne, Ty.zero, z25, hI]
    · have hx0 := hck he
      simp [enc2, e0, e3, e4, e8, e67, e68, e69, h3, h4, he, how]
      refine ⟨by omega, by omega, .tip live.nx, ts ++ [(x.infer g).1], by simp, by simp, by simp, by simp, by simp, by simp, by simp, by simp [h3], by simp [h4], rfl, grown_on, by simp [htl], ?_, ?_⟩
      · rw [hinf, if_neg (by simpa using he)]
        by_cases h0 : (Tm.infers (l.drop (j + 1)) g).2 = 0
        · simp [infApp, h0]
        · simp [infApp, h0]
      · intro y hy
        rcases List.mem_append.1 hy with hy | hy
        · exact hts y hy
        · simp at hy; rw [hy]; exact hx0
  · rintro ⟨env, loc, σ', live⟩ ⟨ow, ts, e0, e3, e4, e8, e67, e68, e69, h3, h4, rfl, how, htl, hinf, hts⟩
    rw [List.drop_length, Tm.infers_nil] at hinf
    simp [infApp] at hinf
    have hz : ∀ x ∈ ts, x.size ≤ 64 := fun x hx => (Ty.check_iff.1 (hts x hx)).2
    have hn1 := Ty.nat_size
    rw [hinf]
    simp [e0, e3, e4, e8, h3, h4]
    refine opV_call (c32 _) (by simp) ?_
    simp [e0, e3, e4, e8, h3, h4]
    refine opV_call (c48 _) (by simp) ?_
    simp [e0, e3, e4, e8, h3, h4]
    obtain ⟨u, hu⟩ := T.of_ok _ hok
    cases u with
    | var n => simp only [T.tm, Tm.var] at hu; cases hu; exact absurd rfl hk
    | lam a b => simp only [T.tm, Tm.tnode] at hu; cases hu; exact absurd rfl hk2
    | app f a =>
      simp only [T.tm, Tm.node] at hu
      cases hu
      obtain ⟨p, q, rfl⟩ : ∃ p q, ts = [p, q] := by
        match ts, htl with
        | [p, q], _ => exact ⟨p, q, rfl⟩
      have hp := hts p (by simp)
      have hpz := hz p (by simp)
      have hqz := hz q (by simp)
      obtain ⟨pk, pl⟩ := p
      by_cases h : pk = 4
      · subst h
        obtain ⟨a', b', hab⟩ := fn_of hp rfl
        rw [Ty.fn] at hab
        cases hab
        simp at hpz
        refine wpP_draw (fun _ _ _ => false) ?_
        simp [e0, e3, e4, e8, h3, h4, z25]
        refine stepD_call (c49 a' q (by omega) _) (by simp) ?_
        cases hs : Ty.same a' q with
        | true => simp [e0, e3, e4, e8, h3, h4, z25, inferStep, Ty.kind, Ty.args, hs, enc2]
        | false => simp [e0, e3, e4, e8, h3, h4, z25, inferStep, Ty.kind, Ty.args, hs, enc2, Ty.zero]
      · have h' : (pk == 4) = false := by simpa using h
        refine wpP_draw (fun _ _ _ => false) ?_
        simp [e0, e3, e4, e8, h3, h4, z25, inferStep, h, h', Ty.kind, enc2, Ty.zero, bne]
    | zero =>
      simp only [T.tm, Tm.node] at hu
      cases hu
      simp [e0, e3, e4, e8, h3, h4, z25, inferStep, enc2, Ty.nat]
    | succ n =>
      simp only [T.tm, Tm.node] at hu
      cases hu
      obtain ⟨p, rfl⟩ : ∃ p, ts = [p] := by
        match ts, htl with
        | [p], _ => exact ⟨p, rfl⟩
      have hpz := hz p (by simp)
      refine wpP_draw (fun _ _ _ => false) ?_
      simp [e0, e3, e4, e8, h3, h4, z25]
      refine stepD_call (c49 p .nat (by omega) _) (by simp [Ty.nat]) ?_
      cases s1 : Ty.same p .nat with
      | false => simp [e0, e3, e4, e8, h3, h4, z25, inferStep, s1, enc2, Ty.zero]
      | true =>
        simp [e0, e3, e4, e8, h3, h4, z25, inferStep, s1, enc2]
        simp [Ty.nat]
    | recN a b f n =>
      simp only [T.tm, Tm.tnode] at hu
      cases hu
      obtain ⟨p, q, r, rfl⟩ : ∃ p q r, ts = [p, q, r] := by
        match ts, htl with
        | [p, q, r], _ => exact ⟨p, q, r, rfl⟩
      have hpz := hz p (by simp)
      have hqz := hz q (by simp)
      have hrz := hz r (by simp)
      refine wpP_draw (fun _ _ _ => false) ?_
      simp [e0, e3, e4, e8, h3, h4, z25]
      refine stepD_call (c49 p s (by omega) _) (by simp) ?_
      cases s1 : Ty.same p s with
      | false => simp [e0, e3, e4, e8, h3, h4, z25, inferStep, s1, enc2, Ty.zero]
      | true =>
        simp [e0, e3, e4, e8, h3, h4, z25]
        refine stepD_call (c78 s s (by omega) (by omega) _) (by simp) ?_
        simp
        refine stepD_call (c78 .nat (.fn s s) (by simp) (by simp; omega) _) (by simp [Ty.nat, Ty.fn]) ?_
        simp
        refine stepD_call (c49 q (.fn .nat (.fn s s)) (by omega) _) (by simp [Ty.nat, Ty.fn]) ?_
        cases s2 : Ty.same q (.fn .nat (.fn s s)) with
        | false => simp [e0, e3, e4, e8, h3, h4, z25, inferStep, s1, s2, enc2, Ty.zero]
        | true =>
          simp [e0, e3, e4, e8, h3, h4, z25]
          refine stepD_call (c49 r .nat (by omega) _) (by simp [Ty.nat]) ?_
          cases s3 : Ty.same r .nat with
          | false => simp [e0, e3, e4, e8, h3, h4, z25, inferStep, s1, s2, s3, enc2, Ty.zero]
          | true =>
            simp [e0, e3, e4, e8, h3, h4, z25, inferStep, s1, s2, s3]
            refine opV_call (c79 s (by omega) _) (by simp) ?_
            simp [e0, e3, e4, e8, h3, h4, z25, enc2]
    | nil =>
      simp only [T.tm, Tm.node] at hu
      cases hu
      simp [e0, e3, e4, e8, h3, h4, z25, inferStep, enc2, Ty.list]
    | cons a b =>
      simp only [T.tm, Tm.node] at hu
      cases hu
      obtain ⟨p, q, rfl⟩ : ∃ p q, ts = [p, q] := by
        match ts, htl with
        | [p, q], _ => exact ⟨p, q, rfl⟩
      have hpz := hz p (by simp)
      have hqz := hz q (by simp)
      refine wpP_draw (fun _ _ _ => false) ?_
      simp [e0, e3, e4, e8, h3, h4, z25]
      refine stepD_call (c49 p .nat (by omega) _) (by simp [Ty.nat]) ?_
      cases s1 : Ty.same p .nat with
      | false => simp [e0, e3, e4, e8, h3, h4, z25, inferStep, s1, enc2, Ty.zero]
      | true =>
        simp [e0, e3, e4, e8, h3, h4, z25]
        refine stepD_call (c49 q .list (by omega) _) (by simp [Ty.list]) ?_
        cases s2 : Ty.same q .list with
        | false => simp [e0, e3, e4, e8, h3, h4, z25, inferStep, s1, s2, enc2, Ty.zero]
        | true =>
          simp [e0, e3, e4, e8, h3, h4, z25, inferStep, s1, s2, enc2]
          simp [Ty.list]
    | fold a b f n =>
      simp only [T.tm, Tm.tnode] at hu
      cases hu
      have hs64 := (Ty.check_iff.1 (typed_check hok rfl)).2
      obtain ⟨p, q, r, rfl⟩ : ∃ p q r, ts = [p, q, r] := by
        match ts, htl with
        | [p, q, r], _ => exact ⟨p, q, r, rfl⟩
      have hpz := hz p (by simp)
      have hqz := hz q (by simp)
      have hrz := hz r (by simp)
      refine wpP_draw (fun _ _ _ => false) ?_
      simp [e0, e3, e4, e8, h3, h4, z25]
      refine stepD_call (c49 p s (by omega) _) (by simp) ?_
      cases s1 : Ty.same p s with
      | false => simp [e0, e3, e4, e8, h3, h4, z25, inferStep, s1, enc2, Ty.zero]
      | true =>
        simp [e0, e3, e4, e8, h3, h4, z25]
        refine stepD_call (c78 s s (by omega) (by omega) _) (by simp) ?_
        simp
        refine stepD_call (c78 .list (.fn s s) (by simp [Ty.list]) (by simp; omega) _) (by simp [Ty.list, Ty.fn]) ?_
        simp
        refine stepD_call (c78 .nat (.fn .list (.fn s s)) (by simp) (by simp [Ty.list]; omega) _) (by simp [Ty.nat, Ty.list, Ty.fn]) ?_
        simp
        refine stepD_call (c49 q (.fn .nat (.fn .list (.fn s s))) (by omega) _) (by simp [Ty.nat, Ty.list, Ty.fn]) ?_
        cases s2 : Ty.same q (.fn .nat (.fn .list (.fn s s))) with
        | false => simp [e0, e3, e4, e8, h3, h4, z25, inferStep, s1, s2, enc2, Ty.zero]
        | true =>
          simp [e0, e3, e4, e8, h3, h4, z25]
          refine stepD_call (c49 r .list (by omega) _) (by simp [Ty.list]) ?_
          cases s3 : Ty.same r .list with
          | false => simp [e0, e3, e4, e8, h3, h4, z25, inferStep, s1, s2, s3, enc2, Ty.zero]
          | true =>
            simp [e0, e3, e4, e8, h3, h4, z25, inferStep, s1, s2, s3]
            refine opV_call (c79 s (by omega) _) (by simp) ?_
            simp [e0, e3, e4, e8, h3, h4, z25, enc2]
    | pair a b =>
      simp only [T.tm, Tm.node] at hu
      cases hu
      obtain ⟨p, q, rfl⟩ : ∃ p q, ts = [p, q] := by
        match ts, htl with
        | [p, q], _ => exact ⟨p, q, rfl⟩
      have hpz := hz p (by simp)
      have hqz := hz q (by simp)
      refine wpP_draw (fun _ _ _ => false) ?_
      simp [e0, e3, e4, e8, h3, h4, z25]
      refine stepD_call (c77 p q (by omega) (by omega) _) (by simp) ?_
      simp
      refine stepD_call (c164 (.pair p q) (by simp [Ty.pair]; omega) _) (by simp [Ty.pair]) ?_
      simp [e0, e3, e4, e8, h3, h4, z25, inferStep, enc2]
    | fst p =>
      simp only [T.tm, Tm.node] at hu
      cases hu
      obtain ⟨p, rfl⟩ : ∃ p, ts = [p] := by
        match ts, htl with
        | [p], _ => exact ⟨p, rfl⟩
      have hp := hts p (by simp)
      obtain ⟨pk, pl⟩ := p
      by_cases h : pk = 3
      · subst h
        obtain ⟨a', b', hab⟩ := pair_of hp rfl
        rw [Ty.pair] at hab
        cases hab
        simp [e0, e3, e4, e8, h3, h4, z25, inferStep, Ty.kind, Ty.args, enc2]
      · have h' : (pk == 3) = false := by simpa using h
        simp [e0, e3, e4, e8, h3, h4, z25, inferStep, h, h', Ty.kind, enc2, Ty.zero, bne]
    | snd p =>
      simp only [T.tm, Tm.node] at hu
      cases hu
      obtain ⟨p, rfl⟩ : ∃ p, ts = [p] := by
        match ts, htl with
        | [p], _ => exact ⟨p, rfl⟩
      have hp := hts p (by simp)
      obtain ⟨pk, pl⟩ := p
      by_cases h : pk = 3
      · subst h
        obtain ⟨a', b', hab⟩ := pair_of hp rfl
        rw [Ty.pair] at hab
        cases hab
        simp [e0, e3, e4, e8, h3, h4, z25, inferStep, Ty.kind, Ty.args, enc2]
      · have h' : (pk == 3) = false := by simpa using h
        simp [e0, e3, e4, e8, h3, h4, z25, inferStep, h, h', Ty.kind, enc2, Ty.zero, bne]
    | unit =>
      simp only [T.tm, Tm.node] at hu
      cases hu
      simp [e0, e3, e4, e8, h3, h4, z25, inferStep]
      refine opV_call (c76 _) (by simp) ?_
      simp [e0, e3, e4, e8, h3, h4, z25, enc2, Ty.unit]
end Go.Proofs.YtnpgbkldpdogjaaGreatDoor.V

set_option maxRecDepth 100000
namespace Go.Proofs.YtnpgbkldpdogjaaGreatDoor.V
open Go Go.Proofs
theorem c131 (t : Tm) (g : List Ty) (hg : ∀ x ∈ g, x.check = 0) (hsz : t.size + Ty.sizes g ≤ 549755813888) (σ : List Frm) : CallsV cfg 131 [.one (.slice .no 2 (g.map enc)), .agg (encT t)] σ (.val (enc2 (t.typed g))) σ := by
  refine w131 (by simp [enc2]) ?_
  rw [s131]
  simp
  refine opV_call (c57 t (by omega) _) (by simp) ?_
  by_cases hc : t.check = 0
  · have hok := (Tm.check_ok hc).1
    simp [hc]
    refine opV_call (c152 t hok g hg hsz _) (by simp) ?_
    simp [Tm.typed, hc, enc2]
  · have hc' : (t.check == 0) = false := by simpa using hc
    simp [hc, hc', bne, Tm.typed, enc2, Ty.zero]
def i103a (f : Fm) (m : List Tm) (g : List Ty) (σ : List Frm) (j : Nat) : St → Prop
  | ⟨env, loc, σ', _⟩ => env 0 = .one (.slice .no 2 (g.map enc)) ∧ env 3 = .one (.box σ.length 3 0 0) ∧ env 13 = .one (.slice .no 5 (m.map encT)) ∧ env 14 = .one (.int .i64 m.length) ∧ env 15 = .one (.int .i64 j) ∧ loc 3 = [encF f] ∧ σ' = σ ∧ Tm.eqs m g = Tm.eqs (m.drop j) g
def i103b (l : List Fm) (g : List Ty) (σ : List Frm) (j : Nat) : St → Prop
  | ⟨env, _, σ', _⟩ => ∃ ow, erC (.slice ow 2 (g.map enc)) = .slice .no 2 (g.map enc) ∧ env 0 = .one (.slice ow 2 (g.map enc)) ∧ env 46 = .one (.slice .no 5 (l.map encF)) ∧ env 47 = .one (.int .i64 l.length) ∧ env 48 = .one (.int .i64 j) ∧ σ' = σ ∧ Fm.typs l g = Fm.typs (l.drop j) g
theorem c103 (f : Fm) : f.ok = true → ∀ (g : List Ty), (∀ x ∈ g, x.check = 0) → f.size + Ty.sizes g ≤ 549755813888 → ∀ (σ : List Frm), CallsV cfg 103 [.one (.slice .no 2 (g.map enc)), .agg (encF f)] σ (.val (.one (.int .i64 (f.typ g)))) σ := by
  induction f using Fm.ind with
  | _ k t m l ih =>
  intro hok g hg hsz σ
  simp at hsz
  have hlm := Tm.length_le m
  have hll := Fm.length_le l
  have hlg := Ty.length_le g
  obtain ⟨hmo, hlo⟩ := Fm.ok_parts hok
  refine w103 (by simp) ?_
  rw [s103, Fm.typ_mk]
  simp
  refine wpP_range m.length (i103a (.mk k t m l) m g σ) (by omega) ⟨by simp, by simp, by simp, by simp, by simp, by simp, rfl, by simp⟩ ?_ ?_ (hend := ?_)
  · rintro j ⟨env, loc, σ', live⟩ ⟨e0, e3, e13, e14, e15, h3, rfl, hq⟩
    exact ⟨e15, e14⟩
  · rintro j ⟨env, loc, σ', live⟩ hj ⟨e0, e3, e13, e14, e15, h3, rfl, hq⟩
    obtain ⟨x, hx, hd, hm⟩ := drop_cons hj
    have := Tm.sizes_mem hm
    rw [hd, Tm.eqs] at hq
    simp [e0, e3, e13, e14, e15, h3, hx]
    refine opV_call (c131 x g hg (by omega) _) (by simp) ?_
    by_cases h1 : (x.typed g).2 = 0
    rotate_left
    · have h1' : ((x.typed g).2 == 0) = false := by simpa using h1
      rw [if_pos h1] at hq
      simp [enc2, h1, h1', bne, hq]
    rw [if_neg (by simpa using h1)] at hq
    simp [enc2, h1, e0, e3, e13, e14, e15, h3]
    by_cases h2 : (x.typed g).1.kind = 1
    · rw [if_neg (by simpa using h2)] at hq
      simp [h2, e0, e3, e13, e14, e15, h3]
      exact ⟨by simp, by simp, by simp, by simp, by simp, by simp [h3], rfl, hq⟩
    · have h2' : ((x.typed g).1.kind == 1) = false := by simpa using h2
      rw [if_pos h2] at hq
      simp [h2, h2', bne, hq]
  · rintro ⟨env, loc, σ', live⟩ ⟨e0, e3, e13, e14, e15, h3, rfl, hq⟩
    have hq0 : Tm.eqs m g = 0 := by rw [hq, List.drop_length, Tm.eqs]
    simp only [hq0, if_true, ne_eq, not_true_eq_false, if_false]
    simp [e0, e3, h3]
    refine opV_call (c118 k _) (by simp) ?_
    cases hk : fmQ k with
    | false =>
      simp [e0, e3, h3]
      refine wpP_range l.length (i103b l g σ') (by omega) ⟨.no, rfl, by simp, by simp, by simp, by simp, rfl, by simp⟩ ?_ ?_ (hend := ?_)
      · rintro j ⟨env, loc, σ', live⟩ ⟨ow, _, e0, e46, e47, e48, rfl, hq⟩
        exact ⟨e48, e47⟩
      · rintro j ⟨env, loc, σ', live⟩ hj ⟨ow, _, e0, e46, e47, e48, rfl, hq⟩
        obtain ⟨x, hx, hd, hm⟩ := drop_cons hj
        have := Fm.sizes_mem hm
        rw [hd, Fm.typs_cons] at hq
        simp [e0, e46, e47, e48, hx]
        refine opV_call (ih x hm (hlo x hm) g hg (by omega) _) (by simp) ?_
        by_cases h1 : x.typ g = 0
        · rw [if_neg (by simpa using h1)] at hq
          simp [h1, e0, e46, e47, e48]
          exact ⟨ow, rfl, by simp, by simp, by simp, by simp, rfl, hq⟩
        · have h1' : (x.typ g == 0) = false := by simpa using h1
          rw [if_pos h1] at hq
          simp [h1, h1', bne, hq]
      · rintro ⟨env, loc, σ', live⟩ ⟨ow, _, e0, e46, e47, e48, rfl, hq⟩
        rw [List.drop_length, Fm.typs_nil] at hq
        simp [hq]
    | true =>
      have hct : t.check = 0 := by
        rcases Fm.shape hok with ⟨rfl, _⟩ | ⟨h, _⟩ | ⟨_, h, _⟩
        · simp [fmQ] at hk
        · rcases h with rfl | rfl <;> simp [fmQ] at hk
        · exact h
      have hgt := ctx_app hg hct
      have htk : (g.map enc).take g.length = g.map enc := List.take_of_length_le (by simp)
      simp [e0, e3, h3]
      refine wpP_draw (fun _ _ _ => false) ?_
      simp [e0, e3, h3]
      refine opP_sliceCap (o := .no) (es := g.map enc) (kk := .i64) (kk' := .i64) (n := (g.length : Int)) T27 rfl T30 (by simp) (by simp) (by simp) (by omega) (by simp) ?_
      simp [htk, e0, e3, h3]
      refine ⟨by omega, by omega, ?_⟩
      refine wpP_range l.length (i103b l (g ++ [t]) σ') (by omega) ⟨.tip live.nx, rfl, by simp, by simp, by simp, by simp, rfl, by simp⟩ ?_ ?_ (hend := ?_)
      · rintro j ⟨env, loc, σ', live⟩ ⟨ow, _, e0, e46, e47, e48, rfl, hq⟩
        exact ⟨e48, e47⟩
      · rintro j ⟨env, loc, σ', live⟩ hj ⟨ow, _, e0, e46, e47, e48, rfl, hq⟩
        obtain ⟨x, hx, hd, hm⟩ := drop_cons hj
        have := Fm.sizes_mem hm
        rw [hd, Fm.typs_cons] at hq
        simp at e0
        simp [e0, e46, e47, e48, hx]
        refine opV_call (ih x hm (hlo x hm) (g ++ [t]) hgt (by simp; omega) _) (by simp) ?_
        by_cases h1 : x.typ (g ++ [t]) = 0
        · rw [if_neg (by simpa using h1)] at hq
          simp [h1, e0, e46, e47, e48]
          exact ⟨ow, rfl, by simp, by simp, by simp, by simp, rfl, hq⟩
        · have h1' : (x.typ (g ++ [t]) == 0) = false := by simpa using h1
          rw [if_pos h1] at hq
          simp [h1, h1', bne, hq]
      · rintro ⟨env, loc, σ', live⟩ ⟨ow, _, e0, e46, e47, e48, rfl, hq⟩
        rw [List.drop_length, Fm.typs_nil] at hq
        simp [hq]
theorem c55 (f : Fm) (g : List Ty) (hg : ∀ x ∈ g, x.check = 0) (hsz : f.size + Ty.sizes g ≤ 549755813888) (σ : List Frm) : CallsV cfg 55 [.one (.slice .no 2 (g.map enc)), .agg (encF f)] σ (.val (.one (.int .i64 (f.belowT g)))) σ := by
  refine w55 (by simp) ?_
  rw [s55]
  simp
  refine opV_call (c34 f (by omega) _) (by simp) ?_
  by_cases hc : f.check = 0
  · simp [hc]
    refine opV_call (c103 f (Fm.check_ok2 hc).1 g hg hsz _) (by simp) ?_
    simp [Fm.belowT, hc]
  · have hc' : (f.check == 0) = false := by simpa using hc
    simp [hc, hc', bne, Fm.belowT]
theorem c17 (f : Fm) (g : List Ty) (hsz : f.size + Ty.sizes g ≤ 549755813888) (σ : List Frm) : CallsV cfg 17 [.one (.slice .no 2 (g.map enc)), .agg (encF f)] σ (.val (.one (.int .i64 (f.typed g)))) σ := by
  refine w17 (by simp) ?_
  rw [s17]
  simp
  refine opV_call (c54 g (by omega) _) (by simp) ?_
  by_cases hc : ctxCheck g = 0
  · simp [hc]
    refine opV_call (c55 f g (ctx_checks hc) hsz _) (by simp) ?_
    simp [Fm.typed, hc]
  · have hc' : (ctxCheck g == 0) = false := by simpa using hc
    simp [hc, hc', bne, Fm.typed]
end Go.Proofs.YtnpgbkldpdogjaaGreatDoor.V

set_option maxRecDepth 100000
namespace Go.Proofs.YtnpgbkldpdogjaaGreatDoor.V
open Go Go.Proofs
theorem c41 (σ : List Frm) : CallsV cfg 41 [] σ (.val (.agg (encT (.node 13 [])))) σ := by
  refine w41 (by simp) ?_
  rw [s41]
  simp [Tm.node, Ty.zero]
theorem c71 (i : Int) (σ : List Frm) : CallsV cfg 71 [.one (.int .i64 i)] σ (.val (.agg (encT (.var i)))) σ := by
  refine w71 (by simp) ?_
  rw [s71]
  simp [Tm.var, Ty.zero]
theorem c91 (k : Int) (t : Tm) (σ : List Frm) : CallsV cfg 91 [.one (.int .i64 k), .agg (encT t)] σ (.val (.agg (encT (.node k [t])))) σ := by
  refine w91 (by simp) ?_
  rw [s91]
  simp [Tm.node, Ty.zero]
def i90 (l : List Tm) (σ : List Frm) (j : Nat) : St → Prop
  | ⟨env, _, σ', _⟩ => env 3 = .one (.int .i64 ((1 + Tm.counts (l.take j) : Nat) : Int)) ∧ env 7 = .one (.slice .no 5 (l.map encT)) ∧ env 8 = .one (.int .i64 l.length) ∧ env 9 = .one (.int .i64 j) ∧ σ' = σ
theorem c90 (t : Tm) : t.size ≤ 1099511627776 → ∀ (σ : List Frm), CallsV cfg 90 [.agg (encT t)] σ (.val (.one (.int .i64 t.count))) σ := by
  induction t using Tm.ind with
  | _ k i s l ih =>
  intro hsz σ
  simp at hsz
  have hlen := Tm.length_le l
  refine w90 (by simp) ?_
  rw [s90]
  simp
  refine wpP_range l.length (i90 l σ) (by omega) ⟨by simp, by simp, by simp, by simp, rfl⟩ ?_ ?_ (hend := ?_)
  · rintro j ⟨env, loc, σ', live⟩ ⟨h3, h7, h8, h9, hσ⟩
    exact ⟨h9, h8⟩
  · rintro j ⟨env, loc, σ', live⟩ hj ⟨h3, h7, h8, h9, hσ⟩
    obtain ⟨x, hx, hd, hmx⟩ := drop_cons hj
    have := Tm.sizes_mem hmx
    have h1 := Tm.counts_take hx
    have h2 := Tm.counts_take_le l (j + 1)
    have h4 := Tm.counts_le l
    simp [h3, h7, h8, h9, hx]
    refine opV_call (ih x hmx (by omega) _) (by simp) ?_
    simp
    rw [wrap_id (by omega) (by omega)]
    refine ⟨?_, by simp, by simp, by simp, hσ⟩
    simp [h1]
    omega
  · rintro ⟨env, loc, σ', live⟩ ⟨h3, h7, h8, h9, hσ⟩
    rw [List.take_length] at h3
    simp [h3, hσ]
def i125a (f : Fm) (l : List Tm) (σ : List Frm) (j : Nat) : St → Prop
  | ⟨env, loc, σ', _⟩ => env 1 = .one (.box σ.length 1 0 0) ∧ env 3 = .one (.int .i64 ((1 + Tm.counts (l.take j) : Nat) : Int)) ∧ env 9 = .one (.slice .no 5 (l.map encT)) ∧ env 10 = .one (.int .i64 l.length) ∧ env 11 = .one (.int .i64 j) ∧ loc 1 = [encF f] ∧ σ' = σ
def i125b (n : Nat) (l : List Fm) (σ : List Frm) (j : Nat) : St → Prop
  | ⟨env, _, σ', _⟩ => env 3 = .one (.int .i64 ((n + Fm.counts (l.take j) : Nat) : Int)) ∧ env 21 = .one (.slice .no 5 (l.map encF)) ∧ env 22 = .one (.int .i64 l.length) ∧ env 23 = .one (.int .i64 j) ∧ σ' = σ
theorem c125 (f : Fm) : f.size ≤ 1099511627776 → ∀ (σ : List Frm), CallsV cfg 125 [.agg (encF f)] σ (.val (.one (.int .i64 f.count))) σ := by
  induction f using Fm.ind with
  | _ k t m l ih =>
  intro hsz σ
  simp at hsz
  have hlm := Tm.length_le m
  have hll := Fm.length_le l
  have hcm := Tm.counts_le m
  have hcl := Fm.counts_le l
  refine w125 (by simp) ?_
  rw [s125]
  simp
  refine wpP_range m.length (i125a (.mk k t m l) m σ) (by omega) ⟨by simp, by simp, by simp, by simp, by simp, by simp, rfl⟩ ?_ ?_ (hend := ?_)
  · rintro j ⟨env, loc, σ', live⟩ ⟨h1, h3, h7, h8, h9, l1, hσ⟩
    exact ⟨h9, h8⟩
  · rintro j ⟨env, loc, σ', live⟩ hj ⟨h1, h3, h7, h8, h9, l1, rfl⟩
    obtain ⟨x, hx, hd, hmx⟩ := drop_cons hj
    have := Tm.sizes_mem hmx
    have e1 := Tm.counts_take hx
    have e2 := Tm.counts_take_le m (j + 1)
    simp [h1, h3, h7, h8, h9, hx]
    refine opV_call (c90 x (by omega) _) (by simp) ?_
    simp
    rw [wrap_id (by omega) (by omega)]
    refine ⟨by simp, ?_, by simp, by simp, by simp, by simp [l1], rfl⟩
    simp [e1]
    omega
  · rintro ⟨env, loc, σ', live⟩ ⟨h1, h3, h7, h8, h9, l1, rfl⟩
    rw [List.take_length] at h3
    simp [h1, h3, l1]
    refine wpP_range l.length (i125b (1 + Tm.counts m) l σ') (by omega) ⟨by simp, by simp, by simp, by simp, rfl⟩ ?_ ?_ (hend := ?_)
    · rintro j ⟨env, loc, σ', live⟩ ⟨h3, h7, h8, h9, hσ⟩
      exact ⟨h9, h8⟩
    · rintro j ⟨env, loc, σ', live⟩ hj ⟨h3, h7, h8, h9, hσ⟩
      obtain ⟨x, hx, hd, hmx⟩ := drop_cons hj
      have := Fm.sizes_mem hmx
      have e1 := Fm.counts_take hx
      have e2 := Fm.counts_take_le l (j + 1)
      simp [h3, h7, h8, h9, hx]
      refine opV_call (ih x hmx (by omega) _) (by simp) ?_
      simp
      rw [wrap_id (by omega) (by omega)]
      refine ⟨?_, by simp, by simp, by simp, hσ⟩
      simp [e1]
      omega
    · rintro ⟨env, loc, σ', live⟩ ⟨h3, h7, h8, h9, hσ⟩
      rw [List.take_length] at h3
      simp [h3, hσ]
def i39 (l : List Tm) (σ : List Frm) (j : Nat) : St → Prop
  | ⟨env, _, σ', _⟩ => env 9 = .one (.slice .no 5 (l.map encT)) ∧ env 10 = .one (.int .i64 l.length) ∧ env 11 = .one (.int .i64 j) ∧ σ' = σ ∧ Tm.leasts l 268435456 = Tm.leasts (l.drop j) 268435456
theorem c39 (t : Tm) : t.size ≤ 1099511627776 → ∀ (σ : List Frm), CallsV cfg 39 [.agg (encT t)] σ (.val (.one (.bool (!(t.least 268435456))))) σ := by
  induction t using Tm.ind with
  | _ k i s l ih =>
  intro hsz σ
  simp at hsz
  have hlen := Tm.length_le l
  refine w39 (by simp) ?_
  rw [s39, Tm.least_mk]
  by_cases hi : 268435456 < i
  · have hi' : ¬ i ≤ 268435456 := by omega
    simp [hi, hi']
  have hi' : i ≤ 268435456 := by omega
  simp [hi, hi']
  refine wpP_range l.length (i39 l σ) (by omega) ⟨by simp, by simp, by simp, rfl, by simp⟩ ?_ ?_ (hend := ?_)
  · rintro j ⟨env, loc, σ', live⟩ ⟨e9, e10, e11, rfl, hs⟩
    exact ⟨e11, e10⟩
  · rintro j ⟨env, loc, σ', live⟩ hj ⟨e9, e10, e11, rfl, hs⟩
    obtain ⟨x, hx, hdr, hm⟩ := drop_cons hj
    have := Tm.sizes_mem hm
    rw [hdr, Tm.leasts] at hs
    simp [e9, e10, e11, hx]
    refine opV_call (ih x hm (by omega) _) (by simp) ?_
    cases hl : x.least 268435456 with
    | true =>
      rw [hl, Bool.true_and] at hs
      simp [e9, e10, e11]
      exact ⟨by simp, by simp, by simp, rfl, hs⟩
    | false =>
      rw [hl, Bool.false_and] at hs
      simp [hs]
  · rintro ⟨env, loc, σ', live⟩ ⟨e9, e10, e11, rfl, hs⟩
    rw [List.drop_length, Tm.leasts] at hs
    simp [hs]
theorem Tm.up_zero (t : Tm) : ∀ a, t.up a 0 = t := by
  induction t using Tm.ind with
  | _ k i s l ih =>
    intro a
    rw [Tm.up_mk]
    have e : (l.map fun x => x.up (if k = 2 then a + 1 else a) 0) = l.map id := List.map_congr_left fun x hx => ih x hx _
    rw [e, List.map_id]
    simp
def i94 (k i : Int) (s : Ty) (l : List Tm) (fr b : Int) (σ : List Frm) (j : Nat) : St → Prop
  | ⟨env, loc, σ', live⟩ => ∃ ow, env 1 = .one (.int .i64 fr) ∧ env 2 = .one (.int .i64 b) ∧ env 6 = .one (.box σ.length 6 0 0) ∧ env 7 = .one (.box σ.length 7 0 0) ∧ env 34 = .one (.slice .no 5 (l.map encT)) ∧ env 35 = .one (.int .i64 l.length) ∧ env 36 = .one (.int .i64 j) ∧
    loc 6 = [z62] ∧ loc 7 = [.int .i64 k :: .int .i64 i :: (enc s ++ [.slice ow 5 ((l.take j).map fun x => encT (x.up fr b))])] ∧ σ' = σ ∧ okOwn live ow
theorem c94 (t : Tm) : t.ok = true → t.size ≤ 549755813888 → ∀ (fr b m : Int), t.least m = true → 0 ≤ b → m + b ≤ 9223372036854775807 → 0 ≤ fr → fr + t.size ≤ 9223372036854775807 → ∀ (σ : List Frm),
    CallsV cfg 94 [.agg (encT t), .one (.int .i64 fr), .one (.int .i64 b)] σ (.val (.agg (encT (t.up fr b)))) σ := by
  induction t using Tm.ind with
  | _ k i s l ih =>
  intro hok hsz fr b m hle hb hmb hf0 hf1 σ
  simp at hsz hf1
  have hlen := Tm.length_le l
  obtain ⟨hi0, hpo⟩ := Tm.ok_parts hok
  obtain ⟨hi1, hpl⟩ := Tm.least_parts hle
  refine w94 (by simp) ?_
  rw [s94]
  by_cases hb0 : b = 0
  · subst hb0
    rw [Tm.up_zero]
    simp
  have hb0' : (b == 0) = false := by simpa using hb0
  by_cases hk : k = 1
  · subst hk
    have hv := var_shape hok
    rw [Tm.var] at hv
    cases hv
    rw [Tm.up_mk]
    by_cases h : fr ≤ i
    · simp [hb0, hb0', h]
      rw [wrap_id (by omega) (by omega)]
    · simp [hb0, hb0', h]
  have hk' : (k == 1) = false := by simpa using hk
  rw [Tm.up_mk, if_neg (fun h => hk h.1)]
  have hfr : k = 2 → IntKind.i64.wrap (fr + 1) = fr + 1 := fun _ => wrap_id (by omega) (by omega)
  rcases Decidable.em (k = 2) with hk2 | hk2
  all_goals
    simp [hb0, hb0', hk, hk', hk2]
    refine wpP_range l.length (i94 k i s l (if k = 2 then fr + 1 else fr) b σ) (by omega) ⟨.full, by first | (simp [hk2]; done) | (simpa [hk2] using hfr hk2) | simp [hk2], by simp, by simp, by simp, by simp, by simp, by simp, by simp [z62], by simp [splice, hk2], rfl, by simp⟩ ?_ ?_ (hend := ?_)
    · rintro j ⟨env, loc, σ', live⟩ ⟨ow, e1, e2, e6, e7, e34, e35, e36, h6, h7, rfl, how⟩
      exact ⟨e36, e35⟩
    · rintro j ⟨env, loc, σ', live⟩ hj ⟨ow, e1, e2, e6, e7, e34, e35, e36, h6, h7, rfl, how⟩
      obtain ⟨x, hx, hdr, hm⟩ := drop_cons hj
      have := Tm.sizes_mem hm
      have hx1 := x.size_pos
      simp [e1, e2, e6, e7, e34, e35, e36, hx]
      refine wpP_draw (fun _ _ _ => false) ?_
      simp [e1, e2, e6, e7, h6, h7]
      refine stepD_call (ih x hm (hpo x hm) (by omega) (if k = 2 then fr + 1 else fr) b m (hpl x hm) hb hmb (by split <;> omega) (by split <;> omega) _) (by simp) ?_
      simp [how, e1, e2, e6, e7, h6, h7]
      exact ⟨by omega, by omega, .tip live.nx, by simp, by simp, by simp, by simp, by simp, by simp, by simp, by simp [h6], by simp [List.take_add_one, hx, splice], rfl, grown_on⟩
    · rintro ⟨env, loc, σ', live⟩ ⟨ow, e1, e2, e6, e7, e34, e35, e36, h6, h7, rfl, how⟩
      simp [e6, e7, h6, h7, z62, hk2]
theorem c95 (t : Tm) (hok : t.ok = true) (hsz : t.size ≤ 549755813888) {m : Int} (hle : t.least m = true) (hm : m + 1 ≤ 9223372036854775807) (σ : List Frm) : CallsV cfg 95 [.agg (encT t)] σ (.val (.agg (encT (.node 3 [t.up 0 1, .var 0])))) σ := by
  refine w95 (by simp) ?_
  rw [s95]
  simp
  refine opV_call (c94 t hok hsz 0 1 m hle (by omega) (by omega) (by omega) (by omega) _) (by simp) ?_
  simp
  refine opV_call (c71 0 _) (by simp) ?_
  simp [Tm.node, Ty.zero]
def i149 (l : List Tm) (a : Int) (σ : List Frm) (j : Nat) : St → Prop
  | ⟨env, _, σ', _⟩ => env 1 = .one (.int .i64 a) ∧ env 5 = .one (.int .i64 (Tm.timess (l.take j) a)) ∧ env 23 = .one (.slice .no 5 (l.map encT)) ∧ env 24 = .one (.int .i64 l.length) ∧ env 25 = .one (.int .i64 j) ∧ σ' = σ
theorem c149 (t : Tm) : t.ok = true → t.size ≤ 549755813888 → ∀ (a : Int), 0 ≤ a → a + t.size ≤ 9223372036854775807 → ∀ (σ : List Frm), CallsV cfg 149 [.agg (encT t), .one (.int .i64 a)] σ (.val (.one (.int .i64 (t.times a)))) σ := by
  induction t using Tm.ind with
  | _ k i s l ih =>
  intro hok hsz a ha0 ha1 σ
  simp at hsz ha1
  have hlen := Tm.length_le l
  have hcl := Tm.counts_le l
  obtain ⟨hi0, hpo⟩ := Tm.ok_parts hok
  refine w149 (by simp) ?_
  rw [s149, Tm.times_mk]
  by_cases hk : k = 1 ∧ i = a
  · obtain ⟨rfl, rfl⟩ := hk
    have hv := var_shape hok
    rw [Tm.var] at hv
    cases hv
    simp [Tm.timess]
  have hkc : (if k = 1 ∧ i = a then (1 : Int) else 0) = 0 := if_neg hk
  rw [hkc, Int.zero_add]
  have hw : k = 2 → IntKind.i64.wrap (a + 1) = a + 1 := fun _ => wrap_id (by omega) (by omega)
  have hki : k = 1 → ¬ i = a := fun h1 h2 => hk ⟨h1, h2⟩
  have main : ∀ (A : Int) (env : Nat → PV) (loc : Frm) (live : Live), True := fun _ _ _ _ => trivial
  rcases Decidable.em (k = 2) with hk2 | hk2
  all_goals
    rcases Decidable.em (k = 1) with hk1 | hk1
  all_goals first
    | omega
    | skip
  all_goals
    simp [hk1, hk2, hki]
    refine wpP_range l.length (i149 l (if k = 2 then a + 1 else a) σ) (by omega) ⟨by first | (simp [hk2]; done) | (simpa [hk2] using hw hk2) | simp [hk2] | simp [hk1], by simp [Tm.timess], by simp, by simp, by simp, rfl⟩ ?_ ?_ (hend := ?_)
    · rintro j ⟨env, loc, σ', live⟩ ⟨e1, e5, e23, e24, e25, rfl⟩
      exact ⟨e25, e24⟩
    · rintro j ⟨env, loc, σ', live⟩ hj ⟨e1, e5, e23, e24, e25, rfl⟩
      obtain ⟨x, hx, hdr, hm⟩ := drop_cons hj
      have h1 := Tm.sizes_mem hm
      have ht := Tm.timess_take (if k = 2 then a + 1 else a) hx
      have hb1 := Tm.timess_le (l.take j) (if k = 2 then a + 1 else a)
      have hb2 := Tm.timess_le (l.take (j + 1)) (if k = 2 then a + 1 else a)
      have hb3 := Tm.counts_take_le l (j + 1)
      have hb4 := Tm.counts_take_le l j
      have hx1 := x.size_pos
      simp [e1, e5, e23, e24, e25, hx]
      refine opV_call (ih x hm (hpo x hm) (by omega) (if k = 2 then a + 1 else a) (by split <;> omega) (by split <;> omega) _) (by simp) ?_
      simp [e1, e5, e23, e24, e25]
      rw [wrap_id (by omega) (by omega)]
      exact ⟨by simp, by rw [ht]; simp, by simp, by simp, by simp, rfl⟩
    · rintro ⟨env, loc, σ', live⟩ ⟨e1, e5, e23, e24, e25, rfl⟩
      rw [List.take_length] at e5
      simp [e5, hk2, hk1]
def i151 (k i : Int) (s : Ty) (l : List Tm) (a d : Int) (u : Tm) (σ : List Frm) (j : Nat) : St → Prop
  | ⟨env, loc, σ', live⟩ => ∃ ow, env 1 = .one (.int .i64 a) ∧ env 2 = .one (.int .i64 d) ∧ env 7 = .one (.box σ.length 7 0 0) ∧ env 8 = .one (.box σ.length 8 0 0) ∧ env 9 = .one (.box σ.length 9 0 0) ∧ env 47 = .one (.slice .no 5 (l.map encT)) ∧ env 48 = .one (.int .i64 l.length) ∧ env 49 = .one (.int .i64 j) ∧
    loc 7 = [encT u] ∧ loc 8 = [z62] ∧ loc 9 = [.int .i64 k :: .int .i64 i :: (enc s ++ [.slice ow 5 ((l.take j).map fun x => encT (x.put a d u))])] ∧ σ' = σ ∧ okOwn live ow
theorem c151 (u : Tm) (huo : u.ok = true) (hus : u.size ≤ 549755813888) {mu : Int} (hul : u.least mu = true) (t : Tm) : t.ok = true → t.size ≤ 549755813888 → ∀ (a d : Int), t.least 9223372036854775807 = true → 0 ≤ a → 0 ≤ d → a + d + t.size + mu ≤ 9223372036854775807 → a + d + t.size ≤ 9223372036854775807 → ∀ (σ : List Frm),
    CallsV cfg 151 [.agg (encT t), .one (.int .i64 a), .one (.int .i64 d), .agg (encT u)] σ (.val (.agg (encT (t.put a d u)))) σ := by
  induction t using Tm.ind with
  | _ k i s l ih =>
  intro hok hsz a d hle ha hd hb1 hb2 σ
  simp at hsz hb1 hb2
  have hlen := Tm.length_le l
  obtain ⟨hi0, hpo⟩ := Tm.ok_parts hok
  obtain ⟨hi1, hpl⟩ := Tm.least_parts hle
  refine w151 (by simp) ?_
  rw [s151]
  by_cases hk : k = 1
  · subst hk
    have hv := var_shape hok
    rw [Tm.var] at hv
    cases hv
    rw [Tm.put_mk, if_pos rfl]
    by_cases h : i = a + d
    · subst h
      simp
      rw [wrap_id (by omega) (by omega)]
      simp
      refine opV_call (c94 u huo hus 0 (a + d) mu hul (by omega) (by omega) (by omega) (by omega) _) (by simp) ?_
      simp
    · by_cases h2 : a + d < i
      · simp
        rw [wrap_id (n := a + d) (by omega) (by omega)]
        simp [h, h2]
        rw [wrap_id (by omega) (by omega)]
        simp [splice, Tm.var]
      · simp
        rw [wrap_id (n := a + d) (by omega) (by omega)]
        simp [h, h2]
  have hk' : (k == 1) = false := by simpa using hk
  rw [Tm.put_mk, if_neg hk]
  have hfr : k = 2 → IntKind.i64.wrap (d + 1) = d + 1 := fun _ => wrap_id (by omega) (by omega)
  rcases Decidable.em (k = 2) with hk2 | hk2
  all_goals
    simp [hk, hk', hk2]
    refine wpP_range l.length (i151 k i s l a (if k = 2 then d + 1 else d) u σ) (by omega) ⟨.full, by simp, by first | (simp [hk2]; done) | (simpa [hk2] using hfr hk2) | simp [hk2], by simp, by simp, by simp, by simp, by simp, by simp, by simp, by simp [z62], by simp [splice, hk2], rfl, by simp⟩ ?_ ?_ (hend := ?_)
    · rintro j ⟨env, loc, σ', live⟩ ⟨ow, e1, e2, e7, e8, e9, e47, e48, e49, h7, h8, h9, rfl, how⟩
      exact ⟨e49, e48⟩
    · rintro j ⟨env, loc, σ', live⟩ hj ⟨ow, e1, e2, e7, e8, e9, e47, e48, e49, h7, h8, h9, rfl, how⟩
      obtain ⟨x, hx, hdr, hm⟩ := drop_cons hj
      have := Tm.sizes_mem hm
      have hx1 := x.size_pos
      simp [e1, e2, e7, e8, e9, e47, e48, e49, hx]
      refine wpP_draw (fun _ _ _ => false) ?_
      simp [e1, e2, e7, e8, e9, h7, h8, h9]
      refine stepD_call (ih x hm (hpo x hm) (by omega) a (if k = 2 then d + 1 else d) (hpl x hm) ha (by split <;> omega) (by split <;> omega) (by split <;> omega) _) (by simp) ?_
      simp [how, e1, e2, e7, e8, e9, h7, h8, h9]
      exact ⟨by omega, by omega, .tip live.nx, by simp, by simp, by simp, by simp, by simp, by simp, by simp, by simp, by simp [h7], by simp [h8], by simp [List.take_add_one, hx, splice], rfl, grown_on⟩
    · rintro ⟨env, loc, σ', live⟩ ⟨ow, e1, e2, e7, e8, e9, e47, e48, e49, h7, h8, h9, rfl, how⟩
      simp [e7, e8, e9, h7, h8, h9, z62, hk2]
end Go.Proofs.YtnpgbkldpdogjaaGreatDoor.V
