/-
Parts of the proof of one law, put together by program: part 7.
-/
import Derived.Test.YtcgmhnlmgomlgaaGreatDoorKC6
import Derived.Carry
import Derived.OpenShut
set_option linter.unusedSimpArgs false
set_option linter.unusedVariables false
set_option maxRecDepth 100000
namespace Go.Proofs.YtcgmhnlmgomlgaaGreatDoor.V
open Go Go.Proofs
mutual
def Tm.foldV (S : Int → Int → List Cell → List Cell) : Tm → Int → List Cell → List Cell
  | .mk k i _ l, d, c => Tm.foldVs S l (if k = 2 then d + 1 else d) (if k = 1 then S i d c else c)
def Tm.foldVs (S : Int → Int → List Cell → List Cell) : List Tm → Int → List Cell → List Cell
  | [], _, c => c
  | x :: l, d, c => Tm.foldVs S l d (x.foldV S d c)
end
theorem Tm.foldVs_take {S : Int → Int → List Cell → List Cell} {l : List Tm} {j : Nat} {x : Tm} (d : Int) (h : l[j]? = some x) : ∀ c, Tm.foldVs S (l.take (j + 1)) d c = x.foldV S d (Tm.foldVs S (l.take j) d c) := by
  induction l generalizing j with
  | nil => simp at h
  | cons y l ih =>
    intro c
    cases j with
    | zero => simp at h; subst h; simp [Tm.foldVs]
    | succ j =>
      have := ih (j := j) (by simpa using h) (y.foldV S d c)
      simp only [List.take_succ_cons, Tm.foldVs, this]
structure EX (σ : List Frm) (pc pf ps : Pl) (f : Nat) (caps : List Cell) : Prop where
  has : Has σ pc
  fn : cellsAt σ pf = some [.func f caps]
  self : cellsAt σ ps = some [.func 151 [pf.cell, ps.cell]]
  af : pf.apart pc
  ap : ps.apart pc
theorem EX.app {σ : List Frm} {pc pf ps : Pl} {f : Nat} {caps : List Cell} (h : EX σ pc pf ps f caps) (τ : List Frm) : EX (σ ++ τ) pc pf ps f caps :=
  ⟨h.has.app τ, by rw [cellsAt_append (cellsAt_lt h.fn)]; exact h.fn, by rw [cellsAt_append (cellsAt_lt h.self)]; exact h.self, h.af, h.ap⟩
def Does (f : Nat) (caps : List Cell) (pc : Pl) (S : Int → Int → List Cell → List Cell) (I : List Cell → Prop) (σ : List Frm) : Prop :=
  ∀ τ i d c, 0 ≤ i → i ≤ 9223372036854775807 → 0 ≤ d → d ≤ 4398046511104 → I c →
    CallsV cfg f ([.one (.int .i64 i), .one (.int .i64 d)] ++ caps.map fun c => .one (erC c)) (setC (σ ++ τ) pc c) (.val (.tup [])) (setC (σ ++ τ) pc (S i d c)) ∧ I (S i d c)
theorem Does.app {f : Nat} {caps : List Cell} {pc : Pl} {S : Int → Int → List Cell → List Cell} {I : List Cell → Prop} {σ : List Frm} (h : Does f caps pc S I σ) (ρ : List Frm) : Does f caps pc S I (σ ++ ρ) := fun τ i d c h1 h2 h3 h4 h5 => by
  rw [List.append_assoc]; exact h (ρ ++ τ) i d c h1 h2 h3 h4 h5
def i172ga (pc ps : Pl) (t : Tm) (c : List Cell) (d : Int) (σ : List Frm) : St → Prop
  | ⟨env, loc, σ', _⟩ => env 1 = .one (.int .i64 d) ∧ env 3 = .one ps.cell ∧ env 4 = .one (.box σ.length 4 0 0) ∧ loc 4 = [encT t] ∧ σ' = setC σ pc c
def i151g (S : Int → Int → List Cell → List Cell) (I : List Cell → Prop) (pc pf ps : Pl) (l : List Tm) (c : List Cell) (d : Int) (σ : List Frm) (j : Nat) : St → Prop
  | ⟨env, _, σ', _⟩ => env 1 = .one (.int .i64 d) ∧ env 3 = .one ps.cell ∧ env 22 = .one (.slice .no 5 (l.map encT)) ∧ env 23 = .one (.int .i64 l.length) ∧ env 24 = .one (.int .i64 j) ∧
    σ' = setC σ pc (Tm.foldVs S (l.take j) d c) ∧ I (Tm.foldVs S (l.take j) d c)
theorem c151g (S : Int → Int → List Cell → List Cell) (I : List Cell → Prop) {pc pf ps : Pl} {f : Nat} {caps : List Cell} (t : Tm) : ∀ {σ : List Frm}, EX σ pc pf ps f caps → Does f caps pc S I σ → t.ok = true → t.least 9223372036854775807 = true → ∀ (d : Int) (c : List Cell), 0 ≤ d → d + t.size ≤ 4398046511104 → I c →
    CallsV cfg 151 [.agg (encT t), .one (.int .i64 d), .one pf.cell, .one ps.cell] (setC σ pc c) (.val (.tup [])) (setC σ pc (t.foldV S d c)) ∧ I (t.foldV S d c) := by
  induction t using Tm.ind with
  | _ k i s l ih =>
  intro σ hX hS hok hle d c hd0 hd1 hI
  simp at hd1
  have hlen := Tm.length_le l
  have hsp := s.size_pos
  obtain ⟨hi0, hpo⟩ := Tm.ok_parts hok
  obtain ⟨hi1, hpl⟩ := Tm.least_parts hle
  have hne : ¬ pc.d = σ.length := by have := hX.has.lt; omega
  have hne2 : ¬ pf.d = σ.length := by have := cellsAt_lt hX.fn; omega
  have hne3 : ¬ ps.d = σ.length := by have := cellsAt_lt hX.self; omega
  obtain ⟨hb0, hb1⟩ := bump_le k
  have hone := hS [] i d c hi0 hi1 hd0 (by omega) hI
  have hI2 : I (if k = 1 then S i d c else c) := by split; exact hone.2; exact hI
  have hall : ∀ (m : List Tm), (∀ x ∈ m, x ∈ l) → ∀ c, I c → I (Tm.foldVs S m (d + bump k) c) := by
    intro m
    induction m with
    | nil => intro _ c hc; simpa [Tm.foldVs] using hc
    | cons x m ihm =>
      intro hm c hc
      have hx := hm x (by simp)
      have := Tm.sizes_mem hx
      rw [Tm.foldVs]
      exact ihm (fun y hy => hm y (by simp [hy])) _ (ih x hx hX hS (hpo x hx) (hpl x hx) (d + bump k) c (by omega) (by omega) hc).2
  have hfin : I ((Tm.mk k i s l).foldV S d c) := by
    rw [Tm.foldV, bump_eq]
    exact hall l (fun _ h => h) _ hI2
  refine ⟨?_, hfin⟩
  refine w151 (by simp) ?_
  rw [s151, Tm.foldV, bump_eq]
  generalize hc' : (if k = 1 then S i d c else c) = c' at hI2
  refine cut3 (i172ga pc ps (.mk k i s l) c' (d + bump k) σ) ?_ ?_
  · by_cases hk : k = 1
    · subst hk
      simp at hc'
      subst hc'
      simp [Pl.cell, readBox_set hX.fn hX.af, hne, hne2]
      refine opV_atF (f := f) (caps := caps) (ps := [.one (.int .i64 i), .one (.int .i64 d)]) (by simp) ((hS [_] i d c hi0 hi1 hd0 (by omega) hI).1) hX.has.lt (by simp) ?_
      simp
      exact ⟨by simp [bump], by simp [Pl.cell], by simp, by simp, by simp⟩
    · rw [if_neg hk] at hc'
      subst hc'
      by_cases hk2 : k = 2
      · subst hk2
        simp
        rw [wrap_id (by omega) (by omega)]
        exact ⟨by simp [bump], by simp, by simp, by simp, by simp⟩
      · simp [hk, hk2]
        exact ⟨by simp [bump, hk2], by simp, by simp, by simp, by simp⟩
  · rintro ⟨env, loc, σ', live⟩ ⟨e1, e3, e4, h4, rfl⟩
    simp [e1, e3, e4, h4]
    refine wpP_range l.length (i151g S I pc pf ps l c' (d + bump k) σ) (by omega) ⟨by simp, by simp, by simp, by simp, by simp, by simp [Tm.foldVs], by simpa [Tm.foldVs] using hI2⟩ ?_ ?_ (hend := ?_)
    · rintro j ⟨env, loc, σ', live⟩ ⟨e1, e3, e22, e23, e24, rfl, _⟩
      exact ⟨e24, e23⟩
    · rintro j ⟨env, loc, σ', live⟩ hj ⟨e1, e3, e22, e23, e24, rfl, hIj⟩
      obtain ⟨x, hx, hdr, hm⟩ := drop_cons hj
      have h1 := Tm.sizes_mem hm
      have ht := Tm.foldVs_take (S := S) (d + bump k) hx c'
      simp only [Pl.cell] at e3
      simp [e1, e3, e22, e23, e24, hx, readBox_set hX.self hX.ap, hne, hne3]
      obtain ⟨q1, q2⟩ := ih x hm (hX.app [_]) (hS.app [_]) (hpo x hm) (hpl x hm) (d + bump k) (Tm.foldVs S (l.take j) (d + bump k) c') (by omega) (by omega) hIj
      refine opV_atF (f := 151) (caps := [pf.cell, ps.cell]) (ps := [.agg (encT x), .one (.int .i64 (d + bump k))]) (by simp [Pl.cell]) q1 hX.has.lt (by simp) ?_
      simp [e1, e3, e22, e23, e24]
      exact ⟨by simp, by simp [Pl.cell], by simp, by simp, by simp, by rw [ht], by rw [ht]; exact q2⟩
    · rintro ⟨env, loc, σ', live⟩ ⟨e1, e3, e22, e23, e24, rfl, _⟩
      rw [List.take_length]
      simp [resPV]
theorem c136g (S : Int → Int → List Cell → List Cell) (I : List Cell → Prop) {σ : List Frm} {pc : Pl} {f : Nat} {caps : List Cell} (hH : Has σ pc) (hS : Does f caps pc S I σ) (t : Tm) (hsz : t.size ≤ 1099511627776) (hok : t.ok = true) (hle : t.least 9223372036854775807 = true) {c : List Cell} (hI : I c) :
    CallsV cfg 136 [.agg (encT t), .one (.func f caps)] (setC σ pc c) (.val (.tup [])) (setC σ pc (t.foldV S 0 c)) := by
  have hne : ¬ pc.d = σ.length := by have := hH.lt; omega
  refine w136 (by simp) ?_
  rw [s136]
  simp [onesOf]
  refine opV_atF (f := 151) (caps := [(⟨σ.length, 3, 0⟩ : Pl).cell, (⟨σ.length, 4, 0⟩ : Pl).cell]) (ps := [.agg (encT t), .one (.int .i64 0)]) (by simp [Pl.cell])
    (c151g S I t (f := f) (caps := caps) ⟨hH.app _, by simp [cellsAt], by simp [cellsAt, Pl.cell], .inl (fun h => hne h.symm), .inl (fun h => hne h.symm)⟩ (hS.app [_]) hok hle 0 c (by omega) (by omega) hI).1 hH.lt (by simp) ?_
  simp [resPV]
def nearS (i _ : Int) : List Cell → List Cell
  | [.bool b] => [.bool (b && decide (i ≤ 536870912))]
  | c => c
def isB (c : List Cell) : Prop := ∃ b, c = [.bool b]
theorem c137 {σ : List Frm} {pc : Pl} (hH : Has σ pc) : Does 137 [pc.cell] pc nearS isB σ := by
  rintro τ i d c hi0 hi1 hd0 hd1 ⟨b, rfl⟩
  refine ⟨?_, ⟨b && decide (i ≤ 536870912), rfl⟩⟩
  have hH' : Has (σ ++ τ) pc := hH.app τ
  have hne : ¬ pc.d = (σ ++ τ).length := by have := hH'.lt; omega
  generalize σ ++ τ = ρ at hH' hne
  refine w137 (by simp) ?_
  rw [s137]
  cases b with
  | true =>
    simp [Pl.cell, readBox_setC hH', hne]
    rw [writeBox_setC hH']
    simp [resPV, splice, nearS]
  | false =>
    simp [Pl.cell, readBox_setC hH', hne]
    rw [writeBox_setC hH']
    simp [resPV, splice, nearS]
theorem near_foldVs {l : List Tm} (h : ∀ x ∈ l, ∀ d b, x.foldV nearS d [.bool b] = [.bool (b && x.least 536870912)]) : ∀ d b, Tm.foldVs nearS l d [.bool b] = [.bool (b && Tm.leasts l 536870912)] := by
  induction l with
  | nil => intro d b; simp [Tm.foldVs, Tm.leasts]
  | cons x l ih =>
    intro d b
    rw [Tm.foldVs, h x (by simp), ih fun y hy => h y (by simp [hy]), Tm.leasts, Bool.and_assoc]
theorem near_foldV (t : Tm) : t.ok = true → ∀ d b, t.foldV nearS d [.bool b] = [.bool (b && t.least 536870912)] := by
  induction t using Tm.ind with
  | _ k i s l ih =>
    intro hok d b
    have hok' := hok
    simp only [Tm.ok_mk, Bool.and_eq_true, Tm.oks_iff] at hok
    rw [Tm.foldV, Tm.least_mk]
    by_cases hk : k = 1
    · rw [if_pos hk]
      show Tm.foldVs nearS l _ [.bool (b && decide (i ≤ 536870912))] = _
      rw [near_foldVs fun x hx => ih x hx (hok.2 x hx), Bool.and_assoc]
    · rw [if_neg hk, near_foldVs fun x hx => ih x hx (hok.2 x hx)]
      have hi : i = 0 := by
        have h := hok.1
        simp only [Tm.head, Bool.and_eq_true, Bool.or_eq_true, beq_iff_eq] at h
        rcases h.1.2 with h | h
        · exact h
        · exact absurd h hk
      subst hi
      simp
theorem near_call (t : Tm) (hsz : t.size ≤ 1099511627776) (hok : t.ok = true) (hle : t.least 9223372036854775807 = true) (σ : List Frm) {loc : Frm} {v : Nat} (hv : 0 < (loc v).length) :
    CallsV cfg 136 [.agg (encT t), .one (.func 137 [(⟨σ.length, v, 0⟩ : Pl).cell])] (setC (σ ++ [loc]) ⟨σ.length, v, 0⟩ [.bool true]) (.val (.tup [])) (setC (σ ++ [loc]) ⟨σ.length, v, 0⟩ [.bool (t.least 536870912)]) := by
  have h := c136g nearS isB (σ := σ ++ [loc]) (pc := ⟨σ.length, v, 0⟩) (Has.own hv) (c137 (Has.own hv)) t hsz hok hle (c := [.bool true]) ⟨true, rfl⟩
  rw [near_foldV t hok] at h
  simpa using h
theorem c114 (t : Tm) (hsz : t.size ≤ 1099511627776) (hok : t.ok = true) (hle : t.least 9223372036854775807 = true) (σ : List Frm) : CallsV cfg 114 [.agg (encT t)] σ (.val (.one (.bool (t.least 536870912)))) σ := by
  refine w114 (by simp) ?_
  rw [s114]
  simp [onesOf]
  refine opV_own2 (t := 3) (w := 0) (near_call t hsz hok hle σ (by simp)) (by simp) (by simp [Pl.cell]) ?_
  simp
theorem c128 (t : Tm) (hsz : t.size ≤ 1099511627776) (σ : List Frm) : CallsV cfg 128 [.agg (encT t)] σ (.val (.tup [.one (.int .i64 (if t.check = 0 then (t.count : Int) else 0)), .one (.int .i64 t.check)])) σ := by
  refine w128 (by simp) ?_
  rw [s128]
  simp
  refine opV_call (c149 t hsz _) (by simp) ?_
  unfold Tm.check
  cases hok : t.ok with
  | false => simp [Tm.nodes, hok]
  | true =>
    by_cases h : t.count ≤ 4096
    · have h' : ¬ ((4096 : Int) < t.count) := by omega
      simp [Tm.nodes, hok, h, h']
    · have h' : ((4096 : Int) < t.count) := by omega
      simp [Tm.nodes, hok, h, h']
theorem c96 (t : Tm) (hsz : t.size ≤ 1099511627776) (σ : List Frm) : CallsV cfg 96 [.agg (encT t)] σ (.val (.one (.int .i64 t.check))) σ := by
  refine w96 (by simp) ?_
  rw [s96]
  simp
  refine opV_call (c128 t hsz _) (by simp) ?_
  simp
end Go.Proofs.YtcgmhnlmgomlgaaGreatDoor.V

set_option maxRecDepth 100000
namespace Go.Proofs.YtcgmhnlmgomlgaaGreatDoor.V
open Go Go.Proofs
theorem c113 (n : Int) (σ : List Frm) : CallsV cfg 113 [.one (.int .i64 n)] σ (.val (.one (.bool (decide (0 ≤ n ∧ n ≤ 4096))))) σ := by
  refine w113 (by simp) ?_
  rw [s113]
  by_cases h4 : 0 ≤ n <;> by_cases h7 : n ≤ 4096 <;> simp [h4, h7]
theorem c78 (t : Tm) (hsz : t.size ≤ 549755813888) (hle : t.least 9223372036854775807 = true) (fr b : Int) (σ : List Frm) : CallsV cfg 78 [.agg (encT t), .one (.int .i64 fr), .one (.int .i64 b)] σ (.val (.tup [.agg (encT (t.liftT fr b).1), .one (.int .i64 (t.liftT fr b).2)])) σ := by
  refine w78 (by simp) ?_
  rw [s78]
  simp
  refine opV_call (c96 t (by omega) _) (by simp) ?_
  by_cases hc : t.check = 0
  rotate_left
  · have hc' : (t.check == 0) = false := by simpa using hc
    simp [hc, hc', bne, Tm.liftT, Tm.zeroT, Ty.zero]
  obtain ⟨hok, hcnt⟩ := Tm.check_ok hc
  simp [hc]
  refine opV_call (c113 fr _) (by simp) ?_
  by_cases h1 : fr < 0
  · have hw : decide (0 ≤ fr ∧ fr ≤ 4096) = false := by simp; omega
    simp [hc, h1, hw, Tm.liftT, Tm.zeroT, Ty.zero]
  by_cases h2 : 4096 < fr
  · have hw : decide (0 ≤ fr ∧ fr ≤ 4096) = false := by simp; omega
    simp [hc, h1, h2, hw, Tm.liftT, Tm.zeroT, Ty.zero]
  have hw : decide (0 ≤ fr ∧ fr ≤ 4096) = true := by simp; omega
  rw [hw]
  simp
  refine opV_call (c113 b _) (by simp) ?_
  by_cases h3 : b < 0
  · have hw : decide (0 ≤ b ∧ b ≤ 4096) = false := by simp; omega
    simp [hc, h1, h2, h3, hw, Tm.liftT, Tm.zeroT, Ty.zero]
  by_cases h4 : 4096 < b
  · have hw : decide (0 ≤ b ∧ b ≤ 4096) = false := by simp; omega
    simp [hc, h1, h2, h3, h4, hw, Tm.liftT, Tm.zeroT, Ty.zero]
  have hw2 : decide (0 ≤ b ∧ b ≤ 4096) = true := by simp; omega
  rw [hw2]
  simp
  refine opV_call (c114 t (by omega) hok hle _) (by simp) ?_
  simp [hc, h1, h2, h3, h4, Tm.liftT]
  cases hl : t.least 536870912 with
  | false => simp [Tm.zeroT, Ty.zero]
  | true =>
    simp
    refine opV_call (c115 t hsz hok hl fr b (by omega) (by omega) _) (by simp) ?_
    simp
end Go.Proofs.YtcgmhnlmgomlgaaGreatDoor.V

set_option maxRecDepth 100000
namespace Go.Proofs.YtcgmhnlmgomlgaaGreatDoor.V
open Go Go.Proofs
theorem c82 (k : Int) (l : List Fm) (σ : List Frm) : CallsV cfg 82 [.one (.int .i64 k), .one (.slice .no 5 (l.map encF))] σ (.val (.agg (encF (.mk k .zero [] l)))) σ := by
  refine w82 (by simp) ?_
  rw [s82]
  simp [Ty.zero]
theorem c80 (k : Int) (s : Ty) (f : Fm) (σ : List Frm) : CallsV cfg 80 [.one (.int .i64 k), .agg (enc s), .agg (encF f)] σ (.val (.agg (encF (.q k s f)))) σ := by
  refine w80 (by simp) ?_
  rw [s80]
  simp [Fm.q]
theorem c29 (all : Bool) (t : Tm) (f : Fm) (ht : t.size ≤ 17179869184) (hf : f.size ≤ 17179869184) (hle : t.least 9223372036854775807 = true) (σ : List Frm) : CallsV cfg 29 [.one (.bool all), .agg (encT t), .agg (encF f)] σ (.val (.tup [.agg (encF (bounded all t f).1), .one (.int .i64 (bounded all t f).2)])) σ := by
  refine w29 (by simp) ?_
  rw [s29]
  simp
  refine opV_call (c78 t (by omega) hle 0 1 _) (by simp) ?_
  unfold bounded
  by_cases hl : (t.liftT 0 1).2 = 0
  rotate_left
  · have hl' : ((t.liftT 0 1).2 == 0) = false := by simpa using hl
    simp [hl, hl', bne, Fm.zeroF, Ty.zero]
  have hcl : t.check = 0 ∧ t.liftT 0 1 = (t.up 0 1, 0) := by
    unfold Tm.liftT at hl ⊢
    by_cases h1 : t.check = 0
    · rw [if_neg (by simpa using h1)] at hl ⊢
      split at hl
      · cases hl
      · rename_i h; rw [if_neg h]; exact ⟨h1, rfl⟩
    · rw [if_pos h1] at hl; exact absurd hl h1
  obtain ⟨hc, he⟩ := hcl
  rw [he]
  simp
  refine opV_call (c54 f (by omega) _) (by simp) ?_
  by_cases hd : f.check = 0
  rotate_left
  · have hd' : (f.check == 0) = false := by simpa using hd
    simp [hd, hd', bne, Fm.zeroF, Ty.zero]
  have hus := Tm.up_size t 0 1
  generalize t.up 0 1 = u at *
  have hbz := bform_size all u f
  simp [hd]
  refine opV_call (c79 all _) (by simp) ?_
  simp
  refine wpP_draw (fun _ _ _ => false) ?_
  simp
  refine stepD_call (c81 _) (by simp) ?_
  simp
  refine stepD_call (c84 0 _) (by simp) ?_
  simp
  refine stepD_call (c83 (.var 0) u _) (by simp) ?_
  simp
  refine stepD_call (c58 f (by omega) _) (by simp) ?_
  simp
  refine stepD_call (c82 (if all = true then 3 else 2) [less (.var 0) u, f] _) (by simp) ?_
  simp
  refine stepD_call (c80 (if all = true then 4 else 5) .nat (.mk (if all = true then 3 else 2) .zero [] [less (.var 0) u, f]) _) (by simp) ?_
  have e : Fm.q (if all = true then 4 else 5) .nat (.mk (if all = true then 3 else 2) .zero [] [less (.var 0) u, f]) = bform all u f := rfl
  rw [e]
  simp
  refine opV_call (c54 (bform all u f) (by omega) _) (by simp) ?_
  by_cases h : (bform all u f).check = 0
  · simp [h]
  · have h' : ((bform all u f).check == 0) = false := by simpa using h
    simp [h, h', bne, Fm.zeroF, Ty.zero]
end Go.Proofs.YtcgmhnlmgomlgaaGreatDoor.V

set_option maxRecDepth 100000
namespace Go.Proofs.YtcgmhnlmgomlgaaGreatDoor.V
open Go Go.Proofs
theorem c115g (t : Tm) (hsz : t.size ≤ 549755813888) (hlo : t.low = true) (hle : t.least 536870912 = true) (b : Int) (hr : t.reb (liftG 0 b) 0 = t.up 0 b) (hb0 : -1099511627776 ≤ b) (hb1 : b ≤ 1099511627776) (σ : List Frm) : CallsV cfg 115 [.agg (encT t), .one (.int .i64 0), .one (.int .i64 b)] σ (.val (.agg (encT (t.up 0 b)))) σ := by
  refine w115 (by simp) ?_
  rw [s115]
  simp [onesOf]
  refine opV_call (c122 (liftG 0 b) (f := 138) (caps := [(⟨σ.length, 4, 0⟩ : Pl).cell, (⟨σ.length, 5, 0⟩ : Pl).cell]) (c138 (fr := 0) (b := b) (by simp [cellsAt]) (by simp [cellsAt]) hb0 hb1 (by omega)) t hsz hlo hle) (by simp [Pl.cell]) ?_
  rw [hr]
  simp
def putG (a : Int) (s : Tm) (i d : Int) : Tm := if i - d = a then s.up 0 (a + d) else if a < i - d then .var (i - 1) else .var i
theorem c123 {σ : List Frm} {pa ps : Pl} {a m : Int} {s : Tm} (ha : cellsAt σ pa = some [.int .i64 a]) (hs : cellsAt σ ps = some (encT s)) (ha0 : 0 ≤ a) (ha1 : a ≤ 4096) (hm : m ≤ 9223372036854775807) (hsz : s.size ≤ 549755813888) (hlo : s.low = true) (hle : s.least 536870912 = true) (hr : ∀ b, s.reb (liftG 0 b) 0 = s.up 0 b) :
    Answers 123 [pa.cell, ps.cell] (putG a s) m σ := by
  intro τ i d hi0 hi1 hd0 hd1
  have ha' : cellsAt (σ ++ τ) pa = some [.int .i64 a] := by rw [cellsAt_append (cellsAt_lt ha)]; exact ha
  have hs' : cellsAt (σ ++ τ) ps = some (encT s) := by rw [cellsAt_append (cellsAt_lt hs)]; exact hs
  generalize σ ++ τ = ρ at ha' hs'
  have h1 : ¬ pa.d = ρ.length := by have := cellsAt_lt ha'; omega
  have h2 : ¬ ps.d = ρ.length := by have := cellsAt_lt hs'; omega
  refine w123 (by simp) ?_
  rw [s123]
  simp [Pl.cell]
  rw [wrap_id (by omega) (by omega)]
  by_cases h : i - d = a
  · have hb : (i - d == a) = true := by simpa using h
    simp [h, hb, readBox_at ha', readBox_at hs', h1, h2]
    rw [wrap_id (by omega) (by omega)]
    refine opV_call (c115g s hsz hlo hle (a + d) (hr _) (by omega) (by omega) _) (by simp) ?_
    simp [putG, h]
  · have hb : (i - d == a) = false := by simpa using h
    by_cases h3 : a < i - d
    · simp [h, hb, h3, readBox_at ha', h1]
      rw [wrap_id (by omega) (by omega)]
      refine opV_call (c84 (i - 1) _) (by simp) ?_
      simp [putG, h, h3]
    · simp [h, hb, h3, readBox_at ha', h1]
      refine opV_call (c84 i _) (by simp) ?_
      simp [putG, h, h3]
theorem reb_put (a : Int) (s : Tm) (t : Tm) : t.ok = true → ∀ d, t.reb (putG a s) d = t.put a d s := by
  induction t using Tm.ind with
  | _ k i y l ih =>
    intro hok d
    by_cases hk : k = 1
    · subst hk
      rw [var_shape hok, Tm.var, Tm.reb_mk, Tm.put_mk, if_pos rfl, if_pos rfl]
      unfold putG
      by_cases h : i = a + d
      · rw [if_pos (by omega), if_pos h]
      · rw [if_neg (by omega), if_neg h]
        by_cases h2 : a + d < i
        · rw [if_pos (by omega), if_pos h2]
        · rw [if_neg (by omega), if_neg h2]; try rfl
    · have h2 := hok
      simp only [Tm.ok_mk, Bool.and_eq_true, Tm.oks_iff] at h2
      rw [Tm.reb_mk, Tm.put_mk, if_neg hk, if_neg hk]
      have e : (l.map fun x => x.reb (putG a s) (if k = 2 then d + 1 else d)) = l.map fun x => x.put a (if k = 2 then d + 1 else d) s := List.map_congr_left fun x hx => ih x hx (h2.2 x hx) _
      rw [e]
theorem c86 (t : Tm) (hsz : t.size ≤ 549755813888) (hok : t.ok = true) (hle : t.least 9223372036854775807 = true) (a : Int) (ha0 : 0 ≤ a) (ha1 : a ≤ 4096) (s : Tm) (hss : s.size ≤ 549755813888) (hlo : s.low = true) (hsl : s.least 536870912 = true) (hr : ∀ b, s.reb (liftG 0 b) 0 = s.up 0 b) (σ : List Frm) :
    CallsV cfg 86 [.agg (encT t), .one (.int .i64 a), .agg (encT s)] σ (.val (.agg (encT (t.put a 0 s)))) σ := by
  refine w86 (by simp) ?_
  rw [s86]
  simp [onesOf]
  refine opV_call (c122 (putG a s) (f := 123) (caps := [(⟨σ.length, 4, 0⟩ : Pl).cell, (⟨σ.length, 5, 0⟩ : Pl).cell]) (m := 9223372036854775807) (c123 (a := a) (s := s) (by simp [cellsAt]) (by simp [cellsAt]) ha0 ha1 (by omega) hss hlo hsl hr) t hsz (Tm.low_ok t hok) hle) (by simp [Pl.cell]) ?_
  rw [reb_put a s t hok]
  simp
end Go.Proofs.YtcgmhnlmgomlgaaGreatDoor.V

set_option maxRecDepth 100000
namespace Go.Proofs.YtcgmhnlmgomlgaaGreatDoor.V
open Go Go.Proofs
theorem zeroT_reb (G : Int → Int → Tm) (d : Int) : Tm.zeroT.reb G d = .zeroT := by simp [Tm.zeroT, Tm.reb_mk]
theorem zeroT_up (a b : Int) : Tm.zeroT.up a b = .zeroT := by simp [Tm.zeroT, Tm.up_mk]
def Fm.boundE (f : Fm) : Bool × Tm × Fm × Bool :=
  if f.check ≠ 0 then (false, .zeroT, .zeroF, false) else if f.bound.2.2.2 = false then (false, .zeroT, .zeroF, false)
  else (f.bound.1, f.bound.2.1.put 0 0 .zeroT, f.bound.2.2.1, true)
theorem bound_parts {f : Fm} (hok : f.ok = true) {m : Int} (hle : f.least m = true) (h : f.bound.2.2.2 = true) : f.bound.2.1.ok = true ∧ f.bound.2.1.least m = true ∧ f.bound.2.1.size ≤ f.size ∧ f.bound.2.2.1.size ≤ f.size := by
  obtain ⟨k, t, n, l⟩ := f
  rcases Fm.shape hok with ⟨rfl, rfl⟩ | ⟨hk, y, x, rfl, hy, hx⟩ | ⟨hk, ht, x, rfl, hx⟩
  · rw [bound_no (by omega) (by omega)] at h; cases h
  · rw [bound_no (by omega) (by omega)] at h; cases h
  obtain ⟨z, j, t2, m2, u, h1, h2, rfl, h4⟩ := bound_isB hx h
  have hb : (Fm.mk k t n [.mk j t2 m2 [less (.var 0) u, z]]).bound.2.1 = u ∧ (Fm.mk k t n [.mk j t2 m2 [less (.var 0) u, z]]).bound.2.2.1 = z := by
    obtain ⟨all, hkj⟩ : ∃ (all : Bool), (k = 4 ∧ all = true ∧ j = 3) ∨ (k = 5 ∧ all = false ∧ j = 2) := by
      rcases h1 with ⟨rfl, rfl⟩ | ⟨rfl, rfl⟩
      · exact ⟨true, .inl ⟨rfl, rfl, rfl⟩⟩
      · exact ⟨false, .inr ⟨rfl, rfl, rfl⟩⟩
    rw [bound_q hkj] at h ⊢
    split at h
    · cases h
    · rename_i q1
      split at h
      · cases h
      · rename_i q2
        rw [if_neg q1, if_neg q2]
        simp [Fm.kid, Fm.kids, less, Fm.eq, Fm.tms, Tm.app2, Tm.app, Tm.node, Tm.kid, Tm.kids]
  rw [hb.1, hb.2]
  have hlo := (Fm.ok_parts hx).2 (less (.var 0) u) (by simp)
  have hto := (Fm.ok_parts (k := 1) (t := .zero) (m := [.app2 .sub (.node 5 [.var 0]) u, .node 4 []]) (l := []) hlo).1 (.app2 .sub (.node 5 [.var 0]) u) (by simp)
  have huo := (Tm.ok_parts (k := 3) (i := 0) (t := .zero) (l := [.app .sub (.node 5 [.var 0]), u]) hto).2 u (by simp)
  have hxl := (Fm.least_parts hle).2 (.mk j t2 m2 [less (.var 0) u, z]) (by simp)
  have hll := (Fm.least_parts hxl).2 (less (.var 0) u) (by simp)
  have htl := (Fm.least_parts (k := 1) (t := .zero) (a := [.app2 .sub (.node 5 [.var 0]) u, .node 4 []]) (l := []) hll).1 (.app2 .sub (.node 5 [.var 0]) u) (by simp)
  have hul := (Tm.least_parts (k := 3) (i := 0) (t := .zero) (l := [.app .sub (.node 5 [.var 0]), u]) htl).2 u (by simp)
  have hz := less_size' (.var 0) u
  refine ⟨huo, hul, ?_, ?_⟩ <;> simp <;> omega
theorem c30 (f : Fm) (hsz : f.size ≤ 549755813888) (hle : f.least 9223372036854775807 = true) (σ : List Frm) : CallsV cfg 30 [.agg (encF f)] σ (.val (encB f.boundE)) σ := by
  refine w30 (by simp [encB]) ?_
  rw [s30]
  simp
  refine opV_call (c54 f (by omega) _) (by simp) ?_
  by_cases hc : f.check = 0
  rotate_left
  · have hc' : (f.check == 0) = false := by simpa using hc
    simp [hc, hc', bne, Fm.boundE, encB, Tm.zeroT, Fm.zeroF, Ty.zero, resPV]
  obtain ⟨hok, _⟩ := Fm.check_ok2 hc
  simp [hc]
  refine opV_call (c85 f hsz hok hle _) (by simp) ?_
  have hp := bound_parts hok hle
  unfold Fm.boundE
  rw [hc]
  generalize f.bound = B at *
  simp [encB]
  cases hB : B.2.2.2 with
  | false => simp [Tm.zeroT, Fm.zeroF, Ty.zero, resPV]
  | true =>
    obtain ⟨p1, p2, p3, p4⟩ := hp hB
    simp
    refine wpP_draw (fun _ t _ => decide (t = 3 ∨ t = 4)) ?_
    simp
    refine stepD_call (c86 B.2.1 (by omega) p1 p2 0 (by omega) (by omega) .zeroT (by simp [Tm.zeroT, Ty.zero]) (by simp [Tm.zeroT, Tm.low, Tm.lows]) (by simp [Tm.zeroT, Tm.least, Tm.leasts]) (fun b => by rw [zeroT_reb, zeroT_up]) _) (by simp [Tm.zeroT, Ty.zero]) ?_
    simp
    refine stepD_call (c58 B.2.2.1 (by omega) _) (by simp) ?_
    simp [resPV]
end Go.Proofs.YtcgmhnlmgomlgaaGreatDoor.V

namespace Go.Proofs.YtcgmhnlmgomlgaaGreatDoor.V
open Go
theorem up_put (s : Tm) (t : Tm) : t.ok = true → ∀ a d, (t.up (a + d) 1).put a d s = t := by
  induction t using Tm.ind with
  | _ k i y l ih =>
    intro hok a d
    rw [Tm.up_mk]
    by_cases hk : k = 1
    · subst hk
      have e := var_shape hok
      rw [Tm.var] at e
      cases e
      by_cases h : a + d ≤ i
      · have h1 : (if (1 : Int) = 1 ∧ a + d ≤ i then i + 1 else i) = i + 1 := if_pos ⟨rfl, h⟩
        rw [h1, Tm.put_mk, if_pos rfl, if_neg (by omega), if_pos (by omega), Tm.var, show i + 1 - 1 = i by omega]
      · have h1 : (if (1 : Int) = 1 ∧ a + d ≤ i then i + 1 else i) = i := if_neg fun x => h x.2
        rw [h1, Tm.put_mk, if_pos rfl, if_neg (by omega), if_neg (by omega)]
        try rfl
    · have h2 := hok
      simp only [Tm.ok_mk, Bool.and_eq_true, Tm.oks_iff] at h2
      have hk' : ¬ (k = 1 ∧ a + d ≤ i) := fun h => hk h.1
      rw [Tm.put_mk, if_neg hk, if_neg hk', List.map_map]
      congr 1
      have e : (l.map ((fun x => x.put a (if k = 2 then d + 1 else d) s) ∘ fun x => x.up (if k = 2 then a + d + 1 else a + d) 1)) = l.map id := List.map_congr_left fun x hx => by
        have h3 := ih x hx (h2.2 x hx) a (if k = 2 then d + 1 else d)
        have h4 : a + (if k = 2 then d + 1 else d) = if k = 2 then a + d + 1 else a + d := by split <;> omega
        rw [h4] at h3
        exact h3
      rw [e, List.map_id]
end Go.Proofs.YtcgmhnlmgomlgaaGreatDoor.V

namespace Go.Proofs.YtcgmhnlmgomlgaaGreatDoor.V
open Go
def okT (t : Ty) : Ty × Int := if t.check = 0 then (t, 0) else (.zero, 4)
def inferStep (k : Int) (t : Ty) (ts : List Ty) : Ty × Int :=
  if k = 3 then (if (ts.headD .zero).kind ≠ 4 ∨ Ty.same ((ts.headD .zero).args.headD .zero) (ts.getD 1 .zero) = false then (.zero, 7) else ((ts.headD .zero).args.getD 1 .zero, 0))
  else if k = 4 then (.nat, 0)
  else if k = 5 then (if Ty.same (ts.headD .zero) .nat = false then (.zero, 7) else (.nat, 0))
  else if k = 6 then (if Ty.same (ts.headD .zero) t = false ∨ Ty.same (ts.getD 1 .zero) (.fn .nat (.fn t t)) = false ∨ Ty.same (ts.getD 2 .zero) .nat = false then (.zero, 7) else (t, 0))
  else if k = 7 then (.list, 0)
  else if k = 8 then (if Ty.same (ts.headD .zero) .nat = false ∨ Ty.same (ts.getD 1 .zero) .list = false then (.zero, 7) else (.list, 0))
  else if k = 9 then (if Ty.same (ts.headD .zero) t = false ∨ Ty.same (ts.getD 1 .zero) (.fn .nat (.fn .list (.fn t t))) = false ∨ Ty.same (ts.getD 2 .zero) .list = false then (.zero, 7) else (t, 0))
  else if k = 10 then okT (.pair (ts.headD .zero) (ts.getD 1 .zero))
  else if k = 11 ∨ k = 12 then (if (ts.headD .zero).kind ≠ 3 then (.zero, 7) else if k = 11 then ((ts.headD .zero).args.headD .zero, 0) else ((ts.headD .zero).args.getD 1 .zero, 0))
  else (.unit, 0)
mutual
def Tm.infer : Tm → List Ty → Ty × Int
  | .mk k i t l, g =>
    if k = 1 then if (g.length : Int) ≤ i then (.zero, 6) else (g.getD (g.length - 1 - i.toNat) .zero, 0)
    else if k = 2 then
      if (Tm.inferh l (g ++ [t])).2 ≠ 0 then (.zero, (Tm.inferh l (g ++ [t])).2) else okT (.fn t (Tm.inferh l (g ++ [t])).1)
    else if (Tm.infers l g).2 ≠ 0 then (.zero, (Tm.infers l g).2) else inferStep k t (Tm.infers l g).1
def Tm.inferh : List Tm → List Ty → Ty × Int
  | [], _ => (.zero, 0)
  | x :: _, g => x.infer g
def Tm.infers : List Tm → List Ty → List Ty × Int
  | [], _ => ([], 0)
  | x :: l, g => if (x.infer g).2 ≠ 0 then ([], (x.infer g).2) else if (Tm.infers l g).2 ≠ 0 then ([], (Tm.infers l g).2) else ((x.infer g).1 :: (Tm.infers l g).1, 0)
end
end Go.Proofs.YtcgmhnlmgomlgaaGreatDoor.V

set_option maxRecDepth 100000
namespace Go.Proofs.YtcgmhnlmgomlgaaGreatDoor.V
open Go Go.Proofs
theorem c159 (t : Ty) (hsz : t.size ≤ 1099511627776) (σ : List Frm) : CallsV cfg 159 [.agg (enc t)] σ (.val (enc2 (okT t))) σ := by
  refine w159 (by simp [enc2]) ?_
  rw [s159]
  simp
  refine opV_call (c124 t hsz _) (by simp) ?_
  unfold okT
  by_cases hc : t.check = 0
  · simp [hc, enc2]
  · have hc' : (t.check == 0) = false := by simpa using hc
    simp [hc, hc', bne, enc2, Ty.zero]
end Go.Proofs.YtcgmhnlmgomlgaaGreatDoor.V

namespace Go.Proofs.YtcgmhnlmgomlgaaGreatDoor.V
open Go
inductive T where
  | var (i : Nat)
  | lam (s : Ty) (b : T)
  | app (f a : T)
  | zero
  | succ (n : T)
  | recN (s : Ty) (b f n : T)
  | nil
  | cons (h l : T)
  | fold (s : Ty) (b f l : T)
  | pair (a b : T)
  | fst (p : T)
  | snd (p : T)
  | unit
namespace T
def tm : T → Tm
  | var i => .var i
  | lam s b => .tnode 2 s [b.tm]
  | app f a => .node 3 [f.tm, a.tm]
  | zero => .node 4 []
  | succ n => .node 5 [n.tm]
  | recN s b f n => .tnode 6 s [b.tm, f.tm, n.tm]
  | nil => .node 7 []
  | cons h l => .node 8 [h.tm, l.tm]
  | fold s b f l => .tnode 9 s [b.tm, f.tm, l.tm]
  | pair a b => .node 10 [a.tm, b.tm]
  | fst p => .node 11 [p.tm]
  | snd p => .node 12 [p.tm]
  | unit => .node 13 []
def wf : T → Bool
  | var _ => true
  | lam s b => s.check == 0 && b.wf
  | app f a => f.wf && a.wf
  | zero => true
  | succ n => n.wf
  | recN s b f n => s.check == 0 && b.wf && f.wf && n.wf
  | nil => true
  | cons h l => h.wf && l.wf
  | fold s b f l => s.check == 0 && b.wf && f.wf && l.wf
  | pair a b => a.wf && b.wf
  | fst p => p.wf
  | snd p => p.wf
  | unit => true
def upr (ρ : Nat → Nat) : Nat → Nat
  | 0 => 0
  | i + 1 => ρ i + 1
def ren (ρ : Nat → Nat) : T → T
  | var i => var (ρ i)
  | lam s b => lam s (b.ren (upr ρ))
  | app f a => app (f.ren ρ) (a.ren ρ)
  | zero => zero
  | succ n => succ (n.ren ρ)
  | recN s b f n => recN s (b.ren ρ) (f.ren ρ) (n.ren ρ)
  | nil => nil
  | cons h l => cons (h.ren ρ) (l.ren ρ)
  | fold s b f l => fold s (b.ren ρ) (f.ren ρ) (l.ren ρ)
  | pair a b => pair (a.ren ρ) (b.ren ρ)
  | fst p => fst (p.ren ρ)
  | snd p => snd (p.ren ρ)
  | unit => unit
def ups (σ : Nat → T) : Nat → T
  | 0 => var 0
  | i + 1 => (σ i).ren Nat.succ
def sub (σ : Nat → T) : T → T
  | var i => σ i
  | lam s b => lam s (b.sub (ups σ))
  | app f a => app (f.sub σ) (a.sub σ)
  | zero => zero
  | succ n => succ (n.sub σ)
  | recN s b f n => recN s (b.sub σ) (f.sub σ) (n.sub σ)
  | nil => nil
  | cons h l => cons (h.sub σ) (l.sub σ)
  | fold s b f l => fold s (b.sub σ) (f.sub σ) (l.sub σ)
  | pair a b => pair (a.sub σ) (b.sub σ)
  | fst p => fst (p.sub σ)
  | snd p => snd (p.sub σ)
  | unit => unit
def scons (a : T) (σ : Nat → T) : Nat → T
  | 0 => a
  | i + 1 => σ i
def inst (b a : T) : T := b.sub (scons a var)
theorem upr_comp (ρ ξ : Nat → Nat) : (fun i => upr ξ (upr ρ i)) = upr fun i => ξ (ρ i) := by
  funext i; cases i <;> rfl
theorem ren_ren (t : T) : ∀ ρ ξ : Nat → Nat, (t.ren ρ).ren ξ = t.ren fun i => ξ (ρ i) := by
  induction t <;> intro ρ ξ <;> simp_all [ren]
  rw [upr_comp]
theorem ups_ren (ρ : Nat → Nat) (σ : Nat → T) : (fun i => ups σ (upr ρ i)) = ups fun i => σ (ρ i) := by
  funext i; cases i <;> rfl
theorem ren_sub (t : T) : ∀ (ρ : Nat → Nat) (σ : Nat → T), (t.ren ρ).sub σ = t.sub fun i => σ (ρ i) := by
  induction t <;> intro ρ σ <;> simp_all [ren, sub]
  rw [ups_ren]
theorem ren_ups (ρ : Nat → Nat) (σ : Nat → T) : (fun i => (ups σ i).ren (upr ρ)) = ups fun i => (σ i).ren ρ := by
  funext i
  cases i with
  | zero => rfl
  | succ i => simp only [ups, ren_ren]; rfl
theorem sub_ren (t : T) : ∀ (σ : Nat → T) (ρ : Nat → Nat), (t.sub σ).ren ρ = t.sub fun i => (σ i).ren ρ := by
  induction t <;> intro σ ρ <;> simp_all [ren, sub]
  rw [ren_ups]
theorem sub_ups (σ τ : Nat → T) : (fun i => (ups σ i).sub (ups τ)) = ups fun i => (σ i).sub τ := by
  funext i
  cases i with
  | zero => rfl
  | succ i => simp only [ups, ren_sub, sub_ren]
theorem sub_sub (t : T) : ∀ σ τ : Nat → T, (t.sub σ).sub τ = t.sub fun i => (σ i).sub τ := by
  induction t <;> intro σ τ <;> simp_all [sub]
  rw [sub_ups]
theorem ups_var : ups var = var := by
  funext i; cases i <;> rfl
theorem sub_var (t : T) : t.sub var = t := by
  induction t <;> simp_all [sub, ups_var]
theorem inst_sub (b a : T) (σ : Nat → T) : (b.inst a).sub σ = (b.sub (ups σ)).inst (a.sub σ) := by
  unfold inst
  rw [sub_sub, sub_sub]
  congr 1
  funext i
  cases i with
  | zero => rfl
  | succ i => simp only [scons, ups, ren_sub]; exact (sub_var _).symm
theorem inst_ren (b a : T) (ρ : Nat → Nat) : (b.inst a).ren ρ = (b.ren (upr ρ)).inst (a.ren ρ) := by
  unfold inst
  rw [sub_ren, ren_sub]
  congr 1
  funext i
  cases i <;> rfl
end T
end Go.Proofs.YtcgmhnlmgomlgaaGreatDoor.V

namespace Go.Proofs.YtcgmhnlmgomlgaaGreatDoor.V
open Go
namespace T
inductive Par : T → T → Prop
  | var (i) : Par (var i) (var i)
  | lam (s) {b b'} : Par b b' → Par (lam s b) (lam s b')
  | app {f f' a a'} : Par f f' → Par a a' → Par (app f a) (app f' a')
  | zero : Par zero zero
  | succ {n n'} : Par n n' → Par (succ n) (succ n')
  | recN (s) {b b' f f' n n'} : Par b b' → Par f f' → Par n n' → Par (recN s b f n) (recN s b' f' n')
  | nil : Par nil nil
  | cons {h h' l l'} : Par h h' → Par l l' → Par (cons h l) (cons h' l')
  | fold (s) {b b' f f' l l'} : Par b b' → Par f f' → Par l l' → Par (fold s b f l) (fold s b' f' l')
  | pair {a a' b b'} : Par a a' → Par b b' → Par (pair a b) (pair a' b')
  | fst {p p'} : Par p p' → Par (fst p) (fst p')
  | snd {p p'} : Par p p' → Par (snd p) (snd p')
  | unit : Par unit unit
  | beta (s) {b b' a a'} : Par b b' → Par a a' → Par (app (lam s b) a) (b'.inst a')
  | rec0 (s f) {b b'} : Par b b' → Par (recN s b f zero) b'
  | recS (s) {b b' f f' n n'} : Par b b' → Par f f' → Par n n' → Par (recN s b f (succ n)) (app (app f' n') (recN s b' f' n'))
  | fold0 (s f) {b b'} : Par b b' → Par (fold s b f nil) b'
  | foldS (s) {b b' f f' h h' l l'} : Par b b' → Par f f' → Par h h' → Par l l' → Par (fold s b f (cons h l)) (app (app (app f' h') l') (fold s b' f' l'))
  | fstP (b) {a a'} : Par a a' → Par (fst (pair a b)) a'
  | sndP (a) {b b'} : Par b b' → Par (snd (pair a b)) b'
theorem Par.refl (t : T) : Par t t := by
  induction t with
  | var i => exact .var i
  | lam s b h => exact .lam s h
  | app f a hf ha => exact .app hf ha
  | zero => exact .zero
  | succ n h => exact .succ h
  | recN s b f n h1 h2 h3 => exact .recN s h1 h2 h3
  | nil => exact .nil
  | cons h l h1 h2 => exact .cons h1 h2
  | fold s b f l h1 h2 h3 => exact .fold s h1 h2 h3
  | pair a b h1 h2 => exact .pair h1 h2
  | fst p h => exact .fst h
  | snd p h => exact .snd h
  | unit => exact .unit
theorem Par.ren {t u : T} (h : Par t u) : ∀ ρ : Nat → Nat, Par (t.ren ρ) (u.ren ρ) := by
  induction h <;> intro ρ
  case beta s b b' a a' _ _ h1 h2 => rw [inst_ren]; exact .beta s (h1 _) (h2 _)
  all_goals (simp only [T.ren]; constructor <;> simp_all)
theorem Par.sub {t u : T} (h : Par t u) : ∀ {σ τ : Nat → T}, (∀ i, Par (σ i) (τ i)) → Par (t.sub σ) (u.sub τ) := by
  have up : ∀ {σ τ : Nat → T}, (∀ i, Par (σ i) (τ i)) → ∀ i, Par (ups σ i) (ups τ i) := by
    intro σ τ h i
    cases i with
    | zero => exact .var 0
    | succ i => exact (h i).ren _
  induction h <;> intro σ τ hs
  case var i => exact hs i
  case beta s b b' a a' _ _ h1 h2 => rw [inst_sub]; exact .beta s (h1 (up hs)) (h2 hs)
  case lam s b b' _ h1 => exact .lam s (h1 (up hs))
  all_goals (simp only [T.sub]; constructor <;> simp_all)
theorem Par.inst {b b' a a' : T} (hb : Par b b') (ha : Par a a') : Par (b.inst a) (b'.inst a') :=
  hb.sub fun i => by
    cases i with
    | zero => exact ha
    | succ i => exact .var i
def dev : T → T
  | var i => var i
  | lam s b => lam s b.dev
  | app f a => match f, f.dev with
    | lam _ _, lam _ b => b.inst a.dev
    | _, f' => app f' a.dev
  | zero => zero
  | succ n => succ n.dev
  | recN s b f n => match n, n.dev with
    | zero, _ => b.dev
    | succ _, succ n' => app (app f.dev n') (recN s b.dev f.dev n')
    | _, n' => recN s b.dev f.dev n'
  | nil => nil
  | cons h l => cons h.dev l.dev
  | fold s b f l => match l, l.dev with
    | nil, _ => b.dev
    | cons _ _, cons h' l' => app (app (app f.dev h') l') (fold s b.dev f.dev l')
    | _, l' => fold s b.dev f.dev l'
  | pair a b => pair a.dev b.dev
  | fst p => match p, p.dev with
    | pair _ _, pair a _ => a
    | _, p' => fst p'
  | snd p => match p, p.dev with
    | pair _ _, pair _ b => b
    | _, p' => snd p'
  | unit => unit
theorem Par.dev {t u : T} (h : Par t u) : Par u t.dev := by
  induction h with
  | var i => exact .var i
  | lam s _ h => exact .lam s h
  | @app f f' a a' hf _ h1 h2 =>
    cases f with
    | lam s b =>
      cases hf with
      | lam s hb =>
        cases h1 with
        | lam s h => exact .beta s h h2
    | _ => exact .app h1 h2
  | zero => exact .zero
  | succ _ h => exact .succ h
  | @recN s b b' f f' n n' _ _ hn h1 h2 h3 =>
    cases n with
    | zero => cases hn; exact .rec0 s _ h1
    | succ m =>
      cases hn with
      | succ hm =>
        cases h3 with
        | succ h => exact .recS s h1 h2 h
    | _ => exact .recN s h1 h2 h3
  | nil => exact .nil
  | cons _ _ h1 h2 => exact .cons h1 h2
  | @fold s b b' f f' l l' _ _ hl h1 h2 h3 =>
    cases l with
    | nil => cases hl; exact .fold0 s _ h1
    | cons x y =>
      cases hl with
      | cons hx hy =>
        cases h3 with
        | cons e1 e2 => exact .foldS s h1 h2 e1 e2
    | _ => exact .fold s h1 h2 h3
  | pair _ _ h1 h2 => exact .pair h1 h2
  | @fst p p' hp h =>
    cases p with
    | pair a b =>
      cases hp with
      | pair ha hb =>
        cases h with
        | pair e1 e2 => exact .fstP _ e1
    | _ => exact .fst h
  | @snd p p' hp h =>
    cases p with
    | pair a b =>
      cases hp with
      | pair ha hb =>
        cases h with
        | pair e1 e2 => exact .sndP _ e2
    | _ => exact .snd h
  | unit => exact .unit
  | beta s _ _ h1 h2 => exact Par.inst h1 h2
  | rec0 s f _ h => exact h
  | recS s _ _ _ h1 h2 h3 => exact .app (.app h2 h3) (.recN s h1 h2 h3)
  | fold0 s f _ h => exact h
  | foldS s _ _ _ _ h1 h2 h3 h4 => exact .app (.app (.app h2 h3) h4) (.fold s h1 h2 h4)
  | fstP b _ h => exact h
  | sndP a _ h => exact h
inductive Red : T → T → Prop
  | refl (t) : Red t t
  | step {t u v} : Par t u → Red u v → Red t v
theorem Red.trans {t u v : T} (h : Red t u) (k : Red u v) : Red t v := by
  induction h with
  | refl => exact k
  | step h _ ih => exact .step h (ih k)
theorem Red.one {t u : T} (h : Par t u) : Red t u := .step h (.refl u)
theorem strip1 {t u v : T} (h : Par t u) (k : Red t v) : ∃ w, Red u w ∧ Par v w := by
  induction k generalizing u with
  | refl t => exact ⟨u, .refl u, h⟩
  | @step t x v hx _ ih =>
    obtain ⟨w, h1, h2⟩ := ih hx.dev
    exact ⟨w, .step h.dev h1, h2⟩
def root : T → Bool
  | app (lam _ _) _ => true
  | recN _ _ _ zero => true
  | recN _ _ _ (succ _) => true
  | fold _ _ _ nil => true
  | fold _ _ _ (cons _ _) => true
  | fst (pair _ _) => true
  | snd (pair _ _) => true
  | _ => false
def normal : T → Bool
  | var _ => true
  | lam _ b => b.normal
  | app f a => !(app f a).root && f.normal && a.normal
  | zero => true
  | succ n => n.normal
  | recN s b f n => !(recN s b f n).root && b.normal && f.normal && n.normal
  | nil => true
  | cons h l => h.normal && l.normal
  | fold s b f l => !(fold s b f l).root && b.normal && f.normal && l.normal
  | pair a b => a.normal && b.normal
  | fst p => !(fst p).root && p.normal
  | snd p => !(snd p).root && p.normal
  | unit => true
theorem Par.normal {t u : T} (h : Par t u) : t.normal = true → u = t := by
  induction h <;> intro hn <;> simp_all [T.normal, T.root]
theorem Red.normal {t u : T} (h : Red t u) (hn : t.normal = true) : u = t := by
  induction h with
  | refl => rfl
  | step h _ ih => rw [h.normal hn] at ih; exact ih hn
end T
end Go.Proofs.YtcgmhnlmgomlgaaGreatDoor.V

namespace Go.Proofs.YtcgmhnlmgomlgaaGreatDoor.V
open Go
namespace T
inductive HasTy : List Ty → T → Ty → Prop
  | var {g i s} : g[i]? = some s → HasTy g (var i) s
  | lam {g s b t} : HasTy (s :: g) b t → (Ty.fn s t).check = 0 → HasTy g (lam s b) (.fn s t)
  | app {g f a s t} : HasTy g f (.fn s t) → HasTy g a s → HasTy g (app f a) t
  | zero {g} : HasTy g zero .nat
  | succ {g n} : HasTy g n .nat → HasTy g (succ n) .nat
  | recN {g s b f n} : HasTy g b s → HasTy g f (.fn .nat (.fn s s)) → HasTy g n .nat → s.check = 0 → HasTy g (recN s b f n) s
  | nil {g} : HasTy g nil .list
  | cons {g h l} : HasTy g h .nat → HasTy g l .list → HasTy g (cons h l) .list
  | fold {g s b f l} : HasTy g b s → HasTy g f (.fn .nat (.fn .list (.fn s s))) → HasTy g l .list → s.check = 0 → HasTy g (fold s b f l) s
  | pair {g a b s t} : HasTy g a s → HasTy g b t → (Ty.pair s t).check = 0 → HasTy g (pair a b) (.pair s t)
  | fst {g p s t} : HasTy g p (.pair s t) → HasTy g (fst p) s
  | snd {g p s t} : HasTy g p (.pair s t) → HasTy g (snd p) t
  | unit {g} : HasTy g unit .unit
theorem HasTy.ren {g : List Ty} {t : T} {s : Ty} (h : HasTy g t s) : ∀ {g' : List Ty} {ρ : Nat → Nat}, (∀ i x, g[i]? = some x → g'[ρ i]? = some x) → HasTy g' (t.ren ρ) s := by
  induction h with
  | var h => exact fun hr => .var (hr _ _ h)
  | lam _ hc ih =>
    intro g' ρ hr
    refine .lam (ih fun i x hx => ?_) hc
    cases i with
    | zero => exact hx
    | succ i => exact hr i x hx
  | app _ _ h1 h2 => exact fun hr => .app (h1 hr) (h2 hr)
  | zero => exact fun _ => .zero
  | succ _ h1 => exact fun hr => .succ (h1 hr)
  | recN _ _ _ hc h1 h2 h3 => exact fun hr => .recN (h1 hr) (h2 hr) (h3 hr) hc
  | nil => exact fun _ => .nil
  | cons _ _ h1 h2 => exact fun hr => .cons (h1 hr) (h2 hr)
  | fold _ _ _ hc h1 h2 h3 => exact fun hr => .fold (h1 hr) (h2 hr) (h3 hr) hc
  | pair _ _ hc h1 h2 => exact fun hr => .pair (h1 hr) (h2 hr) hc
  | fst _ h1 => exact fun hr => .fst (h1 hr)
  | snd _ h1 => exact fun hr => .snd (h1 hr)
  | unit => exact fun _ => .unit
theorem HasTy.sub {g : List Ty} {t : T} {s : Ty} (h : HasTy g t s) : ∀ {g' : List Ty} {σ : Nat → T}, (∀ i x, g[i]? = some x → HasTy g' (σ i) x) → HasTy g' (t.sub σ) s := by
  induction h with
  | var h => exact fun hr => hr _ _ h
  | lam _ hc ih =>
    intro g' ρ hr
    refine .lam (ih fun i x hx => ?_) hc
    cases i with
    | zero => exact .var hx
    | succ i => exact (hr i x hx).ren fun j y hy => hy
  | app _ _ h1 h2 => exact fun hr => .app (h1 hr) (h2 hr)
  | zero => exact fun _ => .zero
  | succ _ h1 => exact fun hr => .succ (h1 hr)
  | recN _ _ _ hc h1 h2 h3 => exact fun hr => .recN (h1 hr) (h2 hr) (h3 hr) hc
  | nil => exact fun _ => .nil
  | cons _ _ h1 h2 => exact fun hr => .cons (h1 hr) (h2 hr)
  | fold _ _ _ hc h1 h2 h3 => exact fun hr => .fold (h1 hr) (h2 hr) (h3 hr) hc
  | pair _ _ hc h1 h2 => exact fun hr => .pair (h1 hr) (h2 hr) hc
  | fst _ h1 => exact fun hr => .fst (h1 hr)
  | snd _ h1 => exact fun hr => .snd (h1 hr)
  | unit => exact fun _ => .unit
theorem HasTy.inst {g : List Ty} {b a : T} {s t : Ty} (hb : HasTy (s :: g) b t) (ha : HasTy g a s) : HasTy g (b.inst a) t :=
  hb.sub fun i x hx => by
    cases i with
    | zero => cases hx; exact ha
    | succ i => exact .var hx
theorem fn_parts {a b : Ty} (h : (Ty.fn a b).check = 0) : a.check = 0 ∧ b.check = 0 := by
  have h := Ty.check_iff.1 h
  rw [Ty.fn_size] at h
  have h1 : a.ok = true ∧ b.ok = true := by simpa [Ty.fn, tyArity] using h.1
  exact ⟨Ty.check_iff.2 ⟨h1.1, by omega⟩, Ty.check_iff.2 ⟨h1.2, by omega⟩⟩
theorem pair_parts {a b : Ty} (h : (Ty.pair a b).check = 0) : a.check = 0 ∧ b.check = 0 := by
  have h := Ty.check_iff.1 h
  rw [Ty.pair_size] at h
  have h1 : a.ok = true ∧ b.ok = true := by simpa [Ty.pair, tyArity] using h.1
  exact ⟨Ty.check_iff.2 ⟨h1.1, by omega⟩, Ty.check_iff.2 ⟨h1.2, by omega⟩⟩
theorem HasTy.good {g : List Ty} {t : T} {s : Ty} (h : HasTy g t s) : (∀ x ∈ g, x.check = 0) → t.wf = true ∧ s.check = 0 := by
  induction h with
  | var h => exact fun hg => ⟨rfl, hg _ (List.mem_of_getElem? h)⟩
  | lam h1 hc ih =>
    intro hg
    have hp := fn_parts hc
    have := ih fun x hx => by
      rcases List.mem_cons.1 hx with rfl | hx
      · exact hp.1
      · exact hg x hx
    exact ⟨by simp [wf, hp.1, this.1], hc⟩
  | app _ _ i1 i2 => exact fun hg => ⟨by simp [wf, (i1 hg).1, (i2 hg).1], (fn_parts (i1 hg).2).2⟩
  | zero => exact fun _ => ⟨rfl, Ty.nat_check⟩
  | succ _ i1 => exact fun hg => ⟨by simp [wf, (i1 hg).1], Ty.nat_check⟩
  | recN _ _ _ hc i1 i2 i3 => exact fun hg => ⟨by simp [wf, hc, (i1 hg).1, (i2 hg).1, (i3 hg).1], hc⟩
  | nil => exact fun _ => ⟨rfl, Ty.list_check⟩
  | cons _ _ i1 i2 => exact fun hg => ⟨by simp [wf, (i1 hg).1, (i2 hg).1], Ty.list_check⟩
  | fold _ _ _ hc i1 i2 i3 => exact fun hg => ⟨by simp [wf, hc, (i1 hg).1, (i2 hg).1, (i3 hg).1], hc⟩
  | pair _ _ hc i1 i2 => exact fun hg => ⟨by simp [wf, (i1 hg).1, (i2 hg).1], hc⟩
  | fst _ i1 => exact fun hg => ⟨by simp [wf, (i1 hg).1], (pair_parts (i1 hg).2).1⟩
  | snd _ i1 => exact fun hg => ⟨by simp [wf, (i1 hg).1], (pair_parts (i1 hg).2).2⟩
  | unit => exact fun _ => ⟨rfl, Ty.check_iff.2 ⟨Ty.unit_ok, by simp⟩⟩
def numeral : T → Bool
  | zero => true
  | succ n => n.numeral
  | _ => false
def listed : T → Bool
  | nil => true
  | cons h l => h.numeral && l.listed
  | _ => false
def num : Nat → T
  | 0 => zero
  | n + 1 => succ (num n)
theorem num_tm (n : Nat) : (num n).tm = Tm.num n := by
  induction n with
  | zero => rfl
  | succ n ih => simp only [num, tm, ih]; rfl
theorem num_ty {g : List Ty} (n : Nat) : HasTy g (num n) .nat := by
  induction n with
  | zero => exact .zero
  | succ n ih => exact .succ ih
theorem small_check {a : Ty} (h : a.ok = true ∧ a.size ≤ 64) : a.check = 0 := Ty.check_iff.2 h
theorem fn_small {a b : Ty} {m : Nat} (ha : a.ok = true ∧ a.size ≤ m) (hb : b.ok = true ∧ b.size ≤ 63 - m) (hm : m ≤ 63) : (Ty.fn a b).check = 0 := Ty.check_iff.2 ⟨Ty.fn_ok ha.1 hb.1, by rw [Ty.fn_size]; omega⟩
def predT : T := lam .nat (recN .nat zero (lam .nat (lam .nat (var 1))) (var 0))
def plusT : T := lam .nat (lam .nat (recN .nat (var 1) (lam .nat (lam .nat (succ (var 0)))) (var 0)))
def subT : T := lam .nat (lam .nat (recN .nat (var 1) (lam .nat (lam .nat (app predT (var 0)))) (var 0)))
theorem nn_check : (Ty.fn .nat .nat).check = 0 := by decide +kernel
theorem nnn_check : (Ty.fn .nat (.fn .nat .nat)).check = 0 := by decide +kernel
theorem predT_ty {g : List Ty} : HasTy g predT (.fn .nat .nat) := .lam (.recN .zero (.lam (.lam (.var rfl) nn_check) nnn_check) (.var rfl) Ty.nat_check) nn_check
theorem plusT_ty {g : List Ty} : HasTy g plusT (.fn .nat (.fn .nat .nat)) := .lam (.lam (.recN (.var rfl) (.lam (.lam (.succ (.var rfl)) nn_check) nnn_check) (.var rfl) Ty.nat_check) nn_check) nnn_check
theorem subT_ty {g : List Ty} : HasTy g subT (.fn .nat (.fn .nat .nat)) := .lam (.lam (.recN (.var rfl) (.lam (.lam (.app predT_ty (.var rfl)) nn_check) nnn_check) (.var rfl) Ty.nat_check) nn_check) nnn_check
def Made (g : List Ty) (t : Ty) (x : Tm) : Prop := ∃ u : T, u.tm = x ∧ HasTy g.reverse u t
theorem made_var {g : List Ty} {t : Ty} {l r r' : List Int} {i : Int} (hl : l = vars g t) (h : pickVar l r = (some i, r')) : Made g t (.var i) := by
  subst hl
  obtain ⟨j, rfl, _, h2⟩ := vars_mem (pickVar_some h)
  exact ⟨.var j, rfl, .var h2⟩
theorem made_num {g : List Ty} {n : Nat} : Made g .nat (.num n) := ⟨num n, num_tm n, num_ty n⟩
theorem Made.lam {g : List Ty} {s t : Ty} {x : Tm} (h : Made (g ++ [s]) t x) (hc : (Ty.fn s t).check = 0) : Made g (.fn s t) (.tnode 2 s [x]) := by
  obtain ⟨u, rfl, h⟩ := h
  rw [List.reverse_append] at h
  exact ⟨.lam s u, rfl, .lam h hc⟩
theorem Made.app {g : List Ty} {s t : Ty} {x y : Tm} (h : Made g (.fn s t) x) (k : Made g s y) : Made g t (.node 3 [x, y]) := by
  obtain ⟨u, rfl, h⟩ := h
  obtain ⟨v, rfl, k⟩ := k
  exact ⟨.app u v, rfl, .app h k⟩
theorem Made.pair {g : List Ty} {s t : Ty} {x y : Tm} (h : Made g s x) (k : Made g t y) (hc : (Ty.pair s t).check = 0) : Made g (.pair s t) (.node 10 [x, y]) := by
  obtain ⟨u, rfl, h⟩ := h
  obtain ⟨v, rfl, k⟩ := k
  exact ⟨.pair u v, rfl, .pair h k hc⟩
theorem Made.fst {g : List Ty} {s t : Ty} {x : Tm} (h : Made g (.pair s t) x) : Made g s (.node 11 [x]) := by
  obtain ⟨u, rfl, h⟩ := h
  exact ⟨.fst u, rfl, .fst h⟩
theorem Made.snd {g : List Ty} {s t : Ty} {x : Tm} (h : Made g (.pair s t) x) : Made g t (.node 12 [x]) := by
  obtain ⟨u, rfl, h⟩ := h
  exact ⟨.snd u, rfl, .snd h⟩
theorem Made.recN {g : List Ty} {s : Ty} {x y z : Tm} (h1 : Made g s x) (h2 : Made g (.fn .nat (.fn s s)) y) (h3 : Made g .nat z) (hc : s.check = 0) : Made g s (.tnode 6 s [x, y, z]) := by
  obtain ⟨u, rfl, h1⟩ := h1
  obtain ⟨v, rfl, h2⟩ := h2
  obtain ⟨w, rfl, h3⟩ := h3
  exact ⟨.recN s u v w, rfl, .recN h1 h2 h3 hc⟩
theorem Made.fold {g : List Ty} {s : Ty} {x y z : Tm} (h1 : Made g s x) (h2 : Made g (.fn .nat (.fn .list (.fn s s))) y) (h3 : Made g .list z) (hc : s.check = 0) : Made g s (.tnode 9 s [x, y, z]) := by
  obtain ⟨u, rfl, h1⟩ := h1
  obtain ⟨v, rfl, h2⟩ := h2
  obtain ⟨w, rfl, h3⟩ := h3
  exact ⟨.fold s u v w, rfl, .fold h1 h2 h3 hc⟩
theorem unit_of {k : Int} {l : List Ty} (hok : (Ty.mk k l).ok = true) (h1 : ¬ k = 1) (h2 : ¬ k = 2) (h3 : ∀ a b, l = [a, b] → ¬ k = 3 ∧ ¬ k = 4) : Ty.mk k l = .unit := by
  simp only [Ty.ok_mk, Bool.and_eq_true, beq_iff_eq] at hok
  have ha := hok.1
  unfold tyArity at ha
  split at ha
  · rename_i h
    have hl : l = [] := List.length_eq_zero_iff.1 (by simpa using ha.symm)
    have hk : k = 5 := by omega
    rw [hl, hk]; try rfl
  · split at ha
    · rename_i h
      match l, ha with
      | [a, b], _ => have := h3 a b rfl; omega
    · cases ha
theorem nat_of {l : List Ty} (hok : (Ty.mk 1 l).ok = true) : Ty.mk 1 l = .nat := by
  simp only [Ty.ok_mk, Bool.and_eq_true, beq_iff_eq] at hok
  have hl : l = [] := List.length_eq_zero_iff.1 (by simpa [tyArity] using hok.1.symm)
  rw [hl]; try rfl
theorem list_of {l : List Ty} (hok : (Ty.mk 2 l).ok = true) : Ty.mk 2 l = .list := by
  simp only [Ty.ok_mk, Bool.and_eq_true, beq_iff_eq] at hok
  have hl : l = [] := List.length_eq_zero_iff.1 (by simpa [tyArity] using hok.1.symm)
  rw [hl]; try rfl
theorem made_unit {g : List Ty} : Made g .unit (.node 13 []) := ⟨.unit, rfl, .unit⟩
theorem made_nil {g : List Ty} : Made g .list (.node 7 []) := ⟨.nil, rfl, .nil⟩
theorem mkTerm0_made (t : Ty) : ∀ (g : List Ty) (r : List Int), t.check = 0 → Made g t (mkTerm0 g t r).1 := by
  induction t using Ty.ind with
  | _ k l ih =>
  intro g r hc
  have ht := Ty.check_iff.1 hc
  unfold mkTerm0
  rcases hv : pickVar (vars g (.mk k l)) r with ⟨_ | i, r'⟩ <;> simp only
  rotate_left
  · exact made_var rfl hv
  · split
    · rename_i h1; subst h1; rw [nat_of ht.1]; exact made_num
    · split
      · rename_i h2; subst h2; rw [list_of ht.1]; exact made_nil
      · split
        · rename_i h1 h2 _ a b
          split
          · rename_i h3
            subst h3
            have hp := pair_parts hc
            exact (ih a (by simp) g r' hp.1).pair (ih b (by simp) g _ hp.2) hc
          · split
            · rename_i h4
              subst h4
              have hp := fn_parts hc
              exact (ih b (by simp) (g ++ [a]) r' hp.2).lam hc
            · rename_i h3 h4
              rw [unit_of ht.1 h1 h2 fun _ _ _ => ⟨h3, h4⟩]; exact made_unit
        · rename_i h1 h2 _ h3
          rw [unit_of ht.1 h1 h2 fun a b h => absurd h (h3 a b)]; exact made_unit
theorem Made.succ {g : List Ty} {x : Tm} (h : Made g .nat x) : Made g .nat (.node 5 [x]) := by
  obtain ⟨u, rfl, h⟩ := h
  exact ⟨.succ u, rfl, .succ h⟩
theorem Made.cons {g : List Ty} {x y : Tm} (h : Made g .nat x) (k : Made g .list y) : Made g .list (.node 8 [x, y]) := by
  obtain ⟨u, rfl, h⟩ := h
  obtain ⟨v, rfl, k⟩ := k
  exact ⟨.cons u v, rfl, .cons h k⟩
theorem made_plus {g : List Ty} : Made g (.fn .nat (.fn .nat .nat)) .plus := ⟨plusT, rfl, plusT_ty⟩
theorem made_sub {g : List Ty} : Made g (.fn .nat (.fn .nat .nat)) .sub := ⟨subT, rfl, subT_ty⟩
theorem mkPlain_made {m : Nat} (hm : m ≤ 15) {F : List Ty → Ty → List Int → Tm × List Int} (hF : ∀ g t r, Good m g → t.ok = true ∧ t.size ≤ m → Made g t (F g t r).1) (g : List Ty) (t : Ty) (r : List Int) (hg : Good m g) (ht : t.ok = true ∧ t.size ≤ m) : Made g t (mkPlain F g t r).1 := by
  obtain ⟨k, l⟩ := t
  have hp := Ty.size_pos (.mk k l)
  have hnat : Ty.nat.ok = true ∧ Ty.nat.size ≤ m := ⟨Ty.nat_ok, by simp; omega⟩
  have hc : (Ty.mk k l).check = 0 := small_check ⟨ht.1, by omega⟩
  unfold mkPlain
  simp only
  split
  · rename_i h1
    subst h1
    have e := nat_of ht.1
    rw [e] at ht ⊢
    split
    · exact (hF _ _ _ hg ht).succ
    · split
      · exact (made_plus.app (hF _ _ _ hg ht)).app (hF _ _ _ hg ht)
      · split
        · exact (made_sub.app (hF _ _ _ hg ht)).app (hF _ _ _ hg ht)
        · exact made_num
  · split
    · rename_i h2
      subst h2
      have e := list_of ht.1
      rw [e] at ht ⊢
      split
      · exact (hF _ _ _ hg hnat).cons (hF _ _ _ hg ht)
      · exact made_nil
    · split
      · rename_i h1 h2 _ a b
        have hab := Ty.parts2 ht
        split
        · rename_i h3
          subst h3
          exact (hF _ _ _ hg hab.1).pair (hF _ _ _ hg hab.2) hc
        · split
          · rename_i h4
            subst h4
            exact (hF _ _ _ (hg.app (Good.one hab.1)) hab.2).lam hc
          · rename_i h3 h4
            rw [unit_of ht.1 h1 h2 fun _ _ _ => ⟨h3, h4⟩]; exact made_unit
      · rename_i h1 h2 _ h3
        rw [unit_of ht.1 h1 h2 fun a b h => absurd h (h3 a b)]; exact made_unit
theorem mkTerm_made {m : Nat} (hm : m ≤ 15) (d : Nat) : ∀ (g : List Ty) (t : Ty) (r : List Int), Good m g → t.ok = true ∧ t.size ≤ m → Made g t (mkTerm d g t r).1 := by
  induction d with
  | zero =>
    intro g t r hg ht
    exact mkTerm0_made t g r (small_check ⟨ht.1, by omega⟩)
  | succ d ih =>
    intro g t r hg ht
    have hp := Ty.size_pos t
    have hnat : Ty.nat.ok = true ∧ Ty.nat.size ≤ m := ⟨Ty.nat_ok, by simp; omega⟩
    have hlist : Ty.list.ok = true ∧ Ty.list.size ≤ m := ⟨Ty.list_ok, by simp; omega⟩
    have htc : t.check = 0 := small_check ⟨ht.1, by omega⟩
    have h0 : ∀ r, (mkType 0 r).1.ok = true ∧ (mkType 0 r).1.size ≤ m := fun r => ⟨(mkType0 r).1, by have := (mkType0 r).2; omega⟩
    have fc : ∀ {a b : Ty}, a.ok = true ∧ a.size ≤ m → b.ok = true ∧ b.size ≤ 48 → (Ty.fn a b).check = 0 := fun ha hb => fn_small ha ⟨hb.1, by have := hb.2; omega⟩ (by omega)
    have pc : ∀ {a b : Ty}, a.ok = true ∧ a.size ≤ m → b.ok = true ∧ b.size ≤ m → (Ty.pair a b).check = 0 := fun ha hb => Ty.check_iff.2 ⟨Ty.pair_ok ha.1 hb.1, by rw [Ty.pair_size]; have := ha.2; have := hb.2; omega⟩
    have le : ∀ {a : Ty}, a.ok = true ∧ a.size ≤ m → a.ok = true ∧ a.size ≤ 48 := fun h => ⟨h.1, by have := h.2; omega⟩
    have tt : (Ty.fn t t).ok = true ∧ (Ty.fn t t).size ≤ 48 := ⟨Ty.fn_ok ht.1 ht.1, by rw [Ty.fn_size]; have := ht.2; omega⟩
    have ltt : (Ty.fn .list (Ty.fn t t)).ok = true ∧ (Ty.fn .list (Ty.fn t t)).size ≤ 48 := ⟨Ty.fn_ok Ty.list_ok tt.1, by rw [Ty.fn_size, Ty.fn_size, Ty.list_size]; have := ht.2; omega⟩
    unfold mkTerm
    split
    · rename_i i r' hv
      exact made_var rfl hv
    · rename_i r' hv
      have plain := mkPlain_made hm (fun g t r => ih g t r) g t (next 8 r').2 hg ht
      simp only
      split
      · exact ((ih _ _ _ (hg.app (Good.one (h0 _))) ht).lam (fc (h0 _) (le ht))).app (ih _ _ _ hg (h0 _))
      · split
        · exact ((ih _ _ _ hg ht).pair (ih _ _ _ hg (h0 _)) (pc ht (h0 _))).fst
        · split
          · have h1 := ih (g ++ [.nat, t]) t (next 8 r').2 (hg.app (Good.cons hnat (Good.one ht))) ht
            rw [show g ++ [Ty.nat, t] = (g ++ [Ty.nat]) ++ [t] by simp] at h1 ⊢
            exact (ih _ _ _ hg ht).recN ((h1.lam (fc ht (le ht))).lam (fc hnat tt)) made_num htc
          · split
            · have h1 := ih (g ++ [.nat, .list, t]) t (next 8 r').2 (hg.app (Good.cons hnat (Good.cons hlist (Good.one ht)))) ht
              rw [show g ++ [Ty.nat, Ty.list, t] = ((g ++ [Ty.nat]) ++ [Ty.list]) ++ [t] by simp] at h1 ⊢
              exact (ih _ _ _ hg ht).fold (((h1.lam (fc ht (le ht))).lam (fc hlist tt)).lam (fc hnat ltt)) (ih _ _ _ hg hlist) htc
            · split
              · exact ((ih _ _ _ hg (h0 _)).pair (ih _ _ _ hg ht) (pc (h0 _) ht)).snd
              · split
                · split
                  · rename_i i a hf
                    obtain ⟨j, rfl, e2, e3⟩ := funFrom_mem t _ _ _ _ hf
                    have hga := hg (.fn a t) (by have := List.mem_of_getElem? e3; simpa using this)
                    have ha := (Ty.parts2 hga).1
                    have hv : Made g (.fn a t) (.var ((0 + j : Nat) : Int)) := ⟨.var j, by simp [tm], .var e3⟩
                    exact hv.app (ih _ _ _ hg ha)
                  · exact plain
                · exact plain
end T
end Go.Proofs.YtcgmhnlmgomlgaaGreatDoor.V

namespace Go.Proofs.YtcgmhnlmgomlgaaGreatDoor.V
open Go
namespace T
theorem tm_ok (t : T) : t.tm.ok = t.wf := by
  have nd : ∀ (k : Int) (l : List Tm), tmArity k = some l.length → tmTyped k = false → (Tm.node k l).ok = Tm.oks l := fun k l h1 h2 => by simp [Tm.node, Tm.head_node h1 h2]
  have td : ∀ (k : Int) (s : Ty) (l : List Tm), tmArity k = some l.length → tmTyped k = true → (Tm.tnode k s l).ok = (s.check == 0 && Tm.oks l) := fun k s l h1 h2 => by simp [Tm.tnode, Tm.head, h1, h2]
  induction t with
  | var i => exact Tm.var_ok (by omega)
  | lam s b h => rw [tm, td 2 s [b.tm] rfl rfl]; simp [wf, h]
  | app f a h1 h2 => rw [tm, nd 3 [f.tm, a.tm] rfl rfl]; simp [wf, h1, h2]
  | zero => rfl
  | succ n h => rw [tm, nd 5 [n.tm] rfl rfl]; simp [wf, h]
  | recN s b f n h1 h2 h3 => rw [tm, td 6 s [b.tm, f.tm, n.tm] rfl rfl]; simp [wf, h1, h2, h3, Bool.and_assoc]
  | nil => rfl
  | cons f a h1 h2 => rw [tm, nd 8 [f.tm, a.tm] rfl rfl]; simp [wf, h1, h2]
  | fold s b f n h1 h2 h3 => rw [tm, td 9 s [b.tm, f.tm, n.tm] rfl rfl]; simp [wf, h1, h2, h3, Bool.and_assoc]
  | pair f a h1 h2 => rw [tm, nd 10 [f.tm, a.tm] rfl rfl]; simp [wf, h1, h2]
  | fst n h => rw [tm, nd 11 [n.tm] rfl rfl]; simp [wf, h]
  | snd n h => rw [tm, nd 12 [n.tm] rfl rfl]; simp [wf, h]
  | unit => rfl
theorem arity_cases {k : Int} {n : Nat} (h : tmArity k = some n) : (n = 0 ∧ (k = 1 ∨ k = 4 ∨ k = 7 ∨ k = 13)) ∨ (n = 1 ∧ (k = 2 ∨ k = 5 ∨ k = 11 ∨ k = 12)) ∨ (n = 2 ∧ (k = 3 ∨ k = 8 ∨ k = 10)) ∨ (n = 3 ∧ (k = 6 ∨ k = 9)) := by
  unfold tmArity at h
  split at h
  · rename_i hk
    have : k = 1 ∨ k = 2 ∨ k = 3 ∨ k = 4 ∨ k = 5 ∨ k = 6 ∨ k = 7 ∨ k = 8 ∨ k = 9 ∨ k = 10 ∨ k = 11 ∨ k = 12 ∨ k = 13 := by omega
    rcases this with rfl | rfl | rfl | rfl | rfl | rfl | rfl | rfl | rfl | rfl | rfl | rfl | rfl <;> simp at h <;> subst h <;> simp
  · cases h
theorem none_iff {t : Ty} : t.none = true ↔ t = .zero := by
  obtain ⟨k, l⟩ := t
  cases l <;> simp [Ty.none, Ty.zero]
theorem of_ok (t : Tm) : t.ok = true → ∃ u : T, u.tm = t := by
  induction t using Tm.ind with
  | _ k i s l ih =>
    intro h
    simp only [Tm.ok_mk, Bool.and_eq_true, Tm.oks_iff] at h
    obtain ⟨hh, hl⟩ := h
    have hnn := Tm.head_nonneg hh
    simp only [Tm.head, Bool.and_eq_true, beq_iff_eq, Bool.or_eq_true, decide_eq_true_eq] at hh
    obtain ⟨⟨⟨ha, _⟩, hik⟩, hty⟩ := hh
    have hs : tmTyped k = false → s = .zero := fun e => by rw [e] at hty; exact none_iff.1 (by simpa using hty)
    rcases arity_cases ha with ⟨hn, hk⟩ | ⟨hn, hk⟩ | ⟨hn, hk⟩ | ⟨hn, hk⟩
    · obtain rfl := List.length_eq_zero_iff.1 hn
      rcases hk with rfl | rfl | rfl | rfl
      · exact ⟨.var i.toNat, by rw [hs rfl]; simp [tm, Tm.var, Int.toNat_of_nonneg hnn]⟩
      · obtain rfl : i = 0 := by omega
        exact ⟨.zero, by rw [hs rfl]; try rfl⟩
      · obtain rfl : i = 0 := by omega
        exact ⟨.nil, by rw [hs rfl]; try rfl⟩
      · obtain rfl : i = 0 := by omega
        exact ⟨.unit, by rw [hs rfl]; try rfl⟩
    · obtain ⟨x, rfl⟩ := List.length_eq_one_iff.1 hn
      obtain ⟨u, hu⟩ := ih x (by simp) (hl x (by simp))
      have hi : i = 0 := by omega
      subst hi hu
      rcases hk with rfl | rfl | rfl | rfl
      · exact ⟨.lam s u, rfl⟩
      · exact ⟨.succ u, by rw [hs rfl]; try rfl⟩
      · exact ⟨.fst u, by rw [hs rfl]; try rfl⟩
      · exact ⟨.snd u, by rw [hs rfl]; try rfl⟩
    · match l, hn with
      | [x, y], _ =>
        obtain ⟨u, hu⟩ := ih x (by simp) (hl x (by simp))
        obtain ⟨v, hv⟩ := ih y (by simp) (hl y (by simp))
        have hi : i = 0 := by omega
        subst hi hu hv
        rcases hk with rfl | rfl | rfl
        · exact ⟨.app u v, by rw [hs rfl]; try rfl⟩
        · exact ⟨.cons u v, by rw [hs rfl]; try rfl⟩
        · exact ⟨.pair u v, by rw [hs rfl]; try rfl⟩
    · match l, hn with
      | [x, y, z], _ =>
        obtain ⟨u, hu⟩ := ih x (by simp) (hl x (by simp))
        obtain ⟨v, hv⟩ := ih y (by simp) (hl y (by simp))
        obtain ⟨w, hw⟩ := ih z (by simp) (hl z (by simp))
        have hi : i = 0 := by omega
        subst hi hu hv hw
        rcases hk with rfl | rfl
        · exact ⟨.recN s u v w, rfl⟩
        · exact ⟨.fold s u v w, rfl⟩
def sh (fr by' : Nat) (i : Nat) : Nat := if fr ≤ i then i + by' else i
theorem upr_sh (fr by' : Nat) : upr (sh fr by') = sh (fr + 1) by' := by
  funext i
  cases i with
  | zero => simp [upr, sh]
  | succ i => simp only [upr, sh]; split <;> split <;> omega
theorem tm_up (t : T) : ∀ fr by' : Nat, t.tm.up fr by' = (t.ren (sh fr by')).tm := by
  have nd : ∀ (k : Int) (l : List Tm) (a b : Int), k ≠ 1 → k ≠ 2 → (Tm.node k l).up a b = .node k (l.map fun x => x.up a b) := fun k l a b h1 h2 => by simp [Tm.node, Tm.up_mk, h1, h2]
  have td : ∀ (k : Int) (s : Ty) (l : List Tm) (a b : Int), k ≠ 1 → k ≠ 2 → (Tm.tnode k s l).up a b = .tnode k s (l.map fun x => x.up a b) := fun k s l a b h1 h2 => by simp [Tm.tnode, Tm.up_mk, h1, h2]
  induction t with
  | var i =>
    intro fr by'
    simp only [tm, ren, Tm.var, Tm.up_mk, sh]
    congr 1
    split <;> split <;> simp_all <;> omega
  | lam s b h =>
    intro fr by'
    rw [ren, upr_sh, tm, tm, Tm.tnode, Tm.tnode, Tm.up_mk]
    have := h (fr + 1) by'
    simp_all
  | _ => intro fr by'; simp_all [tm, ren, nd, td]
end T
end Go.Proofs.YtcgmhnlmgomlgaaGreatDoor.V

namespace Go.Proofs.YtcgmhnlmgomlgaaGreatDoor.V
open Go
theorem Tm.infer_var (i : Int) (g : List Ty) : (Tm.var i).infer g = if (g.length : Int) ≤ i then (.zero, 6) else (g.getD (g.length - 1 - i.toNat) .zero, 0) := by rw [Tm.var, Tm.infer, if_pos rfl]
theorem Tm.infer_lam (s : Ty) (x : Tm) (g : List Ty) : (Tm.tnode 2 s [x]).infer g = if (x.infer (g ++ [s])).2 ≠ 0 then (.zero, (x.infer (g ++ [s])).2) else okT (.fn s (x.infer (g ++ [s])).1) := by rw [Tm.tnode, Tm.infer, if_neg (by omega), if_pos rfl, Tm.inferh]
theorem Tm.infer_else {k i : Int} (h1 : k ≠ 1) (h2 : k ≠ 2) (s : Ty) (l : List Tm) (g : List Ty) : (Tm.mk k i s l).infer g = if (Tm.infers l g).2 ≠ 0 then (.zero, (Tm.infers l g).2) else inferStep k s (Tm.infers l g).1 := by rw [Tm.infer, if_neg h1, if_neg h2]
@[simp] theorem Tm.infers_nil (g : List Ty) : Tm.infers [] g = ([], 0) := by rw [Tm.infers]
theorem Tm.infers_cons (x : Tm) (l : List Tm) (g : List Ty) : Tm.infers (x :: l) g = if (x.infer g).2 ≠ 0 then ([], (x.infer g).2) else if (Tm.infers l g).2 ≠ 0 then ([], (Tm.infers l g).2) else ((x.infer g).1 :: (Tm.infers l g).1, 0) := by rw [Tm.infers]
theorem getD_rev {g : List Ty} {i : Nat} {s : Ty} (h : g.reverse[i]? = some s) : i < g.length ∧ g.getD (g.length - 1 - i) .zero = s := by
  have h1 := (List.getElem?_eq_some_iff.1 h).1
  rw [List.length_reverse] at h1
  rw [List.getElem?_reverse h1] at h
  exact ⟨h1, by rw [List.getD_eq_getElem?_getD, h]; try rfl⟩
theorem okT_check {t : Ty} (h : t.check = 0) : okT t = (t, 0) := by unfold okT; rw [if_pos h]
theorem same_self (t : Ty) : Ty.same t t = true := (Ty.same_iff t t).2 rfl
namespace T
theorem HasTy.infer {G : List Ty} {u : T} {s : Ty} (h : HasTy G u s) : ∀ g : List Ty, G = g.reverse → u.tm.infer g = (s, 0) := by
  have hd1 : ∀ (a : Ty) (l : List Ty), (a :: l).headD .zero = a := fun _ _ => rfl
  induction h with
  | @var G i s h =>
    rintro g rfl
    obtain ⟨h1, h2⟩ := getD_rev h
    rw [tm, Tm.infer_var, if_neg (by omega), Int.toNat_natCast, h2]
  | @lam G s b t hb hc ih =>
    rintro g rfl
    rw [tm, Tm.infer_lam, ih (g ++ [s]) (by simp)]
    simp [okT_check hc]
  | @app G f a s t hf ha i1 i2 =>
    rintro g rfl
    rw [tm, Tm.node, Tm.infer_else (by omega) (by omega)]
    simp [Tm.infers_cons, i1 g rfl, i2 g rfl, inferStep, Ty.fn, Ty.kind, Ty.args, same_self]
  | zero => rintro g rfl; rw [tm, Tm.node, Tm.infer_else (by omega) (by omega)]; simp [inferStep]
  | @succ G n hn i1 =>
    rintro g rfl
    rw [tm, Tm.node, Tm.infer_else (by omega) (by omega)]
    simp [Tm.infers_cons, i1 g rfl, inferStep, same_self]
  | @recN G s b f n h1 h2 h3 hc i1 i2 i3 =>
    rintro g rfl
    rw [tm, Tm.tnode, Tm.infer_else (by omega) (by omega)]
    simp [Tm.infers_cons, i1 g rfl, i2 g rfl, i3 g rfl, inferStep, same_self]
  | nil => rintro g rfl; rw [tm, Tm.node, Tm.infer_else (by omega) (by omega)]; simp [inferStep]
  | @cons G n m hn hm i1 i2 =>
    rintro g rfl
    rw [tm, Tm.node, Tm.infer_else (by omega) (by omega)]
    simp [Tm.infers_cons, i1 g rfl, i2 g rfl, inferStep, same_self]
  | @fold G s b f n h1 h2 h3 hc i1 i2 i3 =>
    rintro g rfl
    rw [tm, Tm.tnode, Tm.infer_else (by omega) (by omega)]
    simp [Tm.infers_cons, i1 g rfl, i2 g rfl, i3 g rfl, inferStep, same_self]
  | @pair G a b s t ha hb hc i1 i2 =>
    rintro g rfl
    rw [tm, Tm.node, Tm.infer_else (by omega) (by omega)]
    simp [Tm.infers_cons, i1 g rfl, i2 g rfl, inferStep, okT_check hc]
  | @fst G p s t hp i1 =>
    rintro g rfl
    rw [tm, Tm.node, Tm.infer_else (by omega) (by omega)]
    simp [Tm.infers_cons, i1 g rfl, inferStep, Ty.pair, Ty.kind, Ty.args]
  | @snd G p s t hp i1 =>
    rintro g rfl
    rw [tm, Tm.node, Tm.infer_else (by omega) (by omega)]
    simp [Tm.infers_cons, i1 g rfl, inferStep, Ty.pair, Ty.kind, Ty.args]
  | unit => rintro g rfl; rw [tm, Tm.node, Tm.infer_else (by omega) (by omega)]; simp [inferStep]
end T
theorem fn_of {t : Ty} (h : t.check = 0) (hk : t.kind = 4) : ∃ a b, t = .fn a b := by
  obtain ⟨k, l⟩ := t
  have h1 := (Ty.check_iff.1 h).1
  simp only [Ty.kind] at hk
  subst hk
  simp only [Ty.ok_mk, Bool.and_eq_true, tyArity] at h1
  have h2 : l.length = 2 := by have := h1.1; simp at this; omega
  match l, h2 with
  | [a, b], _ => exact ⟨a, b, rfl⟩
theorem pair_of {t : Ty} (h : t.check = 0) (hk : t.kind = 3) : ∃ a b, t = .pair a b := by
  obtain ⟨k, l⟩ := t
  have h1 := (Ty.check_iff.1 h).1
  simp only [Ty.kind] at hk
  subst hk
  simp only [Ty.ok_mk, Bool.and_eq_true, tyArity] at h1
  have h2 : l.length = 2 := by have := h1.1; simp at this; omega
  match l, h2 with
  | [a, b], _ => exact ⟨a, b, rfl⟩
theorem okT_eq {t r : Ty} (h : okT t = (r, 0)) : t.check = 0 ∧ r = t := by
  unfold okT at h
  split at h
  · rename_i hc; cases h; exact ⟨hc, rfl⟩
  · cases h
theorem infers_zero {x : Tm} {l : List Tm} {g ts : List Ty} (h : Tm.infers (x :: l) g = (ts, 0)) : ∃ t ts', ts = t :: ts' ∧ x.infer g = (t, 0) ∧ Tm.infers l g = (ts', 0) := by
  rw [Tm.infers_cons] at h
  by_cases h1 : (x.infer g).2 = 0
  · by_cases h2 : (Tm.infers l g).2 = 0
    · simp [h1, h2] at h
      exact ⟨_, _, h.symm, by rw [← h1], by rw [← h2]⟩
    · simp [h1, h2] at h
  · simp [h1] at h
theorem infer_zero {k i : Int} (h1 : k ≠ 1) (h2 : k ≠ 2) {s r : Ty} {l : List Tm} {g : List Ty} (h : (Tm.mk k i s l).infer g = (r, 0)) : ∃ ts, Tm.infers l g = (ts, 0) ∧ inferStep k s ts = (r, 0) := by
  rw [Tm.infer_else h1 h2] at h
  by_cases he : (Tm.infers l g).2 = 0
  · rw [if_neg (by simpa using he)] at h
    exact ⟨_, by rw [← he], h⟩
  · rw [if_pos he] at h
    simp at h
    exact absurd h.2 he
namespace T
theorem infer_ty (u : T) : u.wf = true → ∀ (g : List Ty) (s : Ty), (∀ x ∈ g, x.check = 0) → u.tm.infer g = (s, 0) → HasTy g.reverse u s := by
  induction u with
  | var i =>
    intro _ g s hg h
    rw [tm, Tm.infer_var] at h
    split at h
    · simp at h
    · rename_i hi
      simp at h
      refine .var ?_
      rw [List.getElem?_reverse (by omega)]
      rw [List.getElem?_eq_getElem (by omega)] at h ⊢
      simpa using h
  | lam t b ih =>
    intro hw g s hg h
    simp only [wf, Bool.and_eq_true, beq_iff_eq] at hw
    rw [tm, Tm.infer_lam] at h
    by_cases he : (b.tm.infer (g ++ [t])).2 = 0
    · rw [if_neg (by simpa using he)] at h
      obtain ⟨hc, rfl⟩ := okT_eq h
      have := ih hw.2 (g ++ [t]) (b.tm.infer (g ++ [t])).1 (fun x hx => by rcases List.mem_append.1 hx with hx | hx; exact hg x hx; simp at hx; rw [hx]; exact hw.1) (by rw [← he])
      rw [List.reverse_append] at this
      exact .lam this hc
    · rw [if_pos he] at h
      simp at h
      exact absurd h.2 he
  | app f a i1 i2 =>
    intro hw g s hg h
    simp only [wf, Bool.and_eq_true] at hw
    rw [tm, Tm.node] at h
    obtain ⟨ts, h1, h2⟩ := infer_zero (by omega) (by omega) h
    obtain ⟨t, ts, rfl, q1, h1⟩ := infers_zero h1
    obtain ⟨t', ts, rfl, q2, h1⟩ := infers_zero h1
    have k1 := i1 hw.1 g t hg q1
    have k2 := i2 hw.2 g t' hg q2
    simp [inferStep] at h2
    split at h2
    · simp at h2
    · rename_i hh
      simp at hh
      obtain ⟨p, q, rfl⟩ := fn_of (k1.good (fun x hx => hg x (List.mem_reverse.1 hx))).2 hh.1
      simp [Ty.fn, Ty.args] at h2 hh
      have := (Ty.same_iff _ _).1 hh
      subst this
      rw [← h2]
      exact .app k1 k2
  | zero => intro _ g s hg h; rw [tm, Tm.node] at h; obtain ⟨ts, _, h2⟩ := infer_zero (by omega) (by omega) h; simp [inferStep] at h2; rw [← h2]; exact .zero
  | succ n i1 =>
    intro hw g s hg h
    simp only [wf] at hw
    rw [tm, Tm.node] at h
    obtain ⟨ts, h1, h2⟩ := infer_zero (by omega) (by omega) h
    obtain ⟨t, ts, rfl, q1, h1⟩ := infers_zero h1
    have k1 := i1 hw g t hg q1
    simp [inferStep] at h2
    split at h2
    · simp at h2
    · rename_i hh
      simp at hh
      have := (Ty.same_iff _ _).1 hh
      subst this
      simp at h2
      rw [← h2]
      exact .succ k1
  | recN t b f n i1 i2 i3 =>
    intro hw g s hg h
    simp only [wf, Bool.and_eq_true, beq_iff_eq] at hw
    rw [tm, Tm.tnode] at h
    obtain ⟨ts, h1, h2⟩ := infer_zero (by omega) (by omega) h
    obtain ⟨t1, ts, rfl, q1, h1⟩ := infers_zero h1
    obtain ⟨t2, ts, rfl, q2, h1⟩ := infers_zero h1
    obtain ⟨t3, ts, rfl, q3, h1⟩ := infers_zero h1
    have k1 := i1 hw.1.1.2 g t1 hg q1
    have k2 := i2 hw.1.2 g t2 hg q2
    have k3 := i3 hw.2 g t3 hg q3
    simp [inferStep] at h2
    split at h2
    · simp at h2
    · rename_i hh
      simp at hh
      have e1 := (Ty.same_iff _ _).1 hh.1
      have e2 := (Ty.same_iff _ _).1 hh.2.1
      have e3 := (Ty.same_iff _ _).1 hh.2.2
      simp at h2
      subst e1 e2 e3 h2
      exact .recN k1 k2 k3 hw.1.1.1
  | nil => intro _ g s hg h; rw [tm, Tm.node] at h; obtain ⟨ts, _, h2⟩ := infer_zero (by omega) (by omega) h; simp [inferStep] at h2; rw [← h2]; exact .nil
  | cons a b i1 i2 =>
    intro hw g s hg h
    simp only [wf, Bool.and_eq_true] at hw
    rw [tm, Tm.node] at h
    obtain ⟨ts, h1, h2⟩ := infer_zero (by omega) (by omega) h
    obtain ⟨t1, ts, rfl, q1, h1⟩ := infers_zero h1
    obtain ⟨t2, ts, rfl, q2, h1⟩ := infers_zero h1
    have k1 := i1 hw.1 g t1 hg q1
    have k2 := i2 hw.2 g t2 hg q2
    simp [inferStep] at h2
    split at h2
    · simp at h2
    · rename_i hh
      simp at hh
      have e1 := (Ty.same_iff _ _).1 hh.1
      have e2 := (Ty.same_iff _ _).1 hh.2
      simp at h2
      subst e1 e2 h2
      exact .cons k1 k2
  | fold t b f n i1 i2 i3 =>
    intro hw g s hg h
    simp only [wf, Bool.and_eq_true, beq_iff_eq] at hw
    rw [tm, Tm.tnode] at h
    obtain ⟨ts, h1, h2⟩ := infer_zero (by omega) (by omega) h
    obtain ⟨t1, ts, rfl, q1, h1⟩ := infers_zero h1
    obtain ⟨t2, ts, rfl, q2, h1⟩ := infers_zero h1
    obtain ⟨t3, ts, rfl, q3, h1⟩ := infers_zero h1
    have k1 := i1 hw.1.1.2 g t1 hg q1
    have k2 := i2 hw.1.2 g t2 hg q2
    have k3 := i3 hw.2 g t3 hg q3
    simp [inferStep] at h2
    split at h2
    · simp at h2
    · rename_i hh
      simp at hh
      have e1 := (Ty.same_iff _ _).1 hh.1
      have e2 := (Ty.same_iff _ _).1 hh.2.1
      have e3 := (Ty.same_iff _ _).1 hh.2.2
      simp at h2
      subst e1 e2 e3 h2
      exact .fold k1 k2 k3 hw.1.1.1
  | pair a b i1 i2 =>
    intro hw g s hg h
    simp only [wf, Bool.and_eq_true] at hw
    rw [tm, Tm.node] at h
    obtain ⟨ts, h1, h2⟩ := infer_zero (by omega) (by omega) h
    obtain ⟨t1, ts, rfl, q1, h1⟩ := infers_zero h1
    obtain ⟨t2, ts, rfl, q2, h1⟩ := infers_zero h1
    have k1 := i1 hw.1 g t1 hg q1
    have k2 := i2 hw.2 g t2 hg q2
    simp [inferStep] at h2
    obtain ⟨hc, rfl⟩ := okT_eq h2
    exact .pair k1 k2 hc
  | fst p i1 =>
    intro hw g s hg h
    simp only [wf] at hw
    rw [tm, Tm.node] at h
    obtain ⟨ts, h1, h2⟩ := infer_zero (by omega) (by omega) h
    obtain ⟨t, ts, rfl, q1, h1⟩ := infers_zero h1
    have k1 := i1 hw g t hg q1
    simp [inferStep] at h2
    split at h2
    · rename_i hh
      obtain ⟨p, q, rfl⟩ := pair_of (k1.good (fun x hx => hg x (List.mem_reverse.1 hx))).2 hh
      simp [Ty.pair, Ty.args] at h2
      rw [← h2]
      exact .fst k1
    · simp at h2
  | snd p i1 =>
    intro hw g s hg h
    simp only [wf] at hw
    rw [tm, Tm.node] at h
    obtain ⟨ts, h1, h2⟩ := infer_zero (by omega) (by omega) h
    obtain ⟨t, ts, rfl, q1, h1⟩ := infers_zero h1
    have k1 := i1 hw g t hg q1
    simp [inferStep] at h2
    split at h2
    · rename_i hh
      obtain ⟨p, q, rfl⟩ := pair_of (k1.good (fun x hx => hg x (List.mem_reverse.1 hx))).2 hh
      simp [Ty.pair, Ty.args] at h2
      rw [← h2]
      exact .snd k1
    · simp at h2
  | unit => intro _ g s hg h; rw [tm, Tm.node] at h; obtain ⟨ts, _, h2⟩ := infer_zero (by omega) (by omega) h; simp [inferStep] at h2; rw [← h2]; exact .unit
end T
theorem ctx_app {g : List Ty} {t : Ty} (hg : ∀ x ∈ g, x.check = 0) (ht : t.check = 0) : ∀ x ∈ g ++ [t], x.check = 0 := fun x hx => by
  rcases List.mem_append.1 hx with hx | hx
  · exact hg x hx
  · simp at hx; rw [hx]; exact ht
theorem infer_check {t : Tm} {g : List Ty} (hok : t.ok = true) (hg : ∀ x ∈ g, x.check = 0) (h : (t.infer g).2 = 0) : (t.infer g).1.check = 0 := by
  obtain ⟨u, rfl⟩ := T.of_ok t hok
  have := T.infer_ty u (by rw [← T.tm_ok]; exact hok) g (u.tm.infer g).1 hg (by rw [← h])
  exact (this.good fun x hx => hg x (List.mem_reverse.1 hx)).2
def Tm.typed (t : Tm) (g : List Ty) : Ty × Int := if t.check ≠ 0 then (.zero, t.check) else t.infer g
def Tm.eqs : List Tm → List Ty → Int
  | [], _ => 0
  | x :: l, g => if (x.typed g).2 ≠ 0 then (x.typed g).2 else if (x.typed g).1.kind ≠ 1 then 7 else Tm.eqs l g
mutual
def Fm.typ : Fm → List Ty → Int
  | .mk k t m l, g => if Tm.eqs m g ≠ 0 then Tm.eqs m g else Fm.typs l (if fmQ k = true then g ++ [t] else g)
def Fm.typs : List Fm → List Ty → Int
  | [], _ => 0
  | x :: l, g => if x.typ g ≠ 0 then x.typ g else Fm.typs l g
end
theorem Fm.typ_mk (k : Int) (t : Ty) (m : List Tm) (l : List Fm) (g : List Ty) : (Fm.mk k t m l).typ g = if Tm.eqs m g ≠ 0 then Tm.eqs m g else Fm.typs l (if fmQ k = true then g ++ [t] else g) := by rw [Fm.typ]
@[simp] theorem Fm.typs_nil (g : List Ty) : Fm.typs [] g = 0 := by rw [Fm.typs]
theorem Fm.typs_cons (x : Fm) (l : List Fm) (g : List Ty) : Fm.typs (x :: l) g = if x.typ g ≠ 0 then x.typ g else Fm.typs l g := by rw [Fm.typs]
def Fm.belowT (f : Fm) (g : List Ty) : Int := if f.check ≠ 0 then f.check else f.typ g
def Fm.typed (f : Fm) (g : List Ty) : Int := if ctxCheck g ≠ 0 then ctxCheck g else f.belowT g
theorem checks_all (g : List Ty) : checks g = 0 → ∀ x ∈ g, x.check = 0 := by
  induction g with
  | nil => intro _ x hx; simp at hx
  | cons y g ih =>
    rw [checks]
    split
    · rename_i hy
      intro h x hx
      rcases List.mem_cons.1 hx with rfl | hx
      · exact hy
      · exact ih h x hx
    · rename_i hy; exact fun h => absurd h hy
theorem ctx_checks {g : List Ty} (h : ctxCheck g = 0) : ∀ x ∈ g, x.check = 0 := by
  unfold ctxCheck at h
  split at h
  · cases h
  · exact checks_all g h
end Go.Proofs.YtcgmhnlmgomlgaaGreatDoor.V

set_option maxRecDepth 100000
namespace Go.Proofs.YtcgmhnlmgomlgaaGreatDoor.V
open Go Go.Proofs
theorem opP_sliceCap {C : Cfg} {dst : Option Nat} {ty t : TypeId} {k : St → Prop} {st : St} {x hi mx : Operand} {d : TyD} {e : TypeId} {de : TyD} {o : Own} {es : List (List Cell)} {kk kk' : IntKind} {n : Int} (h1 : C.T t = some d) (h2 : d.k = .slice e) (h3 : C.T e = some de) (hx : oper C st.env x = .one (.slice o de.size es)) (hh : oper C st.env hi = .one (.int kk n)) (hm : oper C st.env mx = .one (.int kk' n)) (hn0 : 0 ≤ n) (hn1 : n ≤ es.length)
    (hk : k (put st dst (.one (.slice .full de.size (es.take n.toNat))))) : opP C dst (.slice t x none (some hi) (some mx)) ty k st := by
  have e0 : opP C dst (.slice t x none (some hi) (some mx)) ty k st = opV C ⟨dst, .slice t x none (some hi) (some mx), ty, "", #[], none⟩ k st := rfl
  rw [e0]
  simp only [opV, opR]
  exact ⟨_, ⟨d, e, de, o, de.size, es, h1, h2, h3, rfl, hx, by simp [sliceR, hh, hm, hn0, hn1]⟩, hk⟩
@[simp] theorem erC_comp : erC ∘ erC = erC := funext erC_erC
theorem typed_check {k i : Int} {s : Ty} {l : List Tm} (h : (Tm.mk k i s l).ok = true) (hk : tmTyped k = true) : s.check = 0 := by
  simp only [Tm.ok_mk, Bool.and_eq_true, Tm.head, hk] at h
  simpa using h.1.2
theorem shape2 {i : Int} {s : Ty} {l : List Tm} (h : (Tm.mk 2 i s l).ok = true) : ∃ x, l = [x] ∧ x.ok = true ∧ s.check = 0 := by
  simp only [Tm.ok_mk, Bool.and_eq_true, Tm.oks_iff, Tm.head] at h
  obtain ⟨⟨⟨⟨h1, _⟩, _⟩, h3⟩, h2⟩ := h
  simp [tmArity] at h1
  simp [tmTyped] at h3
  match l, h1 with
  | [x], _ => exact ⟨x, rfl, h2 x (by simp), h3⟩
def infApp (ts : List Ty) (r : List Ty × Int) : List Ty × Int := if r.2 ≠ 0 then ([], r.2) else (ts ++ r.1, 0)
theorem infApp_nil (r : List Ty × Int) (h : r.2 ≠ 0 → r.1 = []) : infApp [] r = r := by
  unfold infApp
  split
  · rename_i hr; rw [← h hr]
  · rename_i hr; simp at hr; rw [← hr]; try rfl
theorem Tm.infers_err (l : List Tm) (g : List Ty) : (Tm.infers l g).2 ≠ 0 → (Tm.infers l g).1 = [] := by
  cases l with
  | nil => intro h; simp at h
  | cons x l =>
    rw [Tm.infers_cons]
    split
    · intro _; rfl
    · split
      · intro _; rfl
      · intro h; simp at h
def i154 (t : Tm) (l : List Tm) (g : List Ty) (σ : List Frm) (j : Nat) : St → Prop
  | ⟨env, loc, σ', live⟩ => ∃ ow ts, env 0 = .one (.slice .no 2 (g.map enc)) ∧ env 3 = .one (.box σ.length 3 0 0) ∧ env 4 = .one (.box σ.length 4 0 0) ∧ env 8 = .one (.slice ow 2 (ts.map enc)) ∧ env 67 = .one (.slice .no 5 (l.map encT)) ∧ env 68 = .one (.int .i64 l.length) ∧ env 69 = .one (.int .i64 j) ∧
    loc 3 = [encT t] ∧ loc 4 = [z25] ∧ σ' = σ ∧ okOwn live ow ∧ ts.length = j ∧ Tm.infers l g = infApp ts (Tm.infers (l.drop j) g) ∧ ∀ x ∈ ts, x.check = 0
theorem c154 (t : Tm) : t.ok = true → ∀ (g : List Ty), (∀ x ∈ g, x.check = 0) → t.size + Ty.sizes g ≤ 549755813888 → ∀ (σ : List Frm), CallsV cfg 154 [.one (.slice .no 2 (g.map enc)), .agg (encT t)] σ (.val (enc2 (t.infer g))) σ := by
  induction t using Tm.ind with
  | _ k i s l ih =>
  intro hok g hg hsz σ
  have hlg := Ty.length_le g
  obtain ⟨hi0, hpo⟩ := Tm.ok_parts hok
  refine w154 (by simp [enc2]) ?_
  rw [s154]
  by_cases hk : k = 1
  · subst hk
    rw [var_shape hok, Tm.infer_var]
    by_cases h : (g.length : Int) ≤ i
    · simp [h, enc2, Tm.var, Ty.zero]
    · have hlt : g.length - 1 - i.toNat < g.length := by omega
      obtain ⟨x, hx, _, hm⟩ := drop_cons hlt
      have hxs := Ty.sizes_mem hm
      have e : g.getD (g.length - 1 - i.toNat) .zero = x := by rw [List.getD_eq_getElem?_getD, hx]; try rfl
      rw [e]
      have hn : ((g.length : Int) - 1 - i).toNat = g.length - 1 - i.toNat := by omega
      simp [h, Tm.var]
      rw [wrap_id (n := (g.length : Int) - 1) (by omega) (by omega), wrap_id (by omega) (by omega)]
      simp [hn, hx]
      refine ⟨by omega, ?_⟩
      refine opV_call (c52 x (by omega) _) (by simp) ?_
      simp [enc2]
  by_cases hk2 : k = 2
  · subst hk2
    obtain ⟨x, rfl, hx, hsc⟩ := shape2 hok
    simp at hsz
    have hin : (Tm.mk 2 i s [x]).infer g = if (x.infer (g ++ [s])).2 ≠ 0 then (.zero, (x.infer (g ++ [s])).2) else okT (.fn s (x.infer (g ++ [s])).1) := by rw [Tm.infer, if_neg (by omega), if_pos rfl, Tm.inferh]
    rw [hin]
    have hgs := ctx_app hg hsc
    have hck := infer_check hx hgs
    simp
    refine wpP_draw (fun _ _ _ => false) ?_
    simp
    refine opP_sliceCap (o := .no) (es := g.map enc) (kk := .i64) (kk' := .i64) (n := (g.length : Int)) T27 rfl T30 (by simp) (by simp) (by simp) (by omega) (by simp) ?_
    have htk : (g.map enc).take g.length = g.map enc := List.take_of_length_le (by simp)
    simp [htk]
    refine ⟨by omega, by omega, ?_⟩
    refine stepD_call (ih x (by simp) hx (g ++ [s]) hgs (by simp; omega) _) (by simp) ?_
    by_cases he : (x.infer (g ++ [s])).2 = 0
    · have h64 := (Ty.check_iff.1 (hck he)).2
      simp [enc2, he]
      refine opV_call (c50 s (x.infer (g ++ [s])).1 (by omega) (by omega) _) (by simp) ?_
      simp
      refine opV_call (c159 (.fn s (x.infer (g ++ [s])).1) (by simp [Ty.fn]; omega) _) (by simp [Ty.fn]) ?_
      simp [enc2]
    · have he' : ((x.infer (g ++ [s])).2 == 0) = false := by simpa using he
      simp [enc2, he, he', bne, Ty.zero]
  have hlen := Tm.length_le l
  simp at hsz
  rw [Tm.infer_else hk hk2]
  simp [hk, hk2]
  refine wpP_range l.length (i154 (.mk k i s l) l g σ) (by omega) ⟨.full, [], by simp, by simp, by simp, by simp, by simp, by simp, by simp, by simp, by simp [z25], rfl, by simp, rfl, by simp [infApp_nil _ (Tm.infers_err l g)], by simp⟩ ?_ ?_ (hend := ?_)
  · rintro j ⟨env, loc, σ', live⟩ ⟨ow, ts, e0, e3, e4, e8, e67, e68, e69, h3, h4, rfl, how, htl, hinf, hts⟩
    exact ⟨e69, e68⟩
  · rintro j ⟨env, loc, σ', live⟩ hj ⟨ow, ts, e0, e3, e4, e8, e67, e68, e69, h3, h4, rfl, how, htl, hinf, hts⟩
    obtain ⟨x, hx, hd, hm⟩ := drop_cons hj
    have := Tm.sizes_mem hm
    have hck := infer_check (hpo x hm) hg
    rw [hd, Tm.infers_cons] at hinf
    simp [e0, e3, e4, e8, e67, e68, e69, h3, h4, hx]
    refine opV_call (ih x hm (hpo x hm) g hg (by omega) _) (by simp) ?_
    by_cases he : (x.infer g).2 = 0
    rotate_left
    · have he' : ((x.infer g).2 == 0) = false := by simpa using he
      rw [if_pos he] at hinf
      have hI : (Tm.infers l g).2 = (x.infer g).2 := by rw [hinf]; simp [infApp, he]
      simp [enc2, e0, e3, e4, e8, e67, e68, e69, h3, h4, he, he', bne, Ty.zero, z25, hI]
    · have hx0 := hck he
      simp [enc2, e0, e3, e4, e8, e67, e68, e69, h3, h4, he, how]
      refine ⟨by omega, by omega, .tip live.nx, ts ++ [(x.infer g).1], by simp, by simp, by simp, by simp, by simp, by simp, by simp, by simp [h3], by simp [h4], rfl, grown_on, by simp [htl], ?_, ?_⟩
      · rw [hinf, if_neg (by simpa using he)]
        by_cases h0 : (Tm.infers (l.drop (j + 1)) g).2 = 0
        · simp [infApp, h0]
        · simp [infApp, h0]
      · intro y hy
        rcases List.mem_append.1 hy with hy | hy
        · exact hts y hy
        · simp at hy; rw [hy]; exact hx0
  · rintro ⟨env, loc, σ', live⟩ ⟨ow, ts, e0, e3, e4, e8, e67, e68, e69, h3, h4, rfl, how, htl, hinf, hts⟩
    rw [List.drop_length, Tm.infers_nil] at hinf
    simp [infApp] at hinf
    have hz : ∀ x ∈ ts, x.size ≤ 64 := fun x hx => (Ty.check_iff.1 (hts x hx)).2
    have hn1 := Ty.nat_size
    rw [hinf]
    simp [e0, e3, e4, e8, h3, h4]
    refine opV_call (c27 _) (by simp) ?_
    simp [e0, e3, e4, e8, h3, h4]
    refine opV_call (c47 _) (by simp) ?_
    simp [e0, e3, e4, e8, h3, h4]
    obtain ⟨u, hu⟩ := T.of_ok _ hok
    cases u with
    | var n => simp only [T.tm, Tm.var] at hu; cases hu; exact absurd rfl hk
    | lam a b => simp only [T.tm, Tm.tnode] at hu; cases hu; exact absurd rfl hk2
    | app f a =>
      simp only [T.tm, Tm.node] at hu
      cases hu
      obtain ⟨p, q, rfl⟩ : ∃ p q, ts = [p, q] := by
        match ts, htl with
        | [p, q], _ => exact ⟨p, q, rfl⟩
      have hp := hts p (by simp)
      have hpz := hz p (by simp)
      have hqz := hz q (by simp)
      obtain ⟨pk, pl⟩ := p
      by_cases h : pk = 4
      · subst h
        obtain ⟨a', b', hab⟩ := fn_of hp rfl
        rw [Ty.fn] at hab
        cases hab
        simp at hpz
        refine wpP_draw (fun _ _ _ => false) ?_
        simp [e0, e3, e4, e8, h3, h4, z25]
        refine stepD_call (c16 a' q (by omega) _) (by simp) ?_
        cases hs : Ty.same a' q with
        | true => simp [e0, e3, e4, e8, h3, h4, z25, inferStep, Ty.kind, Ty.args, hs, enc2]
        | false => simp [e0, e3, e4, e8, h3, h4, z25, inferStep, Ty.kind, Ty.args, hs, enc2, Ty.zero]
      · have h' : (pk == 4) = false := by simpa using h
        refine wpP_draw (fun _ _ _ => false) ?_
        simp [e0, e3, e4, e8, h3, h4, z25, inferStep, h, h', Ty.kind, enc2, Ty.zero, bne]
    | zero =>
      simp only [T.tm, Tm.node] at hu
      cases hu
      simp [e0, e3, e4, e8, h3, h4, z25, inferStep, enc2, Ty.nat]
    | succ n =>
      simp only [T.tm, Tm.node] at hu
      cases hu
      obtain ⟨p, rfl⟩ : ∃ p, ts = [p] := by
        match ts, htl with
        | [p], _ => exact ⟨p, rfl⟩
      have hpz := hz p (by simp)
      refine wpP_draw (fun _ _ _ => false) ?_
      simp [e0, e3, e4, e8, h3, h4, z25]
      refine stepD_call (c16 p .nat (by omega) _) (by simp [Ty.nat]) ?_
      cases s1 : Ty.same p .nat with
      | false => simp [e0, e3, e4, e8, h3, h4, z25, inferStep, s1, enc2, Ty.zero]
      | true =>
        simp [e0, e3, e4, e8, h3, h4, z25, inferStep, s1, enc2]
        simp [Ty.nat]
    | recN a b f n =>
      simp only [T.tm, Tm.tnode] at hu
      cases hu
      obtain ⟨p, q, r, rfl⟩ : ∃ p q r, ts = [p, q, r] := by
        match ts, htl with
        | [p, q, r], _ => exact ⟨p, q, r, rfl⟩
      have hpz := hz p (by simp)
      have hqz := hz q (by simp)
      have hrz := hz r (by simp)
      refine wpP_draw (fun _ _ _ => false) ?_
      simp [e0, e3, e4, e8, h3, h4, z25]
      refine stepD_call (c16 p s (by omega) _) (by simp) ?_
      cases s1 : Ty.same p s with
      | false => simp [e0, e3, e4, e8, h3, h4, z25, inferStep, s1, enc2, Ty.zero]
      | true =>
        simp [e0, e3, e4, e8, h3, h4, z25]
        refine stepD_call (c50 s s (by omega) (by omega) _) (by simp) ?_
        simp
        refine stepD_call (c50 .nat (.fn s s) (by simp) (by simp; omega) _) (by simp [Ty.nat, Ty.fn]) ?_
        simp
        refine stepD_call (c16 q (.fn .nat (.fn s s)) (by omega) _) (by simp [Ty.nat, Ty.fn]) ?_
        cases s2 : Ty.same q (.fn .nat (.fn s s)) with
        | false => simp [e0, e3, e4, e8, h3, h4, z25, inferStep, s1, s2, enc2, Ty.zero]
        | true =>
          simp [e0, e3, e4, e8, h3, h4, z25]
          refine stepD_call (c16 r .nat (by omega) _) (by simp [Ty.nat]) ?_
          cases s3 : Ty.same r .nat with
          | false => simp [e0, e3, e4, e8, h3, h4, z25, inferStep, s1, s2, s3, enc2, Ty.zero]
          | true =>
            simp [e0, e3, e4, e8, h3, h4, z25, inferStep, s1, s2, s3]
            refine opV_call (c52 s (by omega) _) (by simp) ?_
            simp [e0, e3, e4, e8, h3, h4, z25, enc2]
    | nil =>
      simp only [T.tm, Tm.node] at hu
      cases hu
      simp [e0, e3, e4, e8, h3, h4, z25, inferStep, enc2, Ty.list]
    | cons a b =>
      simp only [T.tm, Tm.node] at hu
      cases hu
      obtain ⟨p, q, rfl⟩ : ∃ p q, ts = [p, q] := by
        match ts, htl with
        | [p, q], _ => exact ⟨p, q, rfl⟩
      have hpz := hz p (by simp)
      have hqz := hz q (by simp)
      refine wpP_draw (fun _ _ _ => false) ?_
      simp [e0, e3, e4, e8, h3, h4, z25]
      refine stepD_call (c16 p .nat (by omega) _) (by simp [Ty.nat]) ?_
      cases s1 : Ty.same p .nat with
      | false => simp [e0, e3, e4, e8, h3, h4, z25, inferStep, s1, enc2, Ty.zero]
      | true =>
        simp [e0, e3, e4, e8, h3, h4, z25]
        refine stepD_call (c16 q .list (by omega) _) (by simp [Ty.list]) ?_
        cases s2 : Ty.same q .list with
        | false => simp [e0, e3, e4, e8, h3, h4, z25, inferStep, s1, s2, enc2, Ty.zero]
        | true =>
          simp [e0, e3, e4, e8, h3, h4, z25, inferStep, s1, s2, enc2]
          simp [Ty.list]
    | fold a b f n =>
      simp only [T.tm, Tm.tnode] at hu
      cases hu
      have hs64 := (Ty.check_iff.1 (typed_check hok rfl)).2
      obtain ⟨p, q, r, rfl⟩ : ∃ p q r, ts = [p, q, r] := by
        match ts, htl with
        | [p, q, r], _ => exact ⟨p, q, r, rfl⟩
      have hpz := hz p (by simp)
      have hqz := hz q (by simp)
      have hrz := hz r (by simp)
      refine wpP_draw (fun _ _ _ => false) ?_
      simp [e0, e3, e4, e8, h3, h4, z25]
      refine stepD_call (c16 p s (by omega) _) (by simp) ?_
      cases s1 : Ty.same p s with
      | false => simp [e0, e3, e4, e8, h3, h4, z25, inferStep, s1, enc2, Ty.zero]
      | true =>
        simp [e0, e3, e4, e8, h3, h4, z25]
        refine stepD_call (c50 s s (by omega) (by omega) _) (by simp) ?_
        simp
        refine stepD_call (c50 .list (.fn s s) (by simp [Ty.list]) (by simp; omega) _) (by simp [Ty.list, Ty.fn]) ?_
        simp
        refine stepD_call (c50 .nat (.fn .list (.fn s s)) (by simp) (by simp [Ty.list]; omega) _) (by simp [Ty.nat, Ty.list, Ty.fn]) ?_
        simp
        refine stepD_call (c16 q (.fn .nat (.fn .list (.fn s s))) (by omega) _) (by simp [Ty.nat, Ty.list, Ty.fn]) ?_
        cases s2 : Ty.same q (.fn .nat (.fn .list (.fn s s))) with
        | false => simp [e0, e3, e4, e8, h3, h4, z25, inferStep, s1, s2, enc2, Ty.zero]
        | true =>
          simp [e0, e3, e4, e8, h3, h4, z25]
          refine stepD_call (c16 r .list (by omega) _) (by simp [Ty.list]) ?_
          cases s3 : Ty.same r .list with
          | false => simp [e0, e3, e4, e8, h3, h4, z25, inferStep, s1, s2, s3, enc2, Ty.zero]
          | true =>
            simp [e0, e3, e4, e8, h3, h4, z25, inferStep, s1, s2, s3]
            refine opV_call (c52 s (by omega) _) (by simp) ?_
            simp [e0, e3, e4, e8, h3, h4, z25, enc2]
    | pair a b =>
      simp only [T.tm, Tm.node] at hu
      cases hu
      obtain ⟨p, q, rfl⟩ : ∃ p q, ts = [p, q] := by
        match ts, htl with
        | [p, q], _ => exact ⟨p, q, rfl⟩
      have hpz := hz p (by simp)
      have hqz := hz q (by simp)
      refine wpP_draw (fun _ _ _ => false) ?_
      simp [e0, e3, e4, e8, h3, h4, z25]
      refine stepD_call (c49 p q (by omega) (by omega) _) (by simp) ?_
      simp
      refine stepD_call (c159 (.pair p q) (by simp [Ty.pair]; omega) _) (by simp [Ty.pair]) ?_
      simp [e0, e3, e4, e8, h3, h4, z25, inferStep, enc2]
    | fst p =>
      simp only [T.tm, Tm.node] at hu
      cases hu
      obtain ⟨p, rfl⟩ : ∃ p, ts = [p] := by
        match ts, htl with
        | [p], _ => exact ⟨p, rfl⟩
      have hp := hts p (by simp)
      obtain ⟨pk, pl⟩ := p
      by_cases h : pk = 3
      · subst h
        obtain ⟨a', b', hab⟩ := pair_of hp rfl
        rw [Ty.pair] at hab
        cases hab
        simp [e0, e3, e4, e8, h3, h4, z25, inferStep, Ty.kind, Ty.args, enc2]
      · have h' : (pk == 3) = false := by simpa using h
        simp [e0, e3, e4, e8, h3, h4, z25, inferStep, h, h', Ty.kind, enc2, Ty.zero, bne]
    | snd p =>
      simp only [T.tm, Tm.node] at hu
      cases hu
      obtain ⟨p, rfl⟩ : ∃ p, ts = [p] := by
        match ts, htl with
        | [p], _ => exact ⟨p, rfl⟩
      have hp := hts p (by simp)
      obtain ⟨pk, pl⟩ := p
      by_cases h : pk = 3
      · subst h
        obtain ⟨a', b', hab⟩ := pair_of hp rfl
        rw [Ty.pair] at hab
        cases hab
        simp [e0, e3, e4, e8, h3, h4, z25, inferStep, Ty.kind, Ty.args, enc2]
      · have h' : (pk == 3) = false := by simpa using h
        simp [e0, e3, e4, e8, h3, h4, z25, inferStep, h, h', Ty.kind, enc2, Ty.zero, bne]
    | unit =>
      simp only [T.tm, Tm.node] at hu
      cases hu
      simp [e0, e3, e4, e8, h3, h4, z25, inferStep]
      refine opV_call (c48 _) (by simp) ?_
      simp [e0, e3, e4, e8, h3, h4, z25, enc2, Ty.unit]
end Go.Proofs.YtcgmhnlmgomlgaaGreatDoor.V

set_option maxRecDepth 100000
namespace Go.Proofs.YtcgmhnlmgomlgaaGreatDoor.V
open Go Go.Proofs
theorem c148 (t : Tm) (g : List Ty) (hg : ∀ x ∈ g, x.check = 0) (hsz : t.size + Ty.sizes g ≤ 549755813888) (σ : List Frm) : CallsV cfg 148 [.one (.slice .no 2 (g.map enc)), .agg (encT t)] σ (.val (enc2 (t.typed g))) σ := by
  refine w148 (by simp [enc2]) ?_
  rw [s148]
  simp
  refine opV_call (c63 t (by omega) _) (by simp) ?_
  by_cases hc : t.check = 0
  · have hok := (Tm.check_ok hc).1
    simp [hc]
    refine opV_call (c154 t hok g hg hsz _) (by simp) ?_
    simp [Tm.typed, hc, enc2]
  · have hc' : (t.check == 0) = false := by simpa using hc
    simp [hc, hc', bne, Tm.typed, enc2, Ty.zero]
def i125a (f : Fm) (m : List Tm) (g : List Ty) (σ : List Frm) (j : Nat) : St → Prop
  | ⟨env, loc, σ', _⟩ => env 0 = .one (.slice .no 2 (g.map enc)) ∧ env 3 = .one (.box σ.length 3 0 0) ∧ env 13 = .one (.slice .no 5 (m.map encT)) ∧ env 14 = .one (.int .i64 m.length) ∧ env 15 = .one (.int .i64 j) ∧ loc 3 = [encF f] ∧ σ' = σ ∧ Tm.eqs m g = Tm.eqs (m.drop j) g
def i125b (l : List Fm) (g : List Ty) (σ : List Frm) (j : Nat) : St → Prop
  | ⟨env, _, σ', _⟩ => ∃ ow, erC (.slice ow 2 (g.map enc)) = .slice .no 2 (g.map enc) ∧ env 0 = .one (.slice ow 2 (g.map enc)) ∧ env 46 = .one (.slice .no 5 (l.map encF)) ∧ env 47 = .one (.int .i64 l.length) ∧ env 48 = .one (.int .i64 j) ∧ σ' = σ ∧ Fm.typs l g = Fm.typs (l.drop j) g
theorem c125 (f : Fm) : f.ok = true → ∀ (g : List Ty), (∀ x ∈ g, x.check = 0) → f.size + Ty.sizes g ≤ 549755813888 → ∀ (σ : List Frm), CallsV cfg 125 [.one (.slice .no 2 (g.map enc)), .agg (encF f)] σ (.val (.one (.int .i64 (f.typ g)))) σ := by
  induction f using Fm.ind with
  | _ k t m l ih =>
  intro hok g hg hsz σ
  simp at hsz
  have hlm := Tm.length_le m
  have hll := Fm.length_le l
  have hlg := Ty.length_le g
  obtain ⟨hmo, hlo⟩ := Fm.ok_parts hok
  refine w125 (by simp) ?_
  rw [s125, Fm.typ_mk]
  simp
  refine wpP_range m.length (i125a (.mk k t m l) m g σ) (by omega) ⟨by simp, by simp, by simp, by simp, by simp, by simp, rfl, by simp⟩ ?_ ?_ (hend := ?_)
  · rintro j ⟨env, loc, σ', live⟩ ⟨e0, e3, e13, e14, e15, h3, rfl, hq⟩
    exact ⟨e15, e14⟩
  · rintro j ⟨env, loc, σ', live⟩ hj ⟨e0, e3, e13, e14, e15, h3, rfl, hq⟩
    obtain ⟨x, hx, hd, hm⟩ := drop_cons hj
    have := Tm.sizes_mem hm
    rw [hd, Tm.eqs] at hq
    simp [e0, e3, e13, e14, e15, h3, hx]
    refine opV_call (c148 x g hg (by omega) _) (by simp) ?_
    by_cases h1 : (x.typed g).2 = 0
    rotate_left
    · have h1' : ((x.typed g).2 == 0) = false := by simpa using h1
      rw [if_pos h1] at hq
      simp [enc2, h1, h1', bne, hq]
    rw [if_neg (by simpa using h1)] at hq
    simp [enc2, h1, e0, e3, e13, e14, e15, h3]
    by_cases h2 : (x.typed g).1.kind = 1
    · rw [if_neg (by simpa using h2)] at hq
      simp [h2, e0, e3, e13, e14, e15, h3]
      exact ⟨by simp, by simp, by simp, by simp, by simp, by simp [h3], rfl, hq⟩
    · have h2' : ((x.typed g).1.kind == 1) = false := by simpa using h2
      rw [if_pos h2] at hq
      simp [h2, h2', bne, hq]
  · rintro ⟨env, loc, σ', live⟩ ⟨e0, e3, e13, e14, e15, h3, rfl, hq⟩
    have hq0 : Tm.eqs m g = 0 := by rw [hq, List.drop_length, Tm.eqs]
    simp only [hq0, if_true, ne_eq, not_true_eq_false, if_false]
    simp [e0, e3, h3]
    refine opV_call (c132 k _) (by simp) ?_
    cases hk : fmQ k with
    | false =>
      simp [e0, e3, h3]
      refine wpP_range l.length (i125b l g σ') (by omega) ⟨.no, rfl, by simp, by simp, by simp, by simp, rfl, by simp⟩ ?_ ?_ (hend := ?_)
      · rintro j ⟨env, loc, σ', live⟩ ⟨ow, _, e0, e46, e47, e48, rfl, hq⟩
        exact ⟨e48, e47⟩
      · rintro j ⟨env, loc, σ', live⟩ hj ⟨ow, _, e0, e46, e47, e48, rfl, hq⟩
        obtain ⟨x, hx, hd, hm⟩ := drop_cons hj
        have := Fm.sizes_mem hm
        rw [hd, Fm.typs_cons] at hq
        simp [e0, e46, e47, e48, hx]
        refine opV_call (ih x hm (hlo x hm) g hg (by omega) _) (by simp) ?_
        by_cases h1 : x.typ g = 0
        · rw [if_neg (by simpa using h1)] at hq
          simp [h1, e0, e46, e47, e48]
          exact ⟨ow, rfl, by simp, by simp, by simp, by simp, rfl, hq⟩
        · have h1' : (x.typ g == 0) = false := by simpa using h1
          rw [if_pos h1] at hq
          simp [h1, h1', bne, hq]
      · rintro ⟨env, loc, σ', live⟩ ⟨ow, _, e0, e46, e47, e48, rfl, hq⟩
        rw [List.drop_length, Fm.typs_nil] at hq
        simp [hq]
    | true =>
      have hct : t.check = 0 := by
        rcases Fm.shape hok with ⟨rfl, _⟩ | ⟨h, _⟩ | ⟨_, h, _⟩
        · simp [fmQ] at hk
        · rcases h with rfl | rfl <;> simp [fmQ] at hk
        · exact h
      have hgt := ctx_app hg hct
      have htk : (g.map enc).take g.length = g.map enc := List.take_of_length_le (by simp)
      simp [e0, e3, h3]
      refine wpP_draw (fun _ _ _ => false) ?_
      simp [e0, e3, h3]
      refine opP_sliceCap (o := .no) (es := g.map enc) (kk := .i64) (kk' := .i64) (n := (g.length : Int)) T27 rfl T30 (by simp) (by simp) (by simp) (by omega) (by simp) ?_
      simp [htk, e0, e3, h3]
      refine ⟨by omega, by omega, ?_⟩
      refine wpP_range l.length (i125b l (g ++ [t]) σ') (by omega) ⟨.tip live.nx, rfl, by simp, by simp, by simp, by simp, rfl, by simp⟩ ?_ ?_ (hend := ?_)
      · rintro j ⟨env, loc, σ', live⟩ ⟨ow, _, e0, e46, e47, e48, rfl, hq⟩
        exact ⟨e48, e47⟩
      · rintro j ⟨env, loc, σ', live⟩ hj ⟨ow, _, e0, e46, e47, e48, rfl, hq⟩
        obtain ⟨x, hx, hd, hm⟩ := drop_cons hj
        have := Fm.sizes_mem hm
        rw [hd, Fm.typs_cons] at hq
        simp at e0
        simp [e0, e46, e47, e48, hx]
        refine opV_call (ih x hm (hlo x hm) (g ++ [t]) hgt (by simp; omega) _) (by simp) ?_
        by_cases h1 : x.typ (g ++ [t]) = 0
        · rw [if_neg (by simpa using h1)] at hq
          simp [h1, e0, e46, e47, e48]
          exact ⟨ow, rfl, by simp, by simp, by simp, by simp, rfl, hq⟩
        · have h1' : (x.typ (g ++ [t]) == 0) = false := by simpa using h1
          rw [if_pos h1] at hq
          simp [h1, h1', bne, hq]
      · rintro ⟨env, loc, σ', live⟩ ⟨ow, _, e0, e46, e47, e48, rfl, hq⟩
        rw [List.drop_length, Fm.typs_nil] at hq
        simp [hq]
theorem c88 (f : Fm) (g : List Ty) (hg : ∀ x ∈ g, x.check = 0) (hsz : f.size + Ty.sizes g ≤ 549755813888) (σ : List Frm) : CallsV cfg 88 [.one (.slice .no 2 (g.map enc)), .agg (encF f)] σ (.val (.one (.int .i64 (f.belowT g)))) σ := by
  refine w88 (by simp) ?_
  rw [s88]
  simp
  refine opV_call (c60 f (by omega) _) (by simp) ?_
  by_cases hc : f.check = 0
  · simp [hc]
    refine opV_call (c125 f (Fm.check_ok2 hc).1 g hg hsz _) (by simp) ?_
    simp [Fm.belowT, hc]
  · have hc' : (f.check == 0) = false := by simpa using hc
    simp [hc, hc', bne, Fm.belowT]
theorem c32 (f : Fm) (g : List Ty) (hsz : f.size + Ty.sizes g ≤ 549755813888) (σ : List Frm) : CallsV cfg 32 [.one (.slice .no 2 (g.map enc)), .agg (encF f)] σ (.val (.one (.int .i64 (f.typed g)))) σ := by
  refine w32 (by simp) ?_
  rw [s32]
  simp
  refine opV_call (c87 g (by omega) _) (by simp) ?_
  by_cases hc : ctxCheck g = 0
  · simp [hc]
    refine opV_call (c88 f g (ctx_checks hc) hsz _) (by simp) ?_
    simp [Fm.typed, hc]
  · have hc' : (ctxCheck g == 0) = false := by simpa using hc
    simp [hc, hc', bne, Fm.typed]
end Go.Proofs.YtcgmhnlmgomlgaaGreatDoor.V

namespace Go.Proofs.YtcgmhnlmgomlgaaGreatDoor.V
open Go
theorem made_typed {g : List Ty} {t : Ty} {x : Tm} (h : T.Made g t x) (hc : x.check = 0) : x.typed g = (t, 0) := by
  obtain ⟨u, rfl, h⟩ := h
  unfold Tm.typed
  rw [if_neg (by simpa using hc), h.infer g rfl]
theorem Tm.check_small {x : Tm} (h1 : x.ok = true) (h2 : x.count ≤ 4096) : x.check = 0 := by unfold Tm.check; rw [if_pos h1, if_pos h2]
theorem mkTerm1_typed (g : List Ty) (r : List Int) (hg : Good 3 g) : (mkTerm 1 g .nat r).1.typed g = (.nat, 0) := by
  have hn : Ty.nat.ok = true ∧ Ty.nat.size ≤ 3 := ⟨Ty.nat_ok, by simp⟩
  exact made_typed (T.mkTerm_made (m := 3) (by omega) 1 g .nat r hg hn) (Tm.check_small (mkTerm_fine (m := 3) (by omega) 1 g .nat r hg hn).1 (Nat.le_trans (mkTerm1_nat g r hg).1 (by omega)))
theorem eq_typ {g : List Ty} {x y : Tm} (hx : x.typed g = (.nat, 0)) (hy : y.typed g = (.nat, 0)) : (Fm.eq x y).typ g = 0 := by
  simp [Fm.eq, Fm.typ_mk, Tm.eqs, hx, hy, Ty.nat]
theorem two_typ {g : List Ty} {k : Int} (hk : k = 2 ∨ k = 3) {x y : Fm} (hx : x.typ g = 0) (hy : y.typ g = 0) : (Fm.two k x y).typ g = 0 := by
  rcases hk with rfl | rfl <;> simp [Fm.two, Fm.typ_mk, Tm.eqs, Fm.typs_cons, hx, hy, fmQ]
theorem q_typ {g : List Ty} {k : Int} (hk : k = 4 ∨ k = 5 ∨ k = 6 ∨ k = 7) {s : Ty} {x : Fm} (hx : x.typ (g ++ [s]) = 0) : (Fm.q k s x).typ g = 0 := by
  rcases hk with rfl | rfl | rfl | rfl <;> simp [Fm.q, Fm.typ_mk, Tm.eqs, Fm.typs_cons, hx, fmQ]
theorem mkFormula_typ (d : Nat) : ∀ (g : List Ty) (r : List Int), Good 3 g → (mkFormula d g r).1.typ g = 0 := by
  induction d with
  | zero => exact fun g r hg => by rw [mkFormula]; exact eq_typ (mkTerm1_typed g _ hg) (mkTerm1_typed g _ hg)
  | succ d ih =>
    intro g r hg
    have t0 : ∀ r, Good 3 (g ++ [(mkType 0 r).1]) := fun r => hg.app (Good.one ⟨(mkType0 r).1, by have := (mkType0 r).2; omega⟩)
    have t1 : ∀ r, Good 3 (g ++ [(mkType 1 r).1]) := fun r => hg.app (Good.one (mkType1 r))
    have hc := next_range (n := 9) (by omega) r
    rw [mkFormula]
    simp only
    split
    · exact two_typ (.inl rfl) (ih g _ hg) (ih g _ hg)
    split
    · exact two_typ (.inr rfl) (ih g _ hg) (ih g _ hg)
    split
    · exact q_typ (.inl rfl) (ih _ _ (t1 _))
    split
    · exact q_typ (.inr (.inl rfl)) (ih _ _ (t1 _))
    split
    · have h2 := next_range (n := 2) (by omega) (mkType 0 (next 9 r).2).2
      exact q_typ (by omega) (ih _ _ (t0 _))
    · exact eq_typ (mkTerm1_typed g _ hg) (mkTerm1_typed g _ hg)
theorem made_up {g : List Ty} {s t : Ty} {x : Tm} (h : T.Made g t x) : T.Made (g ++ [s]) t (x.up 0 1) := by
  obtain ⟨u, rfl, h⟩ := h
  refine ⟨u.ren (T.sh 0 1), by simpa using (T.tm_up u 0 1).symm, ?_⟩
  rw [List.reverse_append]
  exact h.ren fun i x hx => by simpa [T.sh] using hx
theorem less_typ {g : List Ty} {x : Tm} (h : T.Made g .nat x) (hok : x.ok = true) (hc : x.count ≤ 4000) : (less (.var 0) (x.up 0 1)).typ (g ++ [.nat]) = 0 := by
  have huo := Tm.up_ok x 0 1 (by omega) hok
  have huc := Tm.up_count x 0 1
  have hv : T.Made (g ++ [.nat]) .nat (.var 0) := ⟨.var 0, rfl, .var (by simp)⟩
  refine eq_typ (made_typed (T.Made.app (T.Made.app T.made_sub (T.Made.succ hv)) (made_up h)) (Tm.check_small ?_ ?_)) (made_typed ⟨.zero, rfl, .zero⟩ (Tm.check_small Tm.zero_ok (by simp [Tm.node])))
  · exact Tm.app_ok (Tm.app_ok Tm.sub_ok (Tm.succ_ok (Tm.var_ok (by omega)))) huo
  · simp [Tm.app2, Tm.app, Tm.node, Tm.sub_count, Tm.var]
    omega
theorem bform_typ {g : List Ty} {all : Bool} {x : Tm} {f : Fm} (h : T.Made g .nat x) (hok : x.ok = true) (hc : x.count ≤ 4000) (hf : f.typ (g ++ [.nat]) = 0) : (bform all (x.up 0 1) f).typ g = 0 := by
  have hl := less_typ h hok hc
  cases all
  · exact q_typ (.inr (.inl rfl)) (two_typ (.inl rfl) hl hf)
  · exact q_typ (.inl rfl) (two_typ (.inr rfl) hl hf)
theorem mkEq_typ (g : List Ty) (r : List Int) (hg : Good 3 g) : (mkEq g r).1.typ g = 0 := eq_typ (mkTerm1_typed g _ hg) (mkTerm1_typed g _ hg)
theorem mkDec_typ (d : Nat) : ∀ (g : List Ty) (r : List Int), Good 3 g → (mkDec d g r).1.typ g = 0 := by
  have hn : Ty.nat.ok = true ∧ Ty.nat.size ≤ 3 := ⟨Ty.nat_ok, by simp⟩
  induction d with
  | zero => exact fun g r hg => by rw [mkDec]; exact mkEq_typ g r hg
  | succ d ih =>
    intro g r hg
    rw [mkDec]
    simp only
    split
    · exact two_typ (.inl rfl) (ih g _ hg) (ih g _ hg)
    split
    · exact two_typ (.inr rfl) (ih g _ hg) (ih g _ hg)
    split
    · split
      · rename_i hb
        rw [(bounded_ok hb).2.2.1]
        exact bform_typ (T.mkTerm_made (m := 3) (by omega) 1 g .nat _ hg hn) (mkTerm_fine (m := 3) (by omega) 1 g .nat _ hg hn).1 (Nat.le_trans (mkTerm1_nat g _ hg).1 (by omega)) (ih _ _ (hg.app (Good.one hn)))
      · exact mkEq_typ g _ hg
    · exact mkEq_typ g _ hg
theorem bounded_small {all : Bool} {x : Tm} {f : Fm} (hx : x.ok = true) (hxc : x.count ≤ 1000) (hxl : x.least 536870912 = true) (hf : f.ok = true) (hfc : f.count ≤ 1000) : bounded all x f = (bform all (x.up 0 1) f, 0) ∧ (bform all (x.up 0 1) f).check = 0 := by
  have huo := Tm.up_ok x 0 1 (by omega) hx
  have huc := Tm.up_count x 0 1
  have hb := bform_ok (all := all) huo hf
  have hbc : (bform all (x.up 0 1) f).count = 2 + (less (.var 0) (x.up 0 1)).count + f.count := by simp [bform, Fm.q, Fm.two]; omega
  have hl : (less (.var 0) (x.up 0 1)).count ≤ 1022 := by
    simp [less, Fm.eq, Tm.app2, Tm.app, Tm.node, Tm.sub_count, Tm.var]
    omega
  have hbk : (bform all (x.up 0 1) f).check = 0 := Fm.check_small hb (by omega)
  have hlift : x.liftT 0 1 = (x.up 0 1, 0) := by
    unfold Tm.liftT
    rw [if_neg (by simpa using Tm.check_small hx (by omega)), if_neg (by simp [hxl])]
  refine ⟨?_, hbk⟩
  unfold bounded
  rw [hlift]
  simp only [ne_eq, not_true_eq_false, if_false, Fm.check_small hf (Nat.le_trans hfc (by omega)), hbk]
end Go.Proofs.YtcgmhnlmgomlgaaGreatDoor.V

set_option maxRecDepth 100000
namespace Go.Proofs.YtcgmhnlmgomlgaaGreatDoor.V
open Go Go.Proofs
structure TermMade (g : List Ty) (x : Tm) : Prop where
  ok : x.ok = true
  cnt : x.count ≤ 76
  size : x.size ≤ 100000
  least : x.least 536870912 = true
  made : T.Made g .nat x
structure BodyMade (g : List Ty) (f : Fm) : Prop where
  ok : f.ok = true
  cnt : f.count ≤ 399
  size : f.size ≤ 200000
  least : f.least 536870912 = true
  typ : f.typ g = 0
theorem termMade (g : List Ty) (r : List Int) (hg : Good 3 g) (hl : g.length ≤ 3) : TermMade g (mkTerm 2 g .nat r).1 := by
  have hn : Ty.nat.ok = true ∧ Ty.nat.size ≤ 3 := ⟨Ty.nat_ok, by simp⟩
  have hg64 : Good 64 g := fun x hx => ⟨(hg x hx).1, by have := (hg x hx).2; omega⟩
  have h1 := mkTerm_fine (m := 3) (by omega) 2 g .nat r hg hn
  have h2 : tmB 3 2 ≤ 100000 := by decide
  exact ⟨h1.1, mkTerm2_cnt g .nat r hg hn, Nat.le_trans h1.2 h2, mkTerm_least 2 _ _ _ _ hg64 ⟨Ty.nat_ok, by simp⟩ (by omega), T.mkTerm_made (m := 3) (by omega) 2 g .nat r hg hn⟩
theorem bodyMade1 (g : List Ty) (r : List Int) (hg : Good 3 g) (hl : g.length ≤ 4) : BodyMade g (mkFormula 2 g r).1 := by
  have hg64 : Good 64 g := fun x hx => ⟨(hg x hx).1, by have := (hg x hx).2; omega⟩
  have h1 := mkFormula_fine (m := 3) (by omega) (by omega) 2 g r hg
  have h2 : fmB 3 2 ≤ 3000 := by decide
  have h3 := (mkFormula_cnt 2 g r hg).1
  have h4 : fcB 2 ≤ 399 := by decide
  exact ⟨h1.1, by omega, by have := h1.2; omega, mkFormula_least 2 _ _ _ hg64 (by omega), mkFormula_typ 2 g r hg⟩
theorem bodyMade2 (g : List Ty) (r : List Int) (hg : Good 3 g) (hl : g.length ≤ 4) : BodyMade g (mkDec 2 g r).1 := by
  have hg64 : Good 64 g := fun x hx => ⟨(hg x hx).1, by have := (hg x hx).2; omega⟩
  have h1 := mkDec_fine (m := 3) (by omega) (by omega) 2 g r hg
  have h2 : dB 3 2 ≤ 3000 := by decide
  have h3 := (mkDec_cnt 2 g r hg).1
  have h4 : fcB 2 ≤ 399 := by decide
  exact ⟨h1.1, by omega, by have := h1.2.1; omega, mkDec_least 2 _ _ _ hg64 (by omega), mkDec_typ 2 g r hg⟩
theorem bform_facts {g : List Ty} (all : Bool) {x : Tm} {f : Fm} (hg : Good 3 g) (hl : g.length ≤ 3) (hx : TermMade g x) (hf : BodyMade (g ++ [.nat]) f) :
    bounded all x f = (bform all (x.up 0 1) f, 0) ∧ (bform all (x.up 0 1) f).check = 0 ∧ (bform all (x.up 0 1) f).size ≤ 400000 ∧ (bform all (x.up 0 1) f).least 9223372036854775807 = true ∧ (bform all (x.up 0 1) f).boundE = (all, x, f, true) ∧
      (bform all (x.up 0 1) f).cls.d = f.cls.d ∧ (bform all (x.up 0 1) f).cls.q = false ∧ (bform all (x.up 0 1) f).typed g = 0 := by
  obtain ⟨h1, h2⟩ := bounded_small (all := all) hx.ok (by have := hx.cnt; omega) hx.least hf.ok (by have := hf.cnt; omega)
  have h3 := bform_size all (x.up 0 1) f
  rw [Tm.up_size'] at h3
  have h4 := bform_least (all := all) (m := 536870912 + 1) (by omega) (Tm.up_least (b := 1) (by omega) x 0 hx.least) (Fm.least_mono (by omega) f hf.least)
  have h5 := bound_bform all x f
  have h6 : (bform all (x.up 0 1) f).boundE = (all, x, f, true) := by
    have := up_put .zeroT x hx.ok 0 0
    rw [show (0 : Int) + 0 = 0 from rfl] at this
    unfold Fm.boundE
    rw [if_neg (by simpa using h2), if_neg (by rw [h5]; simp), h5, this]
  have hz := hx.size
  have hz2 := hf.size
  have h7 : ctxCheck g = 0 := by
    unfold ctxCheck
    rw [if_neg (by omega)]
    have : ∀ l : List Ty, Good 3 l → checks l = 0 := by
      intro l hl
      induction l with
      | nil => rfl
      | cons y l ih =>
        rw [checks, if_pos (Ty.check_iff.2 ⟨(hl y (by simp)).1, by have := (hl y (by simp)).2; omega⟩)]
        exact ih fun z hz => hl z (by simp [hz])
    exact this g hg
  refine ⟨h1, h2, by omega, Fm.least_mono (by omega) _ h4, h6, cls_bform all x f, ?_, ?_⟩
  · have e : bform all (x.up 0 1) f = .mk (if all = true then 4 else 5) .nat [] [.two (if all = true then 3 else 2) (less (.var 0) (x.up 0 1)) f] := rfl
    rw [e, cls_q (by cases all <;> simp)]
  · unfold Fm.typed Fm.belowT
    rw [if_neg (by simpa using h7), if_neg (by simpa using h2)]
    exact bform_typ hx.made hx.ok (by have := hx.cnt; omega) hf.typ
def r5 (l : List Int) (g : List Ty) (x : Tm) (all : Bool) (σ : List Frm) : St → Prop
  | ⟨env, loc, σ', _⟩ => ∃ f, BodyMade (g ++ [.nat]) f ∧ env 1 = .one (.bool all) ∧ env 6 = .one (.slice .no 2 (g.map enc)) ∧ env 8 = .one (.box σ.length 8 0 0) ∧ env 9 = .one (.box σ.length 9 0 0) ∧ loc 8 = [encT x] ∧ loc 9 = [encF f] ∧ σ' = σ
theorem law5 (l : List Int) (hi : i64s l) (all : Bool) (σ : List Frm) : CallsV cfg 5 [.one (.slice .no 1 (encI l)), .one (.bool all)] σ (.val (.one (.bool true))) σ := by
  refine w5 (by simp) ?_
  rw [s5]
  simp
  refine opV_call (c7 _) (by simp) ?_
  simp
  refine opV_call (c8 l _) (by simp) ?_
  by_cases hl : l.length ≤ 500
  rotate_left
  · simp [hl]
  simp [hl]
  have hd : Dk l := ⟨by omega, hi⟩
  refine opV_new (c9 l _) (by simp) ?_
  simp
  refine opV_own1 (d10 hd ⟨σ.length, 28, 0⟩ (List.suffix_refl l)) (by simp) (by simp [Pl.ptr]) ?_
  have hc := mkContext_good l
  have hcs := mkContext_suf l
  generalize (mkContext l).1 = g at hc
  generalize (mkContext l).2 = r1 at hcs
  have hg : Good 64 g := fun x hx => ⟨(hc.1 x hx).1, by have := (hc.1 x hx).2; omega⟩
  have hnat : Ty.nat.ok = true ∧ Ty.nat.size ≤ 64 := ⟨Ty.nat_ok, by simp⟩
  have hgs3 : Good 3 (g ++ [.nat]) := hc.1.app (Good.one ⟨Ty.nat_ok, by simp⟩)
  have hgs : Good 64 (g ++ [.nat]) := hg.app (Good.one hnat)
  simp
  refine opV_call (c27 _) (by simp) ?_
  simp
  refine opV_own1 (d23 hd ⟨σ.length, 28, 0⟩ 2 (by omega) g .nat hg hnat (by omega) hcs) (by simp) (by simp [Pl.ptr, Ty.nat]) ?_
  have hx := termMade g r1 hc.1 hc.2
  have hr2 := (mkTerm_suf 2 g .nat r1).trans hcs
  generalize (mkTerm 2 g .nat r1).1 = x at hx
  generalize (mkTerm 2 g .nat r1).2 = r2 at hr2
  simp
  refine wpP_draw (atPl ⟨σ.length, 28, 0⟩) ?_
  simp [atPl]
  refine ⟨by omega, by omega, by omega, by omega, ?_⟩
  refine stepD_own (d20 hd ⟨σ.length, 28, 0⟩ 2 (by omega) (g ++ [.nat]) hgs (by simp; omega) hr2) (by simp) (by simp [Pl.ptr, Ty.nat]) ?_
  have hf1 := bodyMade1 (g ++ [.nat]) r2 hgs3 (by simp; omega)
  have hr3 := (mkFormula_suf 2 (g ++ [.nat]) r2).trans hr2
  generalize (mkFormula 2 (g ++ [.nat]) r2).1 = f1 at hf1
  generalize (mkFormula 2 (g ++ [.nat]) r2).2 = r3 at hr3
  simp [atPl, -wpP_seq]
  refine wpP_cut (r5 l g x all σ) ?_ ?_
  · simp
    refine opV_own1 (dNext hd hr3 ⟨σ.length, 28, 0⟩ (n := 2) (by omega)) (by simp) (by simp [Pl.ptr]) ?_
    have hr4 := (next_suf 2 r3).trans hr3
    by_cases h0 : (next 2 r3).1 = 0
    · simp [h0]
      refine wpP_draw (atPl ⟨σ.length, 28, 0⟩) ?_
      simp [atPl]
      refine ⟨by omega, by omega, by simp [grownLive, upd], by omega, by omega, ?_⟩
      refine stepD_own (d12 hd ⟨σ.length, 28, 0⟩ 2 (by omega) (g ++ [.nat]) hgs (by simp; omega) hr4) (by simp) (by simp [Pl.ptr, Ty.nat]) ?_
      have hf2 := bodyMade2 (g ++ [.nat]) (next 2 r3).2 hgs3 (by simp; omega)
      simp
      exact ⟨_, hf2, by simp, by simp, by simp, by simp, by simp, by simp, rfl⟩
    · have h0' : ((next 2 r3).1 == 0) = false := by simpa using h0
      simp [h0, h0']
      exact ⟨_, hf1, by simp, by simp, by simp, by simp, by simp, by simp, rfl⟩
  · rintro ⟨env, loc, σ', live⟩ ⟨f, hf, e1, e6, e8, e9, h8, h9, rfl⟩
    obtain ⟨q1, q2, q3, q4, q5, q6, q7, q8⟩ := bform_facts all hc.1 hc.2 hx hf
    have hxs := hx.size
    have hfs := hf.size
    have hxl := Tm.least_mono (M := 9223372036854775807) (by omega) x hx.least
    have hfl := Fm.least_mono (M := 9223372036854775807) (by omega) f hf.least
    have hsg := hg.sizes
    have hfc := Fm.check_small hf.ok (by have := hf.cnt; omega)
    simp [e1, e6, e8, e9, h8, h9]
    refine opV_call (c29 all x f (by omega) (by omega) hxl _) (by simp) ?_
    rw [q1]
    generalize bform all (x.up 0 1) f = b at *
    simp [e1, e6, e8, e9, h8, h9]
    refine opV_call (c30 b (by omega) q4 _) (by simp) ?_
    rw [q5]
    simp [encB, e1, e6, e8, e9, h8, h9]
    refine opV_call (c26 b (by omega) q4 q2 _) (by simp) ?_
    rw [q6]
    simp [e1, e6, e8, e9, h8, h9]
    refine opV_call (c26 f (by omega) hfl hfc _) (by simp) ?_
    simp [e1, e6, e8, e9, h8, h9]
    refine opV_call (c25 b (by omega) q4 q2 _) (by simp) ?_
    rw [q7]
    simp [e1, e6, e8, e9, h8, h9]
    refine opV_call (c31 x x (by omega) _) (by simp) ?_
    simp [e1, e6, e8, e9, h8, h9, Tm.same_refl]
    refine opV_call (c17 f f (by omega) _) (by simp) ?_
    simp [e1, e6, e8, e9, h8, h9, Fm.same_refl]
    refine opV_call (c32 b g (by omega) _) (by simp) ?_
    simp [q8]
end Go.Proofs.YtcgmhnlmgomlgaaGreatDoor.V

namespace Go.Proofs.YtcgmhnlmgomlgaaGreatDoor.V
open Go Go.RowKit
section
variable {H : Type} {henc : TypeId × Value → H} {P : Program} {W : World} {M : Map}
def RepL (W : World) (M : Map) (cs : List Cell) (vs : List Value) : Prop := cs.length = vs.length ∧ ∀ (i : Nat) (c : Cell) (v : Value), cs[i]? = some c → vs[i]? = some v → RepC W M c v
theorem RepL.app {a b : List Cell} {va vb : List Value} (h : RepL W M a va) (k : RepL W M b vb) : RepL W M (a ++ b) (va ++ vb) := by
  refine ⟨by simp [h.1, k.1], fun i c v hc hv => ?_⟩
  by_cases hi : i < a.length
  · rw [List.getElem?_append_left hi] at hc
    rw [List.getElem?_append_left (by rw [← h.1]; exact hi)] at hv
    exact h.2 i c v hc hv
  · rw [List.getElem?_append_right (by omega)] at hc
    rw [List.getElem?_append_right (by rw [← h.1]; omega), ← h.1] at hv
    exact k.2 _ c v hc hv
theorem RepL.one {c : Cell} {v : Value} (h : RepC W M c v) : RepL W M [c] [v] := by
  refine ⟨rfl, fun i c' v' hc hv => ?_⟩
  cases i with
  | zero => cases hc; cases hv; exact h
  | succ i => simp at hc
abbrev tr (henc : TypeId × Value → H) (P : Program) (W : World) (n : Nat) (t : TypeId) (cs : List Value) : Option (DataW H × List MemPlace) := DataW.trod henc P W 0 (fun _ => true) true n t cs
theorem mapM_get {α β : Type} {f : α → Option β} : ∀ {l : List α} {r : List β}, l.mapM f = some r → r.length = l.length ∧ ∀ (i : Nat) (x : α), l[i]? = some x → f x = r[i]?
  | [], r, h => by simp at h; subst h; simp
  | x :: l, r, h => by
    simp only [List.mapM_cons, Option.bind_eq_bind, Option.bind_eq_some_iff, Option.pure_def, Option.some.injEq] at h
    obtain ⟨y, h1, ys, h2, rfl⟩ := h
    obtain ⟨h3, h4⟩ := mapM_get h2
    refine ⟨by simp [h3], fun i z hz => ?_⟩
    cases i with
    | zero => simp at hz; subst hz; simpa using h1
    | succ i => simp at hz ⊢; exact h4 i z hz
theorem cells_get {base : Nat} {a : Addr} {n : Nat} {cs : List Value} (h : W.cells? base a n = some cs) : cs.length = n ∧ ∀ i, i < n → W.cell? (a.add i) = cs[i]? := by
  unfold World.cells? at h
  split at h
  · obtain ⟨h1, h2⟩ := mapM_get h
    refine ⟨by simpa using h1, fun i hi => ?_⟩
    exact h2 i i (by simp [hi])
  · cases h
theorem read_slice {α : Type} {encA : α → List Cell} {t e : TypeId} {sz fuel : Nat} {cs : List Value} {x : DataW H × List MemPlace} (hprot : ∀ b i v, W.cell? ⟨b, i, none⟩ = some v → i < M.prot b) (ht : P.underlying t = some (.slice e)) (hsz : P.cellsOf e = sz) (hpos : 0 < sz)
    (hread : ∀ n, n < fuel → ∀ cs x, tr henc P W n e cs = some x → ∃ a : α, RepL W M (encA a) cs) (h : tr henc P W fuel t cs = some x) : ∃ l : List α, RepL W M [.slice .no sz (l.map encA)] cs := by
  rcases DataW.trod_slice ht h with ⟨rfl, _⟩ | ⟨a, len, cap, elems, rest, n, rfl, rfl, _, _, hlc, _, hlen, hel, _, _⟩
  · exact ⟨[], .one (.nil _ _ _ _ (fun h => by cases h))⟩
  · rw [hsz] at hel
    have key : ∀ i, i < len → ∃ (y : α) (vs : List Value), W.cells? 0 (a.add (i * sz)) sz = some vs ∧ RepL W M (encA y) vs := by
      intro i hi
      have h1 := hel i hi
      rw [List.getElem?_eq_getElem (by omega)] at h1
      obtain ⟨vs, h2, h3⟩ := Option.bind_eq_some_iff.1 h1
      obtain ⟨y, hy⟩ := hread n (by omega) vs _ h3
      exact ⟨y, vs, h2, hy⟩
    have hl : ∃ l : List α, l.length = len ∧ ∀ (i : Nat) (y : α), l[i]? = some y → ∃ vs, W.cells? 0 (a.add (i * sz)) sz = some vs ∧ RepL W M (encA y) vs := by
      clear hel hlen
      have : ∀ m, m ≤ len → ∃ l : List α, l.length = m ∧ ∀ (i : Nat) (y : α), l[i]? = some y → ∃ vs, W.cells? 0 (a.add (i * sz)) sz = some vs ∧ RepL W M (encA y) vs := by
        intro m
        induction m with
        | zero => intro _; exact ⟨[], rfl, fun i y h => by simp at h⟩
        | succ m ih =>
          intro hm
          obtain ⟨l, h1, h2⟩ := ih (by omega)
          obtain ⟨y, vs, h3, h4⟩ := key m (by omega)
          refine ⟨l ++ [y], by simp [h1], fun i z hz => ?_⟩
          by_cases hi : i < l.length
          · rw [List.getElem?_append_left hi] at hz; exact h2 i z hz
          · rw [List.getElem?_append_right (by omega)] at hz
            have : i = m := by
              have := (List.getElem?_eq_some_iff.1 hz).1
              simp at this
              omega
            subst this
            rw [h1] at hz
            simp at hz
            subst hz
            exact ⟨vs, h3, h4⟩
      exact this len (Nat.le_refl _)
    obtain ⟨l, hll, hl⟩ := hl
    refine ⟨l, .one ?_⟩
    cases hz : l with
    | nil =>
      rw [hz] at hll
      simp at hll
      subst hll
      exact .nil _ _ _ _ (fun h => by cases h)
    | cons y0 l0 =>
      have hspot : a.spot = none := by
        obtain ⟨vs, h2, h3⟩ := hl 0 y0 (by rw [hz]; try rfl)
        obtain ⟨h4, h5⟩ := cells_get h2
        have h6 := h5 0 hpos
        rw [List.getElem?_eq_getElem (by omega)] at h6
        have := World.cell?_spot h6
        simpa [Addr.add] using this
      obtain ⟨b, off, spot⟩ := a
      simp only at hspot
      subst hspot
      rw [← hz]
      have hcell : ∀ (j i : Nat) (y : α) (c : Cell), l[j]? = some y → (encA y)[i]? = some c → (∃ v, W.cell? ⟨b, off + (j * sz + i), none⟩ = some v ∧ RepC W M c v) ∧ (encA y).length = sz := by
        intro j i y c hy hc
        obtain ⟨vs, h2, h3⟩ := hl j y hy
        obtain ⟨h4, h5⟩ := cells_get h2
        have hi := (List.getElem?_eq_some_iff.1 hc).1
        have hle : (encA y).length = sz := by rw [h3.1, h4]
        have h6 := h5 i (by omega)
        rw [List.getElem?_eq_getElem (by omega)] at h6
        refine ⟨⟨_, ?_, h3.2 i c _ hc (List.getElem?_eq_getElem (by omega))⟩, hle⟩
        rw [← h6]
        congr 1
        simp only [Addr.add]
        repeat' split
        all_goals first
          | (simp_all; done)
          | (simp; omega)
      have hlens : ∀ y ∈ l, (encA y).length = sz := by
        intro y hy
        obtain ⟨j, hj⟩ := List.getElem?_of_mem hy
        obtain ⟨vs, h2, h3⟩ := hl j y hj
        rw [h3.1, (cells_get h2).1]
      rw [← hll]
      have hcap : l.length ≤ cap := by omega
      have hf := RepC.slice (w := W) (M := M) .no sz (l.map encA) b off cap (fun j i => (W.cell? ⟨b, off + (j * sz + i), none⟩).getD undef) (fun e he => by
          obtain ⟨y, hy, rfl⟩ := List.mem_map.1 he; exact hlens y hy) ?_ (fun h => by cases h) (by simpa using hcap) ?_ ?_
      · simpa using hf
      · -- the last cell
        have hne : l.length - 1 < l.length := by rw [hz]; simp
        obtain ⟨y, hy⟩ : ∃ y, l[l.length - 1]? = some y := ⟨_, List.getElem?_eq_getElem hne⟩
        have hly := hlens y (List.mem_of_getElem? hy)
        obtain ⟨c, hc⟩ : ∃ c, (encA y)[sz - 1]? = some c := ⟨_, List.getElem?_eq_getElem (by omega)⟩
        obtain ⟨⟨v, hv, _⟩, _⟩ := hcell _ _ y c hy hc
        have := hprot _ _ _ hv
        rw [List.length_map]
        have e : l.length * sz = (l.length - 1) * sz + sz := by
          rw [Nat.sub_mul, Nat.one_mul]
          have : sz ≤ l.length * sz := Nat.le_mul_of_pos_left _ (by omega)
          omega
        omega
      · intro j i es c hj hi
        rw [List.getElem?_map] at hj
        obtain ⟨y, hy, rfl⟩ := Option.map_eq_some_iff.1 hj
        obtain ⟨⟨v, hv, _⟩, _⟩ := hcell j i y c hy hi
        rw [hv]; try rfl
      · intro j i es c hj hi
        rw [List.getElem?_map] at hj
        obtain ⟨y, hy, rfl⟩ := Option.map_eq_some_iff.1 hj
        obtain ⟨⟨v, hv, hr⟩, _⟩ := hcell j i y c hy hi
        rw [hv]; exact hr
theorem read_int {t : TypeId} {k : IntKind} {fuel : Nat} {cs : List Value} {x : DataW H × List MemPlace} (ht : P.underlying t = some (.int k)) (h : tr henc P W fuel t cs = some x) : ∃ n, (Lit.int k n).wf = true ∧ RepL W M [.int k n] cs := by
  obtain ⟨n, rfl, _, h2⟩ := DataW.trod_int ht h
  exact ⟨n, h2, .one (.int k n)⟩
theorem wf_i64 {n : Int} (h : (Lit.int .i64 n).wf = true) : -9223372036854775808 ≤ n ∧ n ≤ 9223372036854775807 := by
  simp only [Lit.wf, Bool.and_eq_true, decide_eq_true_eq] at h
  have e1 : IntKind.min .i64 = -9223372036854775808 := by decide
  have e2 : IntKind.max .i64 = 9223372036854775807 := by decide
  rw [e1, e2] at h
  exact h
noncomputable def map0 (W : World) : Map := ⟨fun b => match W.heap[b]? with
  | some (.cells c _ _) => c.size
  | _ => 0, fun _ _ _ => .none, fun _ => .none⟩
theorem map0_prot (W : World) : ∀ b i v, W.cell? ⟨b, i, .none⟩ = some v → i < (map0 W).prot b := by
  intro b i v h
  unfold World.cell? at h
  simp only [map0]
  split at h
  · rename_i c _ _ hb
    rw [hb]
    simp at h
    exact (Array.getElem?_eq_some_iff.1 h).1
  · cases h
theorem base0 {C : Cfg} {W : World} (hg : Globs C W (map0 W)) : Base C W (map0 W) [] := by
  have hn : ∀ d t v b, (map0 W).box d t v ≠ some b := fun d t v b h => by simp [map0] at h
  refine ⟨fun d t v b h => absurd h (hn d t v b), fun d t v d' t' v' b h => absurd h (hn d t v b), hg, fun b hb => ?_⟩
  simp only [map0]
  rw [Array.getElem?_eq_none hb]
theorem law_calls {C : Cfg} {f : FuncId} {ps : List PV} (h : CallsV C f ps [] (.val (.one (.bool true))) []) {W : World} (hg : Globs C W (map0 W)) {args : Array Value} (hl : args.size = ps.length) (ha : ∀ (i : Nat) (p : PV), ps[i]? = some p → RepV W (map0 W) p (args.getD i undef)) :
    Calls C.P f args W fun e W' => e = .returned (.bool true) ∧ Below W.heap.size W W' := by
  obtain ⟨_, _, h⟩ := h
  refine (h W (map0 W) args (base0 hg) hl ha).mono fun e W' ⟨M', v, he, hk, _, _, hr⟩ => ?_
  subst he
  refine ⟨?_, ⟨hk.os, hk.tape, hk.output, hk.size, fun b hb => hk.keep b hb fun d t v h => by cases h⟩⟩
  obtain ⟨_, hr⟩ := hr
  cases hr with
  | one c v h => cases h; rfl
theorem repV_one {W : World} {M : Map} {c : Cell} {v : Value} (h : RepL W M [c] v.cells.toList) (hv : v.cells.toList = [v]) : RepV W M (.one c) v := by
  rw [hv] at h
  exact .one c v (h.2 0 c v rfl rfl)
end
end Go.Proofs.YtcgmhnlmgomlgaaGreatDoor.V
