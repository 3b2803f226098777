/-
Parts of the proof of one law, put together by program: part 5.
-/
import Derived.Test.YtnpgbkldpdogjaaGreatDoorKA4
set_option linter.unusedSimpArgs false
set_option linter.unusedVariables false
set_option maxRecDepth 100000
namespace Go.Proofs.YtnpgbkldpdogjaaGreatDoor.V
open Go Go.Proofs
attribute [simp] flatL_append flatLL_append
@[simp] theorem grown_on2 {on : Nat → Bool} {n : Nat} {ow : Own} : (grownLive ⟨on, n⟩ ow).on n = true := grown_on
@[simp] theorem grown_nx {l : Live} {ow : Own} : (grownLive l ow).nx = l.nx + 1 := rfl
def i66 (t : Tm) (l : List Tm) (σ : List Frm) (j : Nat) : St → Prop
  | ⟨env, loc, σ', live⟩ => ∃ ow, env 1 = .one (.box σ.length 1 0 0) ∧ env 2 = .one (.box σ.length 2 0 0) ∧ env 3 = .one (.slice ow 5 ((l.take j).map encT)) ∧ env 7 = .one (.slice .no 5 (l.map encT)) ∧ env 8 = .one (.int .i64 l.length) ∧ env 9 = .one (.int .i64 j) ∧
    loc 1 = [encT t] ∧ loc 2 = [[.int .i64 0, .int .i64 0, .int .i64 0, .slice .full 2 [], .slice .full 5 []]] ∧ σ' = σ ∧ okOwn live ow
theorem c66 (t : Tm) : t.size ≤ 1099511627776 → ∀ (σ : List Frm), CallsV cfg 66 [.agg (encT t)] σ (.val (.agg (encT t))) σ := by
  induction t using Tm.ind with
  | _ k i s l ih =>
  intro hsz σ
  simp at hsz
  have hlen := Tm.length_le l
  refine w66 (by simp) ?_
  rw [s66]
  simp
  refine wpP_range l.length (i66 (.mk k i s l) l σ) (by omega) ⟨.full, by simp, by simp, by simp, by simp, by simp, by simp, by simp, by simp, rfl, by simp⟩ ?_ ?_ (hend := ?_)
  · rintro j ⟨env, loc, σ', live⟩ ⟨ow, e1, e2, e3, e7, e8, e9, h1, h2, rfl, how⟩
    exact ⟨e9, e8⟩
  · rintro j ⟨env, loc, σ', live⟩ hj ⟨ow, e1, e2, e3, e7, e8, e9, h1, h2, rfl, how⟩
    obtain ⟨x, hx, hd, hm⟩ := drop_cons hj
    have := Tm.sizes_mem hm
    simp [e1, e2, e3, e7, e8, e9, hx]
    refine opV_call (ih x hm (by omega) _) (by simp) ?_
    simp [how]
    refine ⟨by omega, by omega, .tip live.nx, by simp, by simp, ?_, by simp, by simp, by simp, by simp [h1], by simp [h2], rfl, grown_on⟩
    simp [List.take_add_one, hx]
  · rintro ⟨env, loc, σ', live⟩ ⟨ow, e1, e2, e3, e7, e8, e9, h1, h2, rfl, how⟩
    simp [e1, e2, e3, h1, h2]
    refine wpP_draw (fun _ _ _ => false) ?_
    simp [e1, e2, e3, h1, h2]
    refine stepD_call (c79 s (by omega) _) (by simp) ?_
    simp [e1, e2, e3, h1, h2]
def i45 (k : Int) (l : List Tm) (σ : List Frm) (j : Nat) : St → Prop
  | ⟨env, loc, σ', live⟩ => ∃ ow, env 0 = .one (.int .i64 k) ∧ env 4 = .one (.box σ.length 4 0 0) ∧ env 5 = .one (.slice ow 5 ((l.take j).map encT)) ∧ env 8 = .one (.slice .no 5 (l.map encT)) ∧ env 9 = .one (.int .i64 l.length) ∧ env 10 = .one (.int .i64 j) ∧
    loc 4 = [[.int .i64 0, .int .i64 0, .int .i64 0, .slice .full 2 [], .slice .full 5 []]] ∧ σ' = σ ∧ okOwn live ow
theorem c45 (k : Int) (l : List Tm) (hsz : Tm.sizes l ≤ 1099511627776) (σ : List Frm) : CallsV cfg 45 [.one (.int .i64 k), .one (.slice .no 5 (l.map encT))] σ (.val (.agg (encT (.node k l)))) σ := by
  have hlen := Tm.length_le l
  refine w45 (by simp) ?_
  rw [s45]
  simp
  refine wpP_range l.length (i45 k l σ) (by omega) ⟨.full, by simp, by simp, by simp, by simp, by simp, by simp, by simp, rfl, by simp⟩ ?_ ?_ (hend := ?_)
  · rintro j ⟨env, loc, σ', live⟩ ⟨ow, e0, e4, e5, e8, e9, e10, h4, rfl, how⟩
    exact ⟨e10, e9⟩
  · rintro j ⟨env, loc, σ', live⟩ hj ⟨ow, e0, e4, e5, e8, e9, e10, h4, rfl, how⟩
    obtain ⟨x, hx, hd, hm⟩ := drop_cons hj
    have := Tm.sizes_mem hm
    simp [e0, e4, e5, e8, e9, e10, hx]
    refine opV_call (c66 x (by omega) _) (by simp) ?_
    simp [how]
    refine ⟨by omega, by omega, .tip live.nx, by simp, by simp, ?_, by simp, by simp, by simp, by simp [h4], rfl, grown_on⟩
    simp [List.take_add_one, hx]
  · rintro ⟨env, loc, σ', live⟩ ⟨ow, e0, e4, e5, e8, e9, e10, h4, rfl, how⟩
    simp [e0, e4, e5, h4, Tm.node, Ty.zero]
theorem c46 (k : Int) (s : Ty) (l : List Tm) (hs : s.size ≤ 1099511627776) (hsz : Tm.sizes l ≤ 1099511627776) (σ : List Frm) : CallsV cfg 46 [.one (.int .i64 k), .agg (enc s), .one (.slice .no 5 (l.map encT))] σ (.val (.agg (encT (.tnode k s l)))) σ := by
  refine w46 (by simp) ?_
  rw [s46]
  simp
  refine opV_call (c45 k l hsz _) (by simp) ?_
  simp [Tm.node, Ty.zero]
  refine opV_call (c79 s hs _) (by simp) ?_
  simp [Tm.tnode]
theorem c44 (i : Int) (σ : List Frm) : CallsV cfg 44 [.one (.int .i64 i)] σ (.val (.agg (encT (.var i)))) σ := by
  refine w44 (by simp) ?_
  rw [s44]
  simp [Tm.var, Ty.zero]
theorem c84 (a b : Ty) (σ : List Frm) : CallsV cfg 84 [.agg (enc a), .agg (enc b)] σ (.val (.agg (enc (.fn a b)))) σ := by
  refine w84 (by simp) ?_
  rw [s84]
  simp [Ty.fn]
theorem c83 (a b : Ty) (σ : List Frm) : CallsV cfg 83 [.agg (enc a), .agg (enc b)] σ (.val (.agg (enc (.pair a b)))) σ := by
  refine w83 (by simp) ?_
  rw [s83]
  simp [Ty.pair]
theorem c81 (σ : List Frm) : CallsV cfg 81 [] σ (.val (.agg (enc .unit))) σ := by
  refine w81 (by simp) ?_
  rw [s81]
  simp [Ty.unit]
theorem c33 (a b : Tm) (ha : a.size ≤ 1099511627776) (hb : b.size ≤ 1099511627776) (σ : List Frm) : CallsV cfg 33 [.agg (encT a), .agg (encT b)] σ (.val (.agg (encF (.eq a b)))) σ := by
  refine w33 (by simp) ?_
  rw [s33]
  simp
  refine wpP_draw (fun _ _ _ => false) ?_
  simp
  refine stepD_call (c66 a ha _) (by simp) ?_
  simp
  refine stepD_call (c66 b hb _) (by simp) ?_
  simp [Fm.eq, Ty.zero]
def z29 : List Cell := [.int .i64 0, .int .i64 0, .slice .full 2 [], .slice .full 5 [], .slice .full 5 []]
def i63a (f : Fm) (k : Int) (t : Ty) (m : List Tm) (σ : List Frm) (j : Nat) : St → Prop
  | ⟨env, loc, σ', live⟩ => ∃ ow, env 1 = .one (.box σ.length 1 0 0) ∧ env 2 = .one (.box σ.length 2 0 0) ∧ env 3 = .one (.box σ.length 3 0 0) ∧ env 15 = .one (.slice .no 5 (m.map encT)) ∧ env 16 = .one (.int .i64 m.length) ∧ env 17 = .one (.int .i64 j) ∧
    loc 1 = [encF f] ∧ loc 2 = [z29] ∧ loc 3 = [.int .i64 k :: (enc t ++ [.slice ow 5 ((m.take j).map encT), .slice .full 5 []])] ∧ σ' = σ ∧ okOwn live ow
def i63b (k : Int) (t : Ty) (m : List Tm) (l : List Fm) (σ : List Frm) (j : Nat) : St → Prop
  | ⟨env, loc, σ', live⟩ => ∃ ow o, env 2 = .one (.box σ.length 2 0 0) ∧ env 3 = .one (.box σ.length 3 0 0) ∧ env 30 = .one (.slice .no 5 (l.map encF)) ∧ env 31 = .one (.int .i64 l.length) ∧ env 32 = .one (.int .i64 j) ∧
    loc 2 = [z29] ∧ loc 3 = [.int .i64 k :: (enc t ++ [.slice o 5 (m.map encT), .slice ow 5 ((l.take j).map encF)])] ∧ σ' = σ ∧ okOwn live ow
theorem c63 (f : Fm) : f.size ≤ 1099511627776 → ∀ (σ : List Frm), CallsV cfg 63 [.agg (encF f)] σ (.val (.agg (encF f))) σ := by
  induction f using Fm.ind with
  | _ k t m l ih =>
  intro hsz σ
  simp at hsz
  have hlm := Tm.length_le m
  have hll := Fm.length_le l
  refine w63 (by simp) ?_
  rw [s63]
  simp
  refine wpP_draw (fun _ _ _ => false) ?_
  simp
  refine stepD_call (c79 t (by omega) _) (by simp) ?_
  simp
  refine wpP_range m.length (i63a (.mk k t m l) k t m σ) (by omega) ⟨.full, by simp, by simp, by simp, by simp, by simp, by simp, by simp, by simp [z29], by simp, rfl, by simp⟩ ?_ ?_ (hend := ?_)
  · rintro j ⟨env, loc, σ', live⟩ ⟨ow, e1, e2, e3, e15, e16, e17, h1, h2, h3, rfl, how⟩
    exact ⟨e17, e16⟩
  · rintro j ⟨env, loc, σ', live⟩ hj ⟨ow, e1, e2, e3, e15, e16, e17, h1, h2, h3, rfl, how⟩
    obtain ⟨x, hx, hd, hm⟩ := drop_cons hj
    have := Tm.sizes_mem hm
    simp [e1, e2, e3, e15, e16, e17, hx]
    refine wpP_draw (fun _ _ _ => false) ?_
    simp [e1, e2, e3, h1, h2, h3]
    refine stepD_call (c66 x (by omega) _) (by simp) ?_
    simp [how, e1, e2, e3, h1, h2, h3]
    exact ⟨by omega, by omega, .tip live.nx, by simp, by simp, by simp, by simp, by simp, by simp, by simp [h1], by simp [h2], by simp [List.take_add_one, hx], rfl, grown_on⟩
  · rintro ⟨env, loc, σ', live⟩ ⟨ow, e1, e2, e3, e15, e16, e17, h1, h2, h3, rfl, how⟩
    simp [e1, e2, e3, h1, h2, h3]
    refine wpP_range l.length (i63b k t m l σ') (by omega) ⟨.full, ow, by simp, by simp, by simp, by simp, by simp, by simp [h2], by simp [h3], rfl, by simp⟩ ?_ ?_ (hend := ?_)
    · rintro j ⟨env, loc, σ', live⟩ ⟨ow, o, e2, e3, e30, e31, e32, h2, h3, rfl, how⟩
      exact ⟨e32, e31⟩
    · rintro j ⟨env, loc, σ', live⟩ hj ⟨ow, o, e2, e3, e30, e31, e32, h2, h3, rfl, how⟩
      obtain ⟨x, hx, hd, hm⟩ := drop_cons hj
      have := Fm.sizes_mem hm
      simp [e2, e3, e30, e31, e32, hx]
      refine wpP_draw (fun _ _ _ => false) ?_
      simp [e2, e3, h2, h3]
      refine stepD_call (ih x hm (by omega) _) (by simp) ?_
      simp [how, e2, e3, h2, h3]
      exact ⟨by omega, by omega, .tip live.nx, o, by simp, by simp, by simp, by simp, by simp, by simp [h2], by simp [List.take_add_one, hx], rfl, grown_on⟩
    · rintro ⟨env, loc, σ', live⟩ ⟨ow, o, e2, e3, e30, e31, e32, h2, h3, rfl, how⟩
      simp [e2, e3, h2, h3, z29]
theorem c29 (k : Int) (a b : Fm) (ha : a.size ≤ 1099511627776) (hb : b.size ≤ 1099511627776) (σ : List Frm) : CallsV cfg 29 [.one (.int .i64 k), .agg (encF a), .agg (encF b)] σ (.val (.agg (encF (.two k a b)))) σ := by
  refine w29 (by simp) ?_
  rw [s29]
  simp
  refine wpP_draw (fun _ _ _ => false) ?_
  simp
  refine stepD_call (c63 a ha _) (by simp) ?_
  simp
  refine stepD_call (c63 b hb _) (by simp) ?_
  simp [Fm.two, Ty.zero]
theorem c30 (k : Int) (s : Ty) (b : Fm) (ha : s.size ≤ 1099511627776) (hb : b.size ≤ 1099511627776) (σ : List Frm) : CallsV cfg 30 [.one (.int .i64 k), .agg (enc s), .agg (encF b)] σ (.val (.agg (encF (.q k s b)))) σ := by
  refine w30 (by simp) ?_
  rw [s30]
  simp
  refine wpP_draw (fun _ _ _ => false) ?_
  simp
  refine stepD_call (c79 s ha _) (by simp) ?_
  simp
  refine stepD_call (c63 b hb _) (by simp) ?_
  simp [Fm.q, Ty.zero]
theorem c31 (g h : List Ty) (hl : g.length + h.length ≤ 1099511627776) (σ : List Frm) : CallsV cfg 31 [.one (.slice .no 2 (g.map enc)), .one (.slice .no 2 (h.map enc))] σ (.val (.one (.slice .no 2 ((g ++ h).map enc)))) σ := by
  refine w31 (by simp) ?_
  rw [s31]
  simp
  omega
end Go.Proofs.YtnpgbkldpdogjaaGreatDoor.V

namespace Go.Proofs.YtnpgbkldpdogjaaGreatDoor.V
open Go
end Go.Proofs.YtnpgbkldpdogjaaGreatDoor.V

set_option maxRecDepth 100000
namespace Go.Proofs.YtnpgbkldpdogjaaGreatDoor.V
open Go Go.Proofs
theorem c9 (l : List Int) (σ : List Frm) : CallsV cfg 9 [.one (.slice .no 1 (encI l))] σ (.val (.one (.bool (decide (l.length ≤ 500))))) σ := by
  refine w9 (by simp) ?_
  rw [s9]
  simp
  omega
def deckC (l r : List Int) : List Cell := [.slice .no 1 (encI l), .int .i64 ((l.length - r.length : Nat) : Int)]
theorem c10 (l : List Int) (σ : List Frm) : CallsV cfg 10 [.one (.slice .no 1 (encI l))] σ (.new (deckC l l)) σ := by
  refine w10 (by simp) ?_
  rw [s10]
  simp
  refine ⟨5, 0, by simp, by simp [deckC], by simp [deckC], by simp [deckC, isTip]⟩
theorem c75 (n k : Int) (hn : -9223372036854775808 ≤ n ∧ n ≤ 9223372036854775807) (hk : 0 < k) (hk2 : k ≤ 1000000) (σ : List Frm) : CallsV cfg 75 [.one (.int .i64 n), .one (.int .i64 k)] σ (.val (.one (.int .i64 (modI n k)))) σ := by
  refine w75 (by simp) ?_
  rw [s75]
  have h1 := Int.tmod_lt_of_pos n hk
  have h2 := Int.tmod_lt_of_pos (-n) hk
  rw [Int.neg_tmod] at h2
  have hk0 : ¬ k = 0 := by omega
  simp [hk0]
  rw [wrap_id (by omega) (by omega)]
  simp [modI]
def i64s (l : List Int) : Prop := ∀ x ∈ l, -9223372036854775808 ≤ x ∧ x ≤ 9223372036854775807
theorem suf_get {l r : List Int} {x : Int} (h : x :: r <:+ l) : l[l.length - (x :: r).length]? = some x ∧ l.length - (x :: r).length < l.length ∧ r <:+ l ∧ l.length - r.length = l.length - (x :: r).length + 1 := by
  obtain ⟨t, rfl⟩ := h
  refine ⟨?_, by simp <;> omega, ⟨t ++ [x], by simp⟩, by simp <;> omega⟩
  rw [show (t ++ x :: r).length - (x :: r).length = t.length by simp]
  simp
theorem c27 {l r : List Int} (hr : r <:+ l) (hl : l.length ≤ 1099511627776) (hi : i64s l) {n : Int} (hn : 0 ≤ n ∧ n ≤ 1000000) {p : Pl} : ∀ σ, Has σ p → CallsV cfg 27 [p.ptr, .one (.int .i64 n)] (setC σ p (deckC l r)) (.val (.one (.int .i64 (next n r).1))) (setC σ p (deckC l (next n r).2)) := by
  intro σ hH
  have hne : ¬ p.d = σ.length := by have := hH.lt; omega
  refine w27 (by simp) ?_
  rw [s27]
  simp [Pl.ptr]
  refine wpP_draw (fun _ _ _ => false) ?_
  by_cases hn1 : n < 1
  · have e : next n r = (0, r) := by cases r <;> simp [next, hn1]
    simp [hn1, e]
  cases r with
  | nil => simp [hn1, readBox_setC hH, hne, deckC, next]
  | cons x r =>
    obtain ⟨h1, h2, h3, h4⟩ := suf_get hr
    have hx := hi x (List.mem_of_getElem? h1)
    have e : next n (x :: r) = (modI x n, r) := by simp [next, hn1]
    have ed : deckC l (x :: r) = [.slice .no 1 (encI l), .int .i64 ((l.length - (x :: r).length : Nat) : Int)] := rfl
    have ed2 : deckC l r = [.slice .no 1 (encI l), .int .i64 ((l.length - (x :: r).length + 1 : Nat) : Int)] := by rw [deckC, h4]
    rw [e, ed, ed2]
    generalize l.length - (x :: r).length = a at h1 h2
    have hlt : ¬ l.length ≤ a := by omega
    have hg : (encI l)[a]? = some [.int .i64 x] := encI_get h1
    simp [hn1, readBox_setC hH, hne, hlt]
    refine wpP_draw (fun _ _ _ => false) ?_
    simp [readBox_setC hH, hne, hg]
    rw [wrap_id (by omega) (by omega), writeBox_setC hH]
    simp
    refine opV_call (c75 x n hx (by omega) (by omega) _) (by simp) ?_
    simp
end Go.Proofs.YtnpgbkldpdogjaaGreatDoor.V

set_option maxRecDepth 100000
namespace Go.Proofs.YtnpgbkldpdogjaaGreatDoor.V
open Go Go.Proofs
structure Dk (l : List Int) : Prop where
  len : l.length ≤ 1099511627776
  num : i64s l
def DkV (l : List Int) (p : Pl) (f : Nat) (args : List PV) (r : List Int) (v : PV) (r' : List Int) : Prop :=
  ∀ σ, Has σ p → CallsV cfg f args (setC σ p (deckC l r)) (.val v) (setC σ p (deckC l r'))
theorem dNext {l : List Int} (hd : Dk l) {r : List Int} (hr : r <:+ l) (p : Pl) {n : Int} (hn : 0 ≤ n ∧ n ≤ 1000000) : DkV l p 27 [p.ptr, .one (.int .i64 n)] r (.one (.int .i64 (next n r).1)) (next n r).2 := fun σ hσ => c27 hr hd.len hd.num hn σ hσ
theorem d28 {l : List Int} (hd : Dk l) (p : Pl) (d : Nat) : d ≤ 5 → ∀ {r : List Int}, r <:+ l → DkV l p 28 [p.ptr, .one (.int .i64 d)] r (.agg (enc (mkType d r).1)) (mkType d r).2 := by
  induction d with
  | zero =>
    intro hd5 r hr σ hH
    refine w28 (by simp) ?_
    rw [s28]
    simp [Pl.ptr]
    refine opV_at (dNext hd hr p (n := 7) (by omega)) hH (by simp [Pl.ptr]) ?_
    have hc := next_range (n := 7) (by omega) r
    have hcase : (next 7 r).1 = 0 ∨ (next 7 r).1 = 1 ∨ (next 7 r).1 = 2 ∨ (next 7 r).1 = 3 ∨ (next 7 r).1 = 4 ∨ (next 7 r).1 = 5 ∨ (next 7 r).1 = 6 := by omega
    unfold mkType
    rcases hcase with h | h | h | h | h | h | h <;> simp [h]
    · exact opV_call (c32 _) (by simp) (by simp [Ty.nat])
    · exact opV_call (c32 _) (by simp) (by simp [Ty.nat])
    · exact opV_call (c32 _) (by simp) (by simp [Ty.nat])
    · exact opV_call (c48 _) (by simp) (by simp [Ty.list])
    · exact opV_call (c76 _) (by simp) (by simp [Ty.unit])
    · exact opV_call (c32 _) (by simp) (by simp [Ty.nat])
    · exact opV_call (c32 _) (by simp) (by simp [Ty.nat])
  | succ d ih =>
    intro hd5 r hr σ hH
    refine w28 (by simp) ?_
    rw [s28]
    simp [Pl.ptr]
    refine opV_at (dNext hd hr p (n := 7) (by omega)) hH (by simp [Pl.ptr]) ?_
    have hc := next_range (n := 7) (by omega) r
    have hcase : (next 7 r).1 = 0 ∨ (next 7 r).1 = 1 ∨ (next 7 r).1 = 2 ∨ (next 7 r).1 = 3 ∨ (next 7 r).1 = 4 ∨ (next 7 r).1 = 5 ∨ (next 7 r).1 = 6 := by omega
    have s1 := (next_suf 7 r).trans hr
    have s2 := (mkType_suf d (next 7 r).2).trans s1
    have b1 := (mkType_ok d (next 7 r).2).2
    have b2 := (mkType_ok d (mkType d (next 7 r).2).2).2
    have hp : (2 : Nat) ^ d ≤ 2 ^ 5 := Nat.pow_le_pow_right (by omega) (by omega)
    unfold mkType
    rcases hcase with h | h | h | h | h | h | h <;> simp [h]
    · exact opV_call (c32 _) (by simp) (by simp [Ty.nat])
    · exact opV_call (c32 _) (by simp) (by simp [Ty.nat])
    · exact opV_call (c32 _) (by simp) (by simp [Ty.nat])
    · exact opV_call (c48 _) (by simp) (by simp [Ty.list])
    · exact opV_call (c76 _) (by simp) (by simp [Ty.unit])
    · have hpos : (0 : Int) < (d : Int) + 1 := by omega
      rw [wrap_id (by omega) (by omega)]
      refine opV_at (ih (by omega) s1) hH (by simp [Pl.ptr]) ?_
      simp
      rw [wrap_id (by omega) (by omega)]
      refine opV_at (ih (by omega) s2) hH (by simp [Pl.ptr]) ?_
      simp
      refine opV_call (c77 (mkType d (next 7 r).2).1 (mkType d (mkType d (next 7 r).2).2).1 (by omega) (by omega) _) (by simp) ?_
      simp [Ty.pair]
    · have hpos : (0 : Int) < (d : Int) + 1 := by omega
      rw [wrap_id (by omega) (by omega)]
      refine opV_at (ih (by omega) s1) hH (by simp [Pl.ptr]) ?_
      simp
      rw [wrap_id (by omega) (by omega)]
      refine opV_at (ih (by omega) s2) hH (by simp [Pl.ptr]) ?_
      simp
      refine opV_call (c78 (mkType d (next 7 r).2).1 (mkType d (mkType d (next 7 r).2).2).1 (by omega) (by omega) _) (by simp) ?_
      simp [Ty.fn]
def i43 (g : List Ty) (t : Ty) (σ : List Frm) (j : Nat) : St → Prop
  | ⟨env, loc, σ', live⟩ => ∃ ow out, env 0 = .one (.slice .no 2 (g.map enc)) ∧ env 3 = .one (.box σ.length 3 0 0) ∧ env 5 = .one (.slice ow 1 (encI out)) ∧ env 8 = .one (.int .i64 g.length) ∧ env 9 = .one (.int .i64 j) ∧
    loc 3 = [enc t] ∧ σ' = σ ∧ okOwn live ow ∧ vars g t = out ++ varsFrom t j (g.reverse.drop j) ∧ out.length ≤ j
theorem c43 (g : List Ty) (t : Ty) (hg : Ty.sizes g ≤ 1099511627776) (σ : List Frm) : CallsV cfg 43 [.one (.slice .no 2 (g.map enc)), .agg (enc t)] σ (.val (.one (.slice .no 1 (encI (vars g t))))) σ := by
  have hlen := Ty.length_le g
  refine w43 (by simp) ?_
  rw [s43]
  simp
  refine wpP_range g.length (i43 g t σ) (by omega) ⟨.full, [], by simp, by simp, by simp, by simp, by simp, by simp, rfl, by simp, by simp [vars], by simp⟩ ?_ ?_ (hend := ?_)
  · rintro j ⟨env, loc, σ', live⟩ ⟨ow, out, e0, e3, e5, e8, e9, l3, rfl, how, hs, ho⟩
    exact ⟨e9, e8⟩
  · rintro j ⟨env, loc, σ', live⟩ hj ⟨ow, out, e0, e3, e5, e8, e9, l3, rfl, how, hs, ho⟩
    obtain ⟨x, hx, hd, hm⟩ := drop_cons (l := g.reverse) (j := j) (by simpa using hj)
    have hx' : g[g.length - 1 - j]? = some x := by rw [List.getElem?_reverse hj] at hx; exact hx
    have hsz := Ty.sizes_mem (show x ∈ g by simpa using hm)
    rw [hd, varsFrom] at hs
    simp [e0, e3, e5, e8, e9, l3]
    refine wpP_draw (fun _ _ _ => false) ?_
    simp [e0, e3, e5, e8, e9, l3]
    have w1 : IntKind.i64.wrap ((g.length : Int) - 1) = g.length - 1 := wrap_id (by omega) (by omega)
    have w2 : IntKind.i64.wrap ((g.length : Int) - 1 - j) = g.length - 1 - j := wrap_id (by omega) (by omega)
    rw [w1, w2]
    rw [show ((g.length : Int) - 1 - j).toNat = g.length - 1 - j by omega, hx']
    refine ⟨by omega, ?_⟩
    simp
    refine stepD_call (c49 x t (by omega) _) (by simp) ?_
    cases hs2 : Ty.same x t with
    | true =>
      rw [hs2, if_pos rfl] at hs
      simp [e0, e3, e5, e8, e9, l3, how]
      exact ⟨by omega, by omega, .tip live.nx, out ++ [(j : Int)], by simp, by simp, by simp, by simp, by simp, l3, rfl, grown_on, by simp [hs], by simp; omega⟩
    | false =>
      rw [hs2, if_neg (by simp)] at hs
      simp [e0, e3, e5, e8, e9, l3, how]
      exact ⟨ow, out, by simp, by simp, by simp, by simp, by simp, l3, rfl, how, hs, by omega⟩
  · rintro ⟨env, loc, σ', live⟩ ⟨ow, out, e0, e3, e5, e8, e9, l3, rfl, how, hs, ho⟩
    rw [show g.reverse.drop g.length = [] by simp, varsFrom, List.append_nil] at hs
    simp [e5, hs]
def i128 (n : Nat) (σ : List Frm) (r : Nat) : St → Prop
  | ⟨env, loc, σ', live⟩ => ∃ (k : Nat) (cs : List Cell), r = n - k ∧ k ≤ n ∧ env 0 = .one (.int .i64 r) ∧ env 2 = .one (.box σ.length 2 0 0) ∧ env 3 = .one (.box σ.length 3 0 0) ∧ loc 2 = [[.int .i64 0, .int .i64 0, .int .i64 0, .slice .full 2 [], .slice .full 5 []]] ∧ loc 3 = [cs] ∧ σ' = σ ∧
    cs.length = 5 ∧ cs.map erC = encT (Tm.num k) ∧ flatL cs = true
theorem c128 (n : Nat) (hn : n ≤ 5000) (σ : List Frm) : CallsV cfg 128 [.one (.int .i64 n)] σ (.val (.agg (encT (Tm.num n)))) σ := by
  refine w128 (by simp) ?_
  rw [s128]
  simp
  refine opV_call (c45 4 [] (by simp) _) (by simp) ?_
  simp
  refine wpP_loop (i128 n σ) n ⟨0, encT (.node 4 []), by simp, by simp, by simp, by simp, by simp, by simp, by simp, rfl, by simp, by simp [Tm.num], by simp⟩ ?_
  rintro r ⟨env, loc, σ', live⟩ ⟨k, cs, hr, hk, e0, e2, e3, l2, l3, rfl, hc, he, hf⟩
  by_cases hpos : 0 < r
  · have hpos' : (0 : Int) < r := by omega
    have ht : cs.take 5 = cs := List.take_of_length_le (by omega)
    have hd : cs.drop 5 = [] := List.drop_of_length_le (by omega)
    simp [e0, e2, e3, l2, l3, hpos, hc, ht, hd]
    rw [wrap_id (by omega) (by omega)]
    refine loopK_normal (r - 1) (by omega) ⟨k + 1, _, by omega, by omega, ?_, by simp [e2], by simp [e3], by simp [l2], by simp; rfl, rfl, by simp, ?_, ?_⟩
    · simp; omega
    · simp [Tm.num, Tm.node, Ty.zero]
      exact he
    · simp
      have : flatL (cs.map erC) = true := by rw [he]; exact encT_flat _
      simpa using this
  · obtain rfl : k = n := by omega
    have hpos' : ¬ (0 : Int) < r := by omega
    have ht : cs.take 5 = cs := List.take_of_length_le (by omega)
    simp [e0, e2, e3, l2, l3, hpos, hc, ht, he, hf]
theorem c98 (n : Nat) (hn : n ≤ 4000) (σ : List Frm) : CallsV cfg 98 [.one (.int .i64 n)] σ (.val (.tup [.agg (encT (Tm.num n)), .one (.int .i64 0)])) σ := by
  refine w98 (by simp) ?_
  rw [s98]
  have h1 : ¬ (n : Int) < 0 := by omega
  have h2 : ¬ 4096 ≤ n := by omega
  have h3 : ¬ (4096 : Int) ≤ n := by omega
  simp [h1, h2, h3]
  refine opV_call (c128 n (by omega) _) (by simp) ?_
  simp
theorem c47 (n : Nat) (hn : n ≤ 4000) (σ : List Frm) : CallsV cfg 47 [.one (.int .i64 n)] σ (.val (.agg (encT (Tm.num n)))) σ := by
  refine w47 (by simp) ?_
  rw [s47]
  simp
  refine opV_call (c98 n hn _) (by simp) ?_
  simp
theorem c99 (t : Tm) (ht : t.size ≤ 1099511627770) (σ : List Frm) : CallsV cfg 99 [.agg (encT t)] σ (.val (.agg (encT t.lamN))) σ := by
  refine w99 (by simp) ?_
  rw [s99]
  simp
  refine wpP_draw (fun _ _ _ => false) ?_
  simp
  refine stepD_call (c32 _) (by simp) ?_
  simp
  refine stepD_call (c46 2 .nat [t] (by simp) (by simp; omega) _) (by simp [Ty.nat]) ?_
  simp [Tm.lamN]
theorem c100 (a b c : Tm) (ht : a.size + b.size + c.size ≤ 1099511627770) (σ : List Frm) : CallsV cfg 100 [.agg (encT a), .agg (encT b), .agg (encT c)] σ (.val (.agg (encT (.recN a b c)))) σ := by
  refine w100 (by simp) ?_
  rw [s100]
  simp
  refine wpP_draw (fun _ _ _ => false) ?_
  simp
  refine stepD_call (c32 _) (by simp) ?_
  simp
  refine stepD_call (c46 6 .nat [a, b, c] (by simp) (by simp; omega) _) (by simp [Ty.nat]) ?_
  simp [Tm.recN]
theorem c51 (σ : List Frm) : CallsV cfg 51 [] σ (.val (.agg (encT .plus))) σ := by
  refine w51 (by simp) ?_
  rw [s51]
  simp
  refine opV_call (c44 1 _) (by simp) ?_
  simp only [opsP_cons, opP_call]
  refine opV_call (c44 0 _) (by simp) ?_
  simp
  refine opV_call (c45 5 [.var 0] (by simp) _) (by simp) ?_
  simp only [opsP_cons, opP_call]
  refine opV_call (c99 (.node 5 [.var 0]) (by simp) _) (by simp) ?_
  simp only [opsP_cons, opP_call]
  refine opV_call (c99 (Tm.lamN (.node 5 [.var 0])) (by simp [Tm.lamN]) _) (by simp) ?_
  simp only [opsP_cons, opP_call]
  refine opV_call (c44 0 _) (by simp) ?_
  simp only [opsP_cons, opP_call]
  refine opV_call (c100 (.var 1) (Tm.lamN (Tm.lamN (.node 5 [.var 0]))) (.var 0) (by simp [Tm.lamN]) _) (by simp) ?_
  simp only [opsP_cons, opP_call]
  refine opV_call (c99 (.recN (.var 1) (Tm.lamN (Tm.lamN (.node 5 [.var 0]))) (.var 0)) (by simp [Tm.lamN, Tm.recN]) _) (by simp) ?_
  simp only [opsP_cons, opP_call]
  refine opV_call (c99 (Tm.lamN (.recN (.var 1) (Tm.lamN (Tm.lamN (.node 5 [.var 0]))) (.var 0))) (by simp [Tm.lamN, Tm.recN]) _) (by simp) ?_
  simp [Tm.plus]
theorem c101 (σ : List Frm) : CallsV cfg 101 [] σ (.val (.agg (encT .pred))) σ := by
  refine w101 (by simp) ?_
  rw [s101]
  simp
  refine opV_call (c45 4 [] (by simp) _) (by simp) ?_
  simp only [opsP_cons, opP_call]
  refine opV_call (c44 1 _) (by simp) ?_
  simp only [opsP_cons, opP_call]
  refine opV_call (c99 (.var 1) (by simp) _) (by simp) ?_
  simp only [opsP_cons, opP_call]
  refine opV_call (c99 (Tm.lamN (.var 1)) (by simp [Tm.lamN]) _) (by simp) ?_
  simp only [opsP_cons, opP_call]
  refine opV_call (c44 0 _) (by simp) ?_
  simp only [opsP_cons, opP_call]
  refine opV_call (c100 (.node 4 []) (Tm.lamN (Tm.lamN (.var 1))) (.var 0) (by simp [Tm.lamN]) _) (by simp) ?_
  simp only [opsP_cons, opP_call]
  refine opV_call (c99 (.recN (.node 4 []) (Tm.lamN (Tm.lamN (.var 1))) (.var 0)) (by simp [Tm.lamN, Tm.recN]) _) (by simp) ?_
  simp [Tm.pred]
theorem c52 (σ : List Frm) : CallsV cfg 52 [] σ (.val (.agg (encT .sub))) σ := by
  refine w52 (by simp) ?_
  rw [s52]
  simp
  refine opV_call (c44 1 _) (by simp) ?_
  simp only [opsP_cons, opP_call]
  refine opV_call (c101 _) (by simp) ?_
  simp only [opsP_cons, opP_call]
  refine opV_call (c44 0 _) (by simp) ?_
  simp
  refine opV_call (c45 3 [.pred, .var 0] (by simp) _) (by simp) ?_
  simp only [opsP_cons, opP_call]
  refine opV_call (c99 (.app .pred (.var 0)) (by simp [Tm.app]) _) (by simp [Tm.app]) ?_
  simp only [opsP_cons, opP_call]
  refine opV_call (c99 (Tm.lamN (.app .pred (.var 0))) (by simp [Tm.lamN, Tm.app]) _) (by simp) ?_
  simp only [opsP_cons, opP_call]
  refine opV_call (c44 0 _) (by simp) ?_
  simp only [opsP_cons, opP_call]
  refine opV_call (c100 (.var 1) (Tm.lamN (Tm.lamN (.app .pred (.var 0)))) (.var 0) (by simp [Tm.lamN, Tm.app]) _) (by simp) ?_
  simp only [opsP_cons, opP_call]
  refine opV_call (c99 (.recN (.var 1) (Tm.lamN (Tm.lamN (.app .pred (.var 0)))) (.var 0)) (by simp [Tm.lamN, Tm.recN, Tm.app]) _) (by simp) ?_
  simp only [opsP_cons, opP_call]
  refine opV_call (c99 (Tm.lamN (.recN (.var 1) (Tm.lamN (Tm.lamN (.app .pred (.var 0)))) (.var 0))) (by simp [Tm.lamN, Tm.recN, Tm.app]) _) (by simp) ?_
  simp [Tm.sub]
def apps (f : Tm) (l : List Tm) : Tm := l.foldl Tm.app f
def i50 (f : Tm) (l : List Tm) (σ : List Frm) (j : Nat) : St → Prop
  | ⟨env, loc, σ', live⟩ => env 2 = .one (.box σ.length 2 0 0) ∧ env 4 = .one (.box σ.length 4 0 0) ∧ env 7 = .one (.slice .no 5 (l.map encT)) ∧ env 8 = .one (.int .i64 l.length) ∧ env 9 = .one (.int .i64 j) ∧
    loc 2 = [encT (apps f (l.take j))] ∧ loc 4 = [[.int .i64 0, .int .i64 0, .int .i64 0, .slice .full 2 [], .slice .full 5 []]] ∧ σ' = σ
theorem apps_size (f : Tm) (l : List Tm) : (apps f l).size = f.size + 2 * l.length + Tm.sizes l := by
  induction l generalizing f with
  | nil => simp [apps]
  | cons x l ih =>
    have := ih (f.app x)
    simp [apps, Tm.app] at this ⊢
    omega
theorem c50 (f : Tm) (l : List Tm) (hsz : f.size + Tm.sizes l ≤ 1099511627) (σ : List Frm) : CallsV cfg 50 [.agg (encT f), .one (.slice .no 5 (l.map encT))] σ (.val (.agg (encT (apps f l)))) σ := by
  have hlen := Tm.length_le l
  refine w50 (by simp) ?_
  rw [s50]
  simp
  refine wpP_range l.length (i50 f l σ) (by omega) ⟨by simp, by simp, by simp, by simp, by simp, by simp [apps], by simp, rfl⟩ ?_ ?_ (hend := ?_)
  · rintro j ⟨env, loc, σ', live⟩ ⟨e2, e4, e7, e8, e9, l2, l4, rfl⟩
    exact ⟨e9, e8⟩
  · rintro j ⟨env, loc, σ', live⟩ hj ⟨e2, e4, e7, e8, e9, l2, l4, rfl⟩
    obtain ⟨x, hx, hd, hm⟩ := drop_cons hj
    have h1 := Tm.sizes_mem hm
    have h2 := apps_size f (l.take j)
    have h3 := Tm.sizes_take_le l j
    have h4 : (l.take j).length ≤ l.length := by simp; omega
    simp [e2, e4, e7, e8, e9, l2, l4, hx]
    refine opV_call (c45 3 [apps f (l.take j), x] (by simp; omega) _) (by simp) ?_
    simp [e2, e4, e7, e8, e9, l2, l4]
    exact ⟨by simp, by simp, by simp, by simp, by simp, by simp [List.take_add_one, hx, apps, Tm.app, Tm.node], by simp [l4], rfl⟩
  · rintro ⟨env, loc, σ', live⟩ ⟨e2, e4, e7, e8, e9, l2, l4, rfl⟩
    simp [e2, e4, l2, l4]
end Go.Proofs.YtnpgbkldpdogjaaGreatDoor.V

set_option maxRecDepth 100000
namespace Go.Proofs.YtnpgbkldpdogjaaGreatDoor.V
open Go Go.Proofs
theorem Good.sizes {m : Nat} {g : List Ty} (h : Good m g) : Ty.sizes g ≤ g.length * m := by
  induction g with
  | nil => simp
  | cons x g ih =>
    have h1 := (h x (by simp)).2
    have h2 := ih fun y hy => h y (by simp [hy])
    simp [Nat.add_mul]
    omega
theorem Good.sizes2000 {g : List Ty} (h : Good 64 g) (hl : g.length ≤ 2000) : Ty.sizes g ≤ 128000 := by
  have := h.sizes
  have h2 : g.length * 64 ≤ 2000 * 64 := Nat.mul_le_mul_right _ hl
  omega
theorem pickVar_nil {r : List Int} : pickVar [] r = (none, r) := by simp [pickVar]
theorem pickVar_no {l r : List Int} (hl : l ≠ []) (h : ¬ 0 < (next 3 r).1) : pickVar l r = (none, (next 3 r).2) := by simp [pickVar, hl, h]
theorem pickVar_yes {l r : List Int} (hl : l ≠ []) (h : 0 < (next 3 r).1) : pickVar l r = (some (l.getD (next l.length (next 3 r).2).1.toNat 0), (next l.length (next 3 r).2).2) := by simp [pickVar, hl, h]
theorem varsFrom_len (t : Ty) (g : List Ty) : ∀ n, (varsFrom t n g).length ≤ g.length := by
  induction g with
  | nil => intro n; simp [varsFrom]
  | cons x g ih =>
    intro n
    have := ih (n + 1)
    rw [varsFrom]
    split <;> simp <;> omega
theorem vars_len (g : List Ty) (t : Ty) : (vars g t).length ≤ g.length := by
  have := varsFrom_len t g.reverse 0
  simpa [vars] using this
theorem ty_cases {k : Int} {ts : List Ty} (h : (Ty.mk k ts).ok = true) : (k = 1 ∧ ts = []) ∨ (k = 2 ∧ ts = []) ∨ (∃ a b, ts = [a, b] ∧ (k = 3 ∨ k = 4)) ∨ (k = 5 ∧ ts = []) := by
  simp only [Ty.ok_mk, Bool.and_eq_true, beq_iff_eq] at h
  have ha := h.1
  unfold tyArity at ha
  split at ha
  · rename_i hk
    have hl : ts = [] := List.length_eq_zero_iff.1 (by simpa using ha.symm)
    rcases hk with rfl | rfl | rfl
    · exact .inl ⟨rfl, hl⟩
    · exact .inr (.inl ⟨rfl, hl⟩)
    · exact .inr (.inr (.inr ⟨rfl, hl⟩))
  · split at ha
    · match ts, ha with
      | [a, b], _ => exact .inr (.inr (.inl ⟨a, b, rfl, by omega⟩))
    · cases ha
def z62 : List Cell := [.int .i64 0, .int .i64 0, .int .i64 0, .slice .full 2 [], .slice .full 5 []]
def r38 (l : List Int) (p : Pl) (g : List Ty) (t : Ty) (dep : Int) (σ : List Frm) (Ok : List Int → Prop) : St → Prop
  | ⟨env, loc, σ', live⟩ => ∃ r, r <:+ l ∧ Ok r ∧ env 0 = p.ptr ∧ env 1 = .one (.slice .no 2 (g.map enc)) ∧ env 3 = .one (.int .i64 dep) ∧ env 6 = .one (.box σ.length 6 0 0) ∧ env 8 = .one (.box σ.length 8 0 0) ∧ loc 6 = [enc t] ∧ loc 8 = [z62] ∧ σ' = setC σ p (deckC l r)
theorem d15_0 {l : List Int} (hd : Dk l) (p : Pl) (t : Ty) : ∀ (g : List Ty) (dep : Int), dep ≤ 0 → -1000 ≤ dep - t.size → Good 64 g → t.ok = true ∧ t.size ≤ 64 → g.length + t.size ≤ 1000 → ∀ {r : List Int}, r <:+ l →
    DkV l p 15 [p.ptr, .one (.slice .no 2 (g.map enc)), .agg (enc t), .one (.int .i64 dep)] r (.agg (encT (mkTerm0 g t r).1)) (mkTerm0 g t r).2 := by
  induction t using Ty.ind with
  | _ k ts ih =>
  intro g dep hdep hdep2 hg ht hlen r hr σ hH
  have hgs := hg.sizes2000 (by omega)
  have hne : ¬ p.d = σ.length := by have := hH.lt; omega
  have hne' : ¬ σ.length = p.d := fun h => hne h.symm
  refine w15 (by simp) ?_
  rw [s15]
  refine cut4 (r38 l p g (.mk k ts) dep σ fun r' => pickVar (vars g (.mk k ts)) r = (none, r')) ?_ ?_
  · simp [Pl.ptr]
    refine opV_call (c43 g (.mk k ts) (by omega) _) (by simp) ?_
    have hdep' : ¬ 0 < dep := by omega
    have hvl := vars_len g (.mk k ts)
    by_cases hv : vars g (.mk k ts) = []
    · simp [hv, hdep']
      exact ⟨r, hr, pickVar_nil, by simp [Pl.ptr], by simp, by simp, by simp, by simp, by simp, by simp [z62], by simp⟩
    · have hpos : 0 < (vars g (.mk k ts)).length := List.length_pos_iff.2 hv
      have hpos' : (0 : Int) < (vars g (.mk k ts)).length := by omega
      simp [hpos]
      refine opV_at (dNext hd hr p (n := 3) (by omega)) hH (by simp [Pl.ptr]) ?_
      have s1 := (next_suf 3 r).trans hr
      by_cases h3 : 0 < (next 3 r).1
      · simp [h3]
        refine opV_at (dNext hd s1 p (n := (vars g (.mk k ts)).length) (by omega)) hH (by simp [Pl.ptr]) ?_
        have hrng := next_range (n := (vars g (.mk k ts)).length) (by omega) (next 3 r).2
        obtain ⟨x, hx⟩ : ∃ x, (vars g (.mk k ts))[(next ((vars g (.mk k ts)).length : Int) (next 3 r).2).1.toNat]? = some x := ⟨_, List.getElem?_eq_getElem (by omega)⟩
        have hy : mkTerm0 g (.mk k ts) r = (.var x, (next ((vars g (.mk k ts)).length : Int) (next 3 r).2).2) := by
          unfold mkTerm0
          rw [pickVar_yes hv h3, List.getD_eq_getElem?_getD, hx]
          try rfl
        rw [hy]
        simp [encI_get hx, hrng.1]
        refine opV_call (c44 x _) (by simp) ?_
        simp
      · simp [h3, hdep']
        exact ⟨_, s1, pickVar_no hv h3, by simp [Pl.ptr], by simp, by simp, by simp, by simp, by simp, by simp [z62], by simp⟩
  · rintro ⟨env, loc, σ', live⟩ ⟨r', hr', hpv, e0, e1, e3, e6, e8, l6, l8, rfl⟩
    simp only [Pl.ptr] at e0
    have hy : mkTerm0 g (.mk k ts) r = if k = 1 then (.num (next 3 r').1.toNat, (next 3 r').2) else if k = 2 then (.node 7 [], r') else match ts with
        | [a, b] => if k = 3 then (.node 10 [(mkTerm0 g a r').1, (mkTerm0 g b (mkTerm0 g a r').2).1], (mkTerm0 g b (mkTerm0 g a r').2).2) else if k = 4 then (.tnode 2 a [(mkTerm0 (g ++ [a]) b r').1], (mkTerm0 (g ++ [a]) b r').2) else (.node 13 [], r')
        | _ => (.node 13 [], r') := by
      rw [mkTerm0, hpv]
      try rfl
    rw [hy]
    have hdep' : ¬ 0 < dep := by omega
    have hkind := ty_cases ht.1
    rcases hkind with ⟨rfl, rfl⟩ | ⟨rfl, rfl⟩ | ⟨a, b, rfl, rfl | rfl⟩ | ⟨rfl, rfl⟩
    · simp [e0, e1, e3, e6, e8, l6, l8, hdep']
      refine opV_at (dNext hd hr' p (n := 3) (by omega)) hH (by simp [Pl.ptr]) ?_
      have hrng := next_range (n := 3) (by omega) r'
      simp
      refine opV_call (c47 (next 3 r').1.toNat (by omega) _) (by simp; omega) ?_
      simp [e8, l8, z62]
    · simp [e0, e1, e3, e6, e8, l6, l8, hdep']
      refine opV_call (c45 7 [] (by simp) _) (by simp) ?_
      simp [e8, l8, z62]
    · have hab := Ty.parts2 ht
      have hs2 : (Ty.mk 3 [a, b]).size = 1 + (a.size + b.size) := by simp
      have f1 := mkTerm0_fine (m := 64) (by omega) a g r' hab.1
      have f2 := mkTerm0_fine (m := 64) (by omega) b g (mkTerm0 g a r').2 hab.2
      have s1 := (mkTerm0_suf a g r').trans hr'
      simp [e0, e1, e3, e6, e8, l6, l8, hdep']
      refine wpP_draw (atPl p) ?_
      simp [e0, e1, e3, e6, e8, l6, l8, hne']
      rw [wrap_id (by omega) (by omega)]
      refine stepD_at (ih a (by simp) g (dep - 1) (by omega) (by omega) hg hab.1 (by omega) hr') hH (by simp [Pl.ptr]) ?_
      simp [e0, e1, e3, e6, e8, l6, l8, hne']
      rw [wrap_id (by omega) (by omega)]
      refine stepD_at (ih b (by simp) g (dep - 1) (by omega) (by omega) hg hab.2 (by omega) s1) hH (by simp [Pl.ptr]) ?_
      simp [e0, e1, e3, e6, e8, l6, l8, hne']
      refine stepD_call (c45 10 [(mkTerm0 g a r').1, (mkTerm0 g b (mkTerm0 g a r').2).1] (by have := f1.2; have := f2.2; simp; omega) _) (by simp) ?_
      simp [e0, e1, e3, e6, e8, l6, l8, hne', z62]
    · have hab := Ty.parts2 ht
      have hs2 : (Ty.mk 4 [a, b]).size = 1 + (a.size + b.size) := by simp
      have hap := a.size_pos
      have f2 := mkTerm0_fine (m := 64) (by omega) b (g ++ [a]) r' hab.2
      simp [e0, e1, e3, e6, e8, l6, l8, hdep']
      refine wpP_draw (atPl p) ?_
      simp [e0, e1, e3, e6, e8, l6, l8, hne']
      refine stepD_call (c31 g [a] (by simp; omega) _) (by simp) ?_
      simp [e0, e1, e3, e6, e8, l6, l8, hne']
      rw [wrap_id (by omega) (by omega)]
      refine stepD_at (ih b (by simp) (g ++ [a]) (dep - 1) (by omega) (by omega) (hg.app (Good.one hab.1)) hab.2 (by simp; omega) hr') hH (by simp [Pl.ptr]) ?_
      simp [e0, e1, e3, e6, e8, l6, l8, hne']
      refine stepD_call (c46 2 a [(mkTerm0 (g ++ [a]) b r').1] (by omega) (by have := f2.2; simp; omega) _) (by simp) ?_
      simp [e0, e1, e3, e6, e8, l6, l8, hne', z62]
    · simp [e0, e1, e3, e6, e8, l6, l8, hdep']
      refine opV_call (c45 13 [] (by simp) _) (by simp) ?_
      simp [e8, l8, z62]
end Go.Proofs.YtnpgbkldpdogjaaGreatDoor.V

set_option maxRecDepth 100000
namespace Go.Proofs.YtnpgbkldpdogjaaGreatDoor.V
open Go Go.Proofs
def mkStep (d : Nat) (g : List Ty) (t : Ty) (r : List Int) (c : Int) (r1 : List Int) : Tm × List Int :=
      if c = 0 then
        (.node 3 [.tnode 2 (mkType 0 r1).1 [(mkTerm d (g ++ [(mkType 0 r1).1]) t (mkType 0 r1).2).1], (mkTerm d g (mkType 0 r1).1 (mkTerm d (g ++ [(mkType 0 r1).1]) t (mkType 0 r1).2).2).1], (mkTerm d g (mkType 0 r1).1 (mkTerm d (g ++ [(mkType 0 r1).1]) t (mkType 0 r1).2).2).2)
      else if c = 1 then
        (.node 11 [.node 10 [(mkTerm d g t (mkType 0 r1).2).1, (mkTerm d g (mkType 0 r1).1 (mkTerm d g t (mkType 0 r1).2).2).1]], (mkTerm d g (mkType 0 r1).1 (mkTerm d g t (mkType 0 r1).2).2).2)
      else if c = 2 then
        (.tnode 6 t [(mkTerm d g t (mkTerm d (g ++ [.nat, t]) t r1).2).1, .tnode 2 .nat [.tnode 2 t [(mkTerm d (g ++ [.nat, t]) t r1).1]], .num (next 3 (mkTerm d g t (mkTerm d (g ++ [.nat, t]) t r1).2).2).1.toNat], (next 3 (mkTerm d g t (mkTerm d (g ++ [.nat, t]) t r1).2).2).2)
      else if c = 3 then
        (.tnode 9 t [(mkTerm d g t (mkTerm d (g ++ [.nat, .list, t]) t r1).2).1, .tnode 2 .nat [.tnode 2 .list [.tnode 2 t [(mkTerm d (g ++ [.nat, .list, t]) t r1).1]]], (mkTerm d g .list (mkTerm d g t (mkTerm d (g ++ [.nat, .list, t]) t r1).2).2).1], (mkTerm d g .list (mkTerm d g t (mkTerm d (g ++ [.nat, .list, t]) t r1).2).2).2)
      else if c = 4 then
        (.node 12 [.node 10 [(mkTerm d g (mkType 0 r1).1 (mkType 0 r1).2).1, (mkTerm d g t (mkTerm d g (mkType 0 r1).1 (mkType 0 r1).2).2).1]], (mkTerm d g t (mkTerm d g (mkType 0 r1).1 (mkType 0 r1).2).2).2)
      else if c = 5 then
        match funFrom t 0 g.reverse with
        | some (i, a) => (.node 3 [.var i, (mkTerm d g a r1).1], (mkTerm d g a r1).2)
        | none => mkPlain (mkTerm d) g t r1
      else mkPlain (mkTerm d) g t r1
theorem mkTerm_none {d : Nat} {g : List Ty} {t : Ty} {r r' : List Int} (h : pickVar (vars g t) r = (none, r')) : mkTerm (d + 1) g t r = mkStep d g t r (next 8 r').1 (next 8 r').2 := by
  rw [mkTerm, h]
  try rfl
theorem mkTerm_var {d : Nat} {g : List Ty} {t : Ty} {r r' : List Int} {i : Int} (h : pickVar (vars g t) r = (some i, r')) : mkTerm (d + 1) g t r = (.var i, r') := by
  rw [mkTerm, h]
theorem tmB_small : ∀ d, d ≤ 4 → tmB 64 d ≤ 100000 := by decide
def i15 (l : List Int) (p : Pl) (g : List Ty) (t : Ty) (dep : Int) (r : List Int) (σ : List Frm) (j : Nat) : St → Prop
  | ⟨env, loc, σ', live⟩ => env 0 = p.ptr ∧ env 1 = .one (.slice .no 2 (g.map enc)) ∧ env 3 = .one (.int .i64 dep) ∧ env 6 = .one (.box σ.length 6 0 0) ∧ env 8 = .one (.box σ.length 8 0 0) ∧ env 176 = .one (.int .i64 g.length) ∧ env 177 = .one (.int .i64 j) ∧ loc 6 = [enc t] ∧ loc 8 = [z62] ∧ σ' = setC σ p (deckC l r) ∧
    funFrom t 0 g.reverse = funFrom t j (g.reverse.drop j)
theorem d15 {l : List Int} (hd : Dk l) (p : Pl) (d : Nat) : d ≤ 4 → ∀ (g : List Ty) (t : Ty), Good 64 g → t.ok = true ∧ t.size ≤ 64 → g.length + 3 * d + 64 ≤ 1000 → ∀ {r : List Int}, r <:+ l →
    DkV l p 15 [p.ptr, .one (.slice .no 2 (g.map enc)), .agg (enc t), .one (.int .i64 d)] r (.agg (encT (mkTerm d g t r).1)) (mkTerm d g t r).2 := by
  induction d with
  | zero => exact fun _ g t hg ht hlen r hr => d15_0 hd p t g 0 (by omega) (by omega) hg ht (by omega) hr
  | succ d ih =>
  intro hd4 g t hg ht hlen r hr σ hH
  have hB := tmB_small d (by omega)
  have fine : ∀ g t r, Good 64 g → t.ok = true ∧ t.size ≤ 64 → (mkTerm d g t r).1.size ≤ 100000 := fun g t r hg ht => by have := (mkTerm_fine (m := 64) (by omega) d g t r hg ht).2; omega
  have hgs := hg.sizes2000 (by omega)
  have hne : ¬ p.d = σ.length := by have := hH.lt; omega
  have hne' : ¬ σ.length = p.d := fun h => hne h.symm
  have hnat : Ty.nat.ok = true ∧ Ty.nat.size ≤ 64 := ⟨Ty.nat_ok, by simp⟩
  have hlist : Ty.list.ok = true ∧ Ty.list.size ≤ 64 := ⟨Ty.list_ok, by simp⟩
  have h0 : ∀ r, (mkType 0 r).1.ok = true ∧ (mkType 0 r).1.size ≤ 64 := fun r => ⟨(mkType0 r).1, by have := (mkType0 r).2; omega⟩
  have hpos1 : (0 : Int) < (d : Int) + 1 := by omega
  have hw : IntKind.i64.wrap (d : Int) = d := wrap_id (by omega) (by omega)
  refine w15 (by simp) ?_
  rw [s15]
  refine cut3 (r38 l p g t ((d : Int) + 1) σ fun r' => pickVar (vars g t) r = (none, r')) ?_ ?_
  · simp [Pl.ptr]
    refine opV_call (c43 g t (by omega) _) (by simp) ?_
    have hvl := vars_len g t
    by_cases hv : vars g t = []
    · simp [hv]
      exact ⟨r, hr, pickVar_nil, by simp [Pl.ptr], by simp, by simp, by simp, by simp, by simp, by simp [z62], by simp⟩
    · have hpos : 0 < (vars g t).length := List.length_pos_iff.2 hv
      simp [hpos]
      refine opV_at (dNext hd hr p (n := 3) (by omega)) hH (by simp [Pl.ptr]) ?_
      have s1 := (next_suf 3 r).trans hr
      by_cases h3 : 0 < (next 3 r).1
      · simp [h3]
        refine opV_at (dNext hd s1 p (n := (vars g t).length) (by omega)) hH (by simp [Pl.ptr]) ?_
        have hrng := next_range (n := (vars g t).length) (by omega) (next 3 r).2
        obtain ⟨x, hx⟩ : ∃ x, (vars g t)[(next ((vars g t).length : Int) (next 3 r).2).1.toNat]? = some x := ⟨_, List.getElem?_eq_getElem (by omega)⟩
        have hy : mkTerm (d + 1) g t r = (.var x, (next ((vars g t).length : Int) (next 3 r).2).2) := by
          refine mkTerm_var ?_
          rw [pickVar_yes hv h3, List.getD_eq_getElem?_getD, hx]
          try rfl
        rw [hy]
        simp [encI_get hx, hrng.1]
        refine opV_call (c44 x _) (by simp) ?_
        simp
      · simp [h3]
        exact ⟨_, s1, pickVar_no hv h3, by simp [Pl.ptr], by simp, by simp, by simp, by simp, by simp, by simp [z62], by simp⟩
  · rintro ⟨env, loc, σ', live⟩ ⟨r', hr', hpv, e0, e1, e3, e6, e8, l6, l8, rfl⟩
    have hy := mkTerm_none (d := d) hpv
    have hc := next_range (n := 8) (by omega) r'
    have s1 := (next_suf 8 r').trans hr'
    simp only [Pl.ptr] at e0
    refine wpP_cut (r38 l p g t ((d : Int) + 1) σ fun r' => mkTerm (d + 1) g t r = mkPlain (mkTerm d) g t r') ?_ ?_
    · simp [e0, e1, e3, e6, e8, l6, l8, hpos1]
      refine opV_at (dNext hd hr' p (n := 8) (by omega)) hH (by simp [Pl.ptr]) ?_
      rw [hy]
      generalize hr1 : (next 8 r').2 = r1 at s1 hy
      have hcase : (next 8 r').1 = 0 ∨ (next 8 r').1 = 1 ∨ (next 8 r').1 = 2 ∨ (next 8 r').1 = 3 ∨ (next 8 r').1 = 4 ∨ (next 8 r').1 = 5 ∨ (next 8 r').1 = 6 ∨ (next 8 r').1 = 7 := by omega
      have s2 := (mkType_suf 0 r1).trans s1
      have hs := h0 r1
      rcases hcase with h | h | h | h | h | h | h | h
      · simp [h, mkStep]
        have gS := hg.app (Good.one hs)
        have fx := fine (g ++ [(mkType 0 r1).1]) t (mkType 0 r1).2 gS ht
        have fy := fine g (mkType 0 r1).1 (mkTerm d (g ++ [(mkType 0 r1).1]) t (mkType 0 r1).2).2 hg hs
        have s3 := (mkTerm_suf d (g ++ [(mkType 0 r1).1]) t (mkType 0 r1).2).trans s2
        refine opV_at (d28 hd p 0 (by omega) s1) hH (by simp [Pl.ptr]) ?_
        simp [e0, e1, e3, e6, e8, l6, l8, hne']
        refine wpP_draw (atPl p) ?_
        simp [e0, e1, e3, e6, e8, l6, l8, hne']
        refine stepD_call (c31 g [(mkType 0 r1).1] (by simp; omega) _) (by simp) ?_
        simp [e0, e1, e3, e6, e8, l6, l8, hne', hw]
        refine stepD_at (ih (by omega) (g ++ [(mkType 0 r1).1]) t gS ht (by simp; omega) s2) hH (by simp [Pl.ptr]) ?_
        simp [e0, e1, e3, e6, e8, l6, l8, hne']
        refine stepD_call (c46 2 (mkType 0 r1).1 [(mkTerm d (g ++ [(mkType 0 r1).1]) t (mkType 0 r1).2).1] (by omega) (by simp; omega) _) (by simp) ?_
        simp [e0, e1, e3, e6, e8, l6, l8, hne', hw]
        refine stepD_at (ih (by omega) g (mkType 0 r1).1 hg hs (by omega) s3) hH (by simp [Pl.ptr]) ?_
        simp [e0, e1, e3, e6, e8, l6, l8, hne']
        refine stepD_call (c45 3 [.tnode 2 (mkType 0 r1).1 [(mkTerm d (g ++ [(mkType 0 r1).1]) t (mkType 0 r1).2).1], (mkTerm d g (mkType 0 r1).1 (mkTerm d (g ++ [(mkType 0 r1).1]) t (mkType 0 r1).2).2).1] (by simp; omega) _) (by simp) ?_
        simp [e0, e1, e3, e6, e8, l6, l8, hne', z62]
      · simp [h, mkStep]
        have fx := fine g t (mkType 0 r1).2 hg ht
        have fy := fine g (mkType 0 r1).1 (mkTerm d g t (mkType 0 r1).2).2 hg hs
        have s3 := (mkTerm_suf d g t (mkType 0 r1).2).trans s2
        refine opV_at (d28 hd p 0 (by omega) s1) hH (by simp [Pl.ptr]) ?_
        simp [e0, e1, e3, e6, e8, l6, l8, hne']
        refine wpP_draw (atPl p) ?_
        simp [e0, e1, e3, e6, e8, l6, l8, hne', hw]
        refine stepD_at (ih (by omega) g t hg ht (by omega) s2) hH (by simp [Pl.ptr]) ?_
        simp [e0, e1, e3, e6, e8, l6, l8, hne', hw]
        refine stepD_at (ih (by omega) g (mkType 0 r1).1 hg hs (by omega) s3) hH (by simp [Pl.ptr]) ?_
        simp [e0, e1, e3, e6, e8, l6, l8, hne']
        refine stepD_call (c45 10 [(mkTerm d g t (mkType 0 r1).2).1, (mkTerm d g (mkType 0 r1).1 (mkTerm d g t (mkType 0 r1).2).2).1] (by simp; omega) _) (by simp) ?_
        simp [e0, e1, e3, e6, e8, l6, l8, hne']
        refine stepD_call (c45 11 [.node 10 [(mkTerm d g t (mkType 0 r1).2).1, (mkTerm d g (mkType 0 r1).1 (mkTerm d g t (mkType 0 r1).2).2).1]] (by simp; omega) _) (by simp) ?_
        simp [e0, e1, e3, e6, e8, l6, l8, hne', z62]
      · simp [h, mkStep]
        have gS := hg.app (Good.cons hnat (Good.one ht))
        have fx := fine (g ++ [Ty.nat, t]) t r1 gS ht
        have fy := fine g t (mkTerm d (g ++ [Ty.nat, t]) t r1).2 hg ht
        have s3 := (mkTerm_suf d (g ++ [Ty.nat, t]) t r1).trans s1
        have s4 := (mkTerm_suf d g t (mkTerm d (g ++ [Ty.nat, t]) t r1).2).trans s3
        have hn3 := next_range (n := 3) (by omega) (mkTerm d g t (mkTerm d (g ++ [Ty.nat, t]) t r1).2).2
        refine wpP_draw (atPl p) ?_
        simp [e0, e1, e3, e6, e8, l6, l8, hne']
        refine stepD_call (c32 _) (by simp) ?_
        simp [e0, e1, e3, e6, e8, l6, l8, hne']
        refine stepD_call (c32 _) (by simp) ?_
        simp [e0, e1, e3, e6, e8, l6, l8, hne']
        refine stepD_call (c31 g [.nat, t] (by simp; omega) _) (by simp [Ty.nat]) ?_
        simp [e0, e1, e3, e6, e8, l6, l8, hne', hw]
        refine stepD_at (ih (by omega) (g ++ [.nat, t]) t gS ht (by simp; omega) s1) hH (by simp [Pl.ptr]) ?_
        simp [e0, e1, e3, e6, e8, l6, l8, hne']
        refine stepD_call (c46 2 t [(mkTerm d (g ++ [Ty.nat, t]) t r1).1] (by omega) (by simp; omega) _) (by simp) ?_
        simp [e0, e1, e3, e6, e8, l6, l8, hne']
        refine stepD_call (c46 2 .nat [.tnode 2 t [(mkTerm d (g ++ [Ty.nat, t]) t r1).1]] (by simp) (by simp; omega) _) (by simp [Ty.nat]) ?_
        simp [e0, e1, e3, e6, e8, l6, l8, hne']
        refine wpP_draw (atPl p) ?_
        simp [e0, e1, e3, e6, e8, l6, l8, hne', hw]
        refine stepD_at (ih (by omega) g t hg ht (by omega) s3) hH (by simp [Pl.ptr]) ?_
        simp [e0, e1, e3, e6, e8, l6, l8, hne']
        refine stepD_at (dNext hd s4 p (n := 3) (by omega)) hH (by simp [Pl.ptr]) ?_
        simp [e0, e1, e3, e6, e8, l6, l8, hne']
        refine stepD_call (c47 (next 3 (mkTerm d g t (mkTerm d (g ++ [Ty.nat, t]) t r1).2).2).1.toNat (by omega) _) (by simp; omega) ?_
        simp [e0, e1, e3, e6, e8, l6, l8, hne']
        refine stepD_call (c46 6 t [(mkTerm d g t (mkTerm d (g ++ [Ty.nat, t]) t r1).2).1, .tnode 2 .nat [.tnode 2 t [(mkTerm d (g ++ [Ty.nat, t]) t r1).1]], .num (next 3 (mkTerm d g t (mkTerm d (g ++ [Ty.nat, t]) t r1).2).2).1.toNat] (by omega) (by simp; omega) _) (by simp) ?_
        simp [e0, e1, e3, e6, e8, l6, l8, hne', z62]
      · simp [h, mkStep]
        have gS := hg.app (Good.cons hnat (Good.cons hlist (Good.one ht)))
        have fx := fine (g ++ [Ty.nat, Ty.list, t]) t r1 gS ht
        have fy := fine g t (mkTerm d (g ++ [Ty.nat, Ty.list, t]) t r1).2 hg ht
        have fz := fine g Ty.list (mkTerm d g t (mkTerm d (g ++ [Ty.nat, Ty.list, t]) t r1).2).2 hg hlist
        have s3 := (mkTerm_suf d (g ++ [Ty.nat, Ty.list, t]) t r1).trans s1
        have s4 := (mkTerm_suf d g t (mkTerm d (g ++ [Ty.nat, Ty.list, t]) t r1).2).trans s3
        refine wpP_draw (atPl p) ?_
        simp [e0, e1, e3, e6, e8, l6, l8, hne']
        refine stepD_call (c32 _) (by simp) ?_
        simp [e0, e1, e3, e6, e8, l6, l8, hne']
        refine stepD_call (c48 _) (by simp) ?_
        simp [e0, e1, e3, e6, e8, l6, l8, hne']
        refine stepD_call (c32 _) (by simp) ?_
        simp [e0, e1, e3, e6, e8, l6, l8, hne']
        refine stepD_call (c48 _) (by simp) ?_
        simp [e0, e1, e3, e6, e8, l6, l8, hne']
        refine stepD_call (c31 g [.nat, .list, t] (by simp; omega) _) (by simp [Ty.nat, Ty.list]) ?_
        simp [e0, e1, e3, e6, e8, l6, l8, hne', hw]
        refine stepD_at (ih (by omega) (g ++ [.nat, .list, t]) t gS ht (by simp; omega) s1) hH (by simp [Pl.ptr]) ?_
        simp [e0, e1, e3, e6, e8, l6, l8, hne']
        refine stepD_call (c46 2 t [(mkTerm d (g ++ [Ty.nat, Ty.list, t]) t r1).1] (by omega) (by simp; omega) _) (by simp) ?_
        simp [e0, e1, e3, e6, e8, l6, l8, hne']
        refine stepD_call (c46 2 .list [.tnode 2 t [(mkTerm d (g ++ [Ty.nat, Ty.list, t]) t r1).1]] (by simp) (by simp; omega) _) (by simp [Ty.list]) ?_
        simp [e0, e1, e3, e6, e8, l6, l8, hne']
        refine stepD_call (c46 2 .nat [.tnode 2 .list [.tnode 2 t [(mkTerm d (g ++ [Ty.nat, Ty.list, t]) t r1).1]]] (by simp) (by simp; omega) _) (by simp [Ty.nat]) ?_
        simp [e0, e1, e3, e6, e8, l6, l8, hne']
        refine wpP_draw (atPl p) ?_
        simp [e0, e1, e3, e6, e8, l6, l8, hne', hw]
        refine stepD_at (ih (by omega) g t hg ht (by omega) s3) hH (by simp [Pl.ptr]) ?_
        simp [e0, e1, e3, e6, e8, l6, l8, hne']
        refine stepD_call (c48 _) (by simp) ?_
        simp [e0, e1, e3, e6, e8, l6, l8, hne', hw]
        refine stepD_at (ih (by omega) g .list hg hlist (by omega) s4) hH (by simp [Pl.ptr, Ty.list]) ?_
        simp [e0, e1, e3, e6, e8, l6, l8, hne']
        refine stepD_call (c46 9 t [(mkTerm d g t (mkTerm d (g ++ [Ty.nat, Ty.list, t]) t r1).2).1, .tnode 2 .nat [.tnode 2 .list [.tnode 2 t [(mkTerm d (g ++ [Ty.nat, Ty.list, t]) t r1).1]]], (mkTerm d g Ty.list (mkTerm d g t (mkTerm d (g ++ [Ty.nat, Ty.list, t]) t r1).2).2).1] (by omega) (by simp; omega) _) (by simp) ?_
        simp [e0, e1, e3, e6, e8, l6, l8, hne', z62]
      · simp [h, mkStep]
        have fx := fine g (mkType 0 r1).1 (mkType 0 r1).2 hg hs
        have fy := fine g t (mkTerm d g (mkType 0 r1).1 (mkType 0 r1).2).2 hg ht
        have s3 := (mkTerm_suf d g (mkType 0 r1).1 (mkType 0 r1).2).trans s2
        refine opV_at (d28 hd p 0 (by omega) s1) hH (by simp [Pl.ptr]) ?_
        simp [e0, e1, e3, e6, e8, l6, l8, hne']
        refine wpP_draw (atPl p) ?_
        simp [e0, e1, e3, e6, e8, l6, l8, hne', hw]
        refine stepD_at (ih (by omega) g (mkType 0 r1).1 hg hs (by omega) s2) hH (by simp [Pl.ptr]) ?_
        simp [e0, e1, e3, e6, e8, l6, l8, hne', hw]
        refine stepD_at (ih (by omega) g t hg ht (by omega) s3) hH (by simp [Pl.ptr]) ?_
        simp [e0, e1, e3, e6, e8, l6, l8, hne']
        refine stepD_call (c45 10 [(mkTerm d g (mkType 0 r1).1 (mkType 0 r1).2).1, (mkTerm d g t (mkTerm d g (mkType 0 r1).1 (mkType 0 r1).2).2).1] (by simp; omega) _) (by simp) ?_
        simp [e0, e1, e3, e6, e8, l6, l8, hne']
        refine stepD_call (c45 12 [.node 10 [(mkTerm d g (mkType 0 r1).1 (mkType 0 r1).2).1, (mkTerm d g t (mkTerm d g (mkType 0 r1).1 (mkType 0 r1).2).2).1]] (by simp; omega) _) (by simp) ?_
        simp [e0, e1, e3, e6, e8, l6, l8, hne', z62]
      · simp [h, mkStep, e1]
        refine wpP_range g.length (i15 l p g t ((d : Int) + 1) r1 σ) (by omega) ⟨by simp [Pl.ptr], by simp, by simp, by simp, by simp, by simp, by simp, by simp [l6], by simp [l8], by simp, by simp⟩ ?_ ?_ (hend := ?_)
        · rintro j ⟨env, loc, σ', live⟩ ⟨e0, e1, e3, e6, e8, e176, e177, l6, l8, rfl, hs⟩
          exact ⟨e177, e176⟩
        · rintro j ⟨env, loc, σ', live⟩ hj ⟨e0, e1, e3, e6, e8, e176, e177, l6, l8, rfl, hs⟩
          simp only [Pl.ptr] at e0
          obtain ⟨x, hx, hdr, hm⟩ := drop_cons (l := g.reverse) (j := j) (by simpa using hj)
          have hx' : g[g.length - 1 - j]? = some x := by rw [List.getElem?_reverse hj] at hx; exact hx
          have hgx := hg x (by simpa using hm)
          rw [hdr] at hs
          have w1 : IntKind.i64.wrap ((g.length : Int) - 1) = g.length - 1 := wrap_id (by omega) (by omega)
          have w2 : IntKind.i64.wrap ((g.length : Int) - 1 - j) = g.length - 1 - j := wrap_id (by omega) (by omega)
          have w3 : ((g.length : Int) - 1 - j).toNat = g.length - 1 - j := by omega
          have w4 : (0 : Int) ≤ (g.length : Int) - 1 - j := by omega
          simp [e0, e1, e3, e6, e8, e176, e177, l6, l8, w1, w2, w3, w4, hx']
          obtain ⟨kx, lx⟩ := x
          have fin : funFrom t 0 g.reverse = funFrom t (j + 1) (g.reverse.drop (j + 1)) → True := fun _ => trivial
          by_cases hk4 : kx = 4
          · subst hk4
            obtain ⟨a, b, rfl⟩ : ∃ a b, lx = [a, b] := by
              rcases ty_cases hgx.1 with ⟨h, _⟩ | ⟨h, _⟩ | ⟨a, b, h, _⟩ | ⟨h, _⟩
              · omega
              · omega
              · exact ⟨a, b, h⟩
              · omega
            have hab := Ty.parts2 hgx
            refine ⟨by omega, wpP_draw (atPl p) ?_⟩
            simp [e0, e1, e3, e6, e8, l6, l8, hne']
            refine stepD_call (c49 b t (by omega) _) (by simp) ?_
            cases hsm : Ty.same b t with
            | true =>
              simp only [funFrom, hsm] at hs
              simp at hs
              simp [e0, e1, e3, e6, e8, l6, l8, hne']
              refine wpP_draw (atPl p) ?_
              simp [e0, e1, e3, e6, e8, l6, l8, hne']
              refine stepD_call (c44 (j : Int) _) (by simp) ?_
              simp [e0, e1, e3, e6, e8, l6, l8, hne', hw]
              have fx := fine g a r1 hg hab.1
              refine stepD_at (ih (by omega) g a hg hab.1 (by omega) s1) hH (by simp [Pl.ptr]) ?_
              simp [e0, e1, e3, e6, e8, l6, l8, hne']
              refine stepD_call (c45 3 [.var j, (mkTerm d g a r1).1] (by simp; omega) _) (by simp) ?_
              simp [e0, e1, e3, e6, e8, l6, l8, hne', z62, hs]
            | false =>
              simp only [funFrom, hsm] at hs
              simp at hs
              simp [e0, e1, e3, e6, e8, l6, l8, hne']
              exact ⟨by simp [Pl.ptr], by simp, by simp, by simp, by simp, by simp, by simp, by simp [l6], by simp [l8], rfl, hs⟩
          · have hs' : funFrom t 0 g.reverse = funFrom t (j + 1) (g.reverse.drop (j + 1)) := by
              rw [hs]
              match lx with
              | [] => rfl
              | [_] => rfl
              | [a, b] => simp [funFrom, hk4]
              | _ :: _ :: _ :: _ => rfl
            refine ⟨by omega, wpP_draw (atPl p) ?_⟩
            simp [e0, e1, e3, e6, e8, l6, l8, hne', hk4]
            exact ⟨by simp [Pl.ptr], by simp, by simp, by simp, by simp, by simp, by simp, by simp [l6], by simp [l8], rfl, hs'⟩
        · rintro ⟨env, loc, σ', live⟩ ⟨e0, e1, e3, e6, e8, e176, e177, l6, l8, rfl, hs⟩
          rw [show g.reverse.drop g.length = [] by simp, funFrom] at hs
          simp [e0, e1, e3, e6, e8, l6, l8]
          exact ⟨r1, s1, by rw [hs], by simp [Pl.ptr], by simp, by simp, by simp, by simp, by simp [l6], by simp [l8], by simp⟩
      · simp [h, mkStep]
        exact ⟨r1, s1, rfl, by simp [Pl.ptr], by simp, by simp, by simp, by simp, by simp [l6], by simp [l8], by simp⟩
      · simp [h, mkStep]
        exact ⟨r1, s1, rfl, by simp [Pl.ptr], by simp, by simp, by simp, by simp, by simp [l6], by simp [l8], by simp⟩
    · rintro ⟨env, loc, σ', live⟩ ⟨r2, s2, hy2, e0, e1, e3, e6, e8, l6, l8, rfl⟩
      simp only [Pl.ptr] at e0
      rw [hy2]
      obtain ⟨k, ts⟩ := t
      rcases ty_cases ht.1 with ⟨rfl, rfl⟩ | ⟨rfl, rfl⟩ | ⟨a, b, rfl, rfl | rfl⟩ | ⟨rfl, rfl⟩
      · have hc5 := next_range (n := 5) (by omega) r2
        have s3 := (next_suf 5 r2).trans s2
        simp [e0, e1, e3, e6, e8, l6, l8, hne', hpos1, mkPlain]
        refine opV_at (dNext hd s2 p (n := 5) (by omega)) hH (by simp [Pl.ptr]) ?_
        have hcase : (next 5 r2).1 = 0 ∨ (next 5 r2).1 = 1 ∨ (next 5 r2).1 = 2 ∨ (next 5 r2).1 = 3 ∨ (next 5 r2).1 = 4 := by omega
        have fx := fine g (.mk 1 []) (next 5 r2).2 hg ht
        have fy := fine g (.mk 1 []) (mkTerm d g (.mk 1 []) (next 5 r2).2).2 hg ht
        have s4 := (mkTerm_suf d g (.mk 1 []) (next 5 r2).2).trans s3
        have hn3 := next_range (n := 3) (by omega) (next 5 r2).2
        rcases hcase with h | h | h | h | h
        · simp [h, e0, e1, e3, e6, e8, l6, l8, hne', hw]
          refine opV_at (ih (by omega) g (.mk 1 []) hg ht (by omega) s3) hH (by simp [Pl.ptr]) ?_
          simp [e0, e1, e3, e6, e8, l6, l8, hne']
          refine opV_call (c45 5 [(mkTerm d g (.mk 1 []) (next 5 r2).2).1] (by simp; omega) _) (by simp) ?_
          simp [e0, e1, e3, e6, e8, l6, l8, hne', z62]
        · simp [h, e0, e1, e3, e6, e8, l6, l8, hne']
          refine wpP_draw (atPl p) ?_
          simp [e0, e1, e3, e6, e8, l6, l8, hne']
          refine stepD_call (c51 _) (by simp) ?_
          simp [e0, e1, e3, e6, e8, l6, l8, hne', hw]
          refine stepD_at (ih (by omega) g (.mk 1 []) hg ht (by omega) s3) hH (by simp [Pl.ptr]) ?_
          simp [e0, e1, e3, e6, e8, l6, l8, hne', hw]
          refine stepD_at (ih (by omega) g (.mk 1 []) hg ht (by omega) s4) hH (by simp [Pl.ptr]) ?_
          simp [e0, e1, e3, e6, e8, l6, l8, hne']
          refine stepD_call (c50 .plus [(mkTerm d g (.mk 1 []) (next 5 r2).2).1, (mkTerm d g (.mk 1 []) (mkTerm d g (.mk 1 []) (next 5 r2).2).2).1] (by simp; omega) _) (by simp) ?_
          simp [e0, e1, e3, e6, e8, l6, l8, hne', z62, apps, Tm.app2]
        · simp [h, e0, e1, e3, e6, e8, l6, l8, hne']
          refine wpP_draw (atPl p) ?_
          simp [e0, e1, e3, e6, e8, l6, l8, hne']
          refine stepD_call (c52 _) (by simp) ?_
          simp [e0, e1, e3, e6, e8, l6, l8, hne', hw]
          refine stepD_at (ih (by omega) g (.mk 1 []) hg ht (by omega) s3) hH (by simp [Pl.ptr]) ?_
          simp [e0, e1, e3, e6, e8, l6, l8, hne', hw]
          refine stepD_at (ih (by omega) g (.mk 1 []) hg ht (by omega) s4) hH (by simp [Pl.ptr]) ?_
          simp [e0, e1, e3, e6, e8, l6, l8, hne']
          refine stepD_call (c50 .sub [(mkTerm d g (.mk 1 []) (next 5 r2).2).1, (mkTerm d g (.mk 1 []) (mkTerm d g (.mk 1 []) (next 5 r2).2).2).1] (by simp; omega) _) (by simp) ?_
          simp [e0, e1, e3, e6, e8, l6, l8, hne', z62, apps, Tm.app2]
        · simp [h, e0, e1, e3, e6, e8, l6, l8, hne']
          refine opV_at (dNext hd s3 p (n := 3) (by omega)) hH (by simp [Pl.ptr]) ?_
          simp [e0, e1, e3, e6, e8, l6, l8, hne']
          refine opV_call (c47 (next 3 (next 5 r2).2).1.toNat (by omega) _) (by simp; omega) ?_
          simp [e0, e1, e3, e6, e8, l6, l8, hne', z62]
        · simp [h, e0, e1, e3, e6, e8, l6, l8, hne']
          refine opV_at (dNext hd s3 p (n := 3) (by omega)) hH (by simp [Pl.ptr]) ?_
          simp [e0, e1, e3, e6, e8, l6, l8, hne']
          refine opV_call (c47 (next 3 (next 5 r2).2).1.toNat (by omega) _) (by simp; omega) ?_
          simp [e0, e1, e3, e6, e8, l6, l8, hne', z62]
      · have hc2 := next_range (n := 2) (by omega) r2
        have s3 := (next_suf 2 r2).trans s2
        simp [e0, e1, e3, e6, e8, l6, l8, hne', hpos1, mkPlain]
        refine opV_at (dNext hd s2 p (n := 2) (by omega)) hH (by simp [Pl.ptr]) ?_
        have fx := fine g .nat (next 2 r2).2 hg hnat
        have fy := fine g (.mk 2 []) (mkTerm d g .nat (next 2 r2).2).2 hg ht
        have s4 := (mkTerm_suf d g .nat (next 2 r2).2).trans s3
        by_cases h : (next 2 r2).1 = 0
        · simp [h, e0, e1, e3, e6, e8, l6, l8, hne']
          refine wpP_draw (atPl p) ?_
          simp [e0, e1, e3, e6, e8, l6, l8, hne']
          refine stepD_call (c32 _) (by simp) ?_
          simp [e0, e1, e3, e6, e8, l6, l8, hne', hw]
          refine stepD_at (ih (by omega) g .nat hg hnat (by omega) s3) hH (by simp [Pl.ptr, Ty.nat]) ?_
          simp [e0, e1, e3, e6, e8, l6, l8, hne', hw]
          refine stepD_at (ih (by omega) g (.mk 2 []) hg ht (by omega) s4) hH (by simp [Pl.ptr]) ?_
          simp [e0, e1, e3, e6, e8, l6, l8, hne']
          refine stepD_call (c45 8 [(mkTerm d g .nat (next 2 r2).2).1, (mkTerm d g (.mk 2 []) (mkTerm d g .nat (next 2 r2).2).2).1] (by simp; omega) _) (by simp) ?_
          simp [e0, e1, e3, e6, e8, l6, l8, hne', z62]
        · simp [h, e0, e1, e3, e6, e8, l6, l8, hne']
          refine opV_call (c45 7 [] (by simp) _) (by simp) ?_
          simp [e0, e1, e3, e6, e8, l6, l8, hne', z62]
      · have hab := Ty.parts2 ht
        have fx := fine g a r2 hg hab.1
        have fy := fine g b (mkTerm d g a r2).2 hg hab.2
        have s3 := (mkTerm_suf d g a r2).trans s2
        simp [e0, e1, e3, e6, e8, l6, l8, hne', hpos1, mkPlain]
        refine wpP_draw (atPl p) ?_
        simp [e0, e1, e3, e6, e8, l6, l8, hne', hw]
        refine stepD_at (ih (by omega) g a hg hab.1 (by omega) s2) hH (by simp [Pl.ptr]) ?_
        simp [e0, e1, e3, e6, e8, l6, l8, hne', hw]
        refine stepD_at (ih (by omega) g b hg hab.2 (by omega) s3) hH (by simp [Pl.ptr]) ?_
        simp [e0, e1, e3, e6, e8, l6, l8, hne']
        refine stepD_call (c45 10 [(mkTerm d g a r2).1, (mkTerm d g b (mkTerm d g a r2).2).1] (by simp; omega) _) (by simp) ?_
        simp [e0, e1, e3, e6, e8, l6, l8, hne', z62]
      · have hab := Ty.parts2 ht
        have gS := hg.app (Good.one hab.1)
        have fx := fine (g ++ [a]) b r2 gS hab.2
        simp [e0, e1, e3, e6, e8, l6, l8, hne', hpos1, mkPlain]
        refine wpP_draw (atPl p) ?_
        simp [e0, e1, e3, e6, e8, l6, l8, hne']
        refine stepD_call (c31 g [a] (by simp; omega) _) (by simp) ?_
        simp [e0, e1, e3, e6, e8, l6, l8, hne', hw]
        refine stepD_at (ih (by omega) (g ++ [a]) b gS hab.2 (by simp; omega) s2) hH (by simp [Pl.ptr]) ?_
        simp [e0, e1, e3, e6, e8, l6, l8, hne']
        refine stepD_call (c46 2 a [(mkTerm d (g ++ [a]) b r2).1] (by omega) (by simp; omega) _) (by simp) ?_
        simp [e0, e1, e3, e6, e8, l6, l8, hne', z62]
      · simp [e0, e1, e3, e6, e8, l6, l8, hne', hpos1, mkPlain]
        refine opV_call (c45 13 [] (by simp) _) (by simp) ?_
        simp [e0, e1, e3, e6, e8, l6, l8, hne', z62]
end Go.Proofs.YtnpgbkldpdogjaaGreatDoor.V

set_option maxRecDepth 100000
namespace Go.Proofs.YtnpgbkldpdogjaaGreatDoor.V
open Go Go.Proofs
theorem fmB_small : ∀ d, d ≤ 5 → fmB 64 d ≤ 200000 := by decide
theorem d12 {l : List Int} (hd : Dk l) (p : Pl) (d : Nat) : d ≤ 5 → ∀ (g : List Ty), Good 64 g → g.length + d + 70 ≤ 1000 → ∀ {r : List Int}, r <:+ l →
    DkV l p 12 [p.ptr, .one (.slice .no 2 (g.map enc)), .one (.int .i64 d)] r (.agg (encF (mkFormula d g r).1)) (mkFormula d g r).2 := by
  have hnat : Ty.nat.ok = true ∧ Ty.nat.size ≤ 64 := ⟨Ty.nat_ok, by simp⟩
  have t1 : ∀ r, (mkType 1 r).1.ok = true ∧ (mkType 1 r).1.size ≤ 64 := fun r => ⟨(mkType1 r).1, by have := (mkType1 r).2; omega⟩
  have t0 : ∀ r, (mkType 0 r).1.ok = true ∧ (mkType 0 r).1.size ≤ 64 := fun r => ⟨(mkType0 r).1, by have := (mkType0 r).2; omega⟩
  have finet : ∀ g r, Good 64 g → (mkTerm 1 g .nat r).1.size ≤ 100000 := fun g r hg => by have := (mkTerm_fine (m := 64) (by omega) 1 g .nat r hg hnat).2; have := tmB_small 1 (by omega); omega
  induction d with
  | zero =>
    intro hd5 g hg hlen r hr σ hH
    have hne : ¬ p.d = σ.length := by have := hH.lt; omega
    have hne' : ¬ σ.length = p.d := fun h => hne h.symm
    refine w12 (by simp) ?_
    rw [s12]
    simp [Pl.ptr, mkFormula]
    have fx := finet g r hg
    have fy := finet g (mkTerm 1 g .nat r).2 hg
    refine opV_call (c32 _) (by simp) ?_
    simp
    refine wpP_draw (atPl p) ?_
    simp [hne']
    refine stepD_at (d15 hd p 1 (by omega) g .nat hg hnat (by omega) hr) hH (by simp [Pl.ptr, Ty.nat]) ?_
    simp [hne']
    refine stepD_at (d15 hd p 1 (by omega) g .nat hg hnat (by omega) ((mkTerm_suf 1 g .nat r).trans hr)) hH (by simp [Pl.ptr, Ty.nat]) ?_
    simp [hne']
    refine stepD_call (c33 (mkTerm 1 g .nat r).1 (mkTerm 1 g .nat (mkTerm 1 g .nat r).2).1 (by omega) (by omega) _) (by simp) ?_
    simp
  | succ d ih =>
    intro hd5 g hg hlen r hr σ hH
    have hne : ¬ p.d = σ.length := by have := hH.lt; omega
    have hne' : ¬ σ.length = p.d := fun h => hne h.symm
    have hB := fmB_small d (by omega)
    have fine : ∀ g r, Good 64 g → (mkFormula d g r).1.size ≤ 200000 := fun g r hg => by have := (mkFormula_fine (m := 64) (by omega) (by omega) d g r hg).2; omega
    have hpos1 : (0 : Int) < (d : Int) + 1 := by omega
    have hw : IntKind.i64.wrap (d : Int) = d := wrap_id (by omega) (by omega)
    have s1 := (next_suf 9 r).trans hr
    have hc := next_range (n := 9) (by omega) r
    have hcase : (next 9 r).1 = 0 ∨ (next 9 r).1 = 1 ∨ (next 9 r).1 = 2 ∨ (next 9 r).1 = 3 ∨ (next 9 r).1 = 4 ∨ (next 9 r).1 = 5 ∨ (next 9 r).1 = 6 ∨ (next 9 r).1 = 7 ∨ (next 9 r).1 = 8 := by omega
    refine w12 (by simp) ?_
    rw [s12]
    simp [Pl.ptr, hpos1, mkFormula]
    refine opV_at (dNext hd hr p (n := 9) (by omega)) hH (by simp [Pl.ptr]) ?_
    rcases hcase with h | h | h | h | h | h | h | h | h
    · simp [h, hw]
      refine opV_at (ih (by omega) g hg (by omega) s1) hH (by simp [Pl.ptr]) ?_
      simp [hw]
      refine opV_at (ih (by omega) g hg (by omega) ((mkFormula_suf d g (next 9 r).2).trans s1)) hH (by simp [Pl.ptr]) ?_
      simp
      have fx := fine g (next 9 r).2 hg
      have fy := fine g (mkFormula d g (next 9 r).2).2 hg
      refine opV_call (c29 2 (mkFormula d g (next 9 r).2).1 (mkFormula d g (mkFormula d g (next 9 r).2).2).1 (by omega) (by omega) _) (by simp) ?_
      simp
    · simp [h, hw]
      refine opV_at (ih (by omega) g hg (by omega) s1) hH (by simp [Pl.ptr]) ?_
      simp [hw]
      refine opV_at (ih (by omega) g hg (by omega) ((mkFormula_suf d g (next 9 r).2).trans s1)) hH (by simp [Pl.ptr]) ?_
      simp
      have fx := fine g (next 9 r).2 hg
      have fy := fine g (mkFormula d g (next 9 r).2).2 hg
      refine opV_call (c29 3 (mkFormula d g (next 9 r).2).1 (mkFormula d g (mkFormula d g (next 9 r).2).2).1 (by omega) (by omega) _) (by simp) ?_
      simp
    · simp [h, hw]
      refine opV_at (ih (by omega) g hg (by omega) s1) hH (by simp [Pl.ptr]) ?_
      simp [hw]
      refine opV_at (ih (by omega) g hg (by omega) ((mkFormula_suf d g (next 9 r).2).trans s1)) hH (by simp [Pl.ptr]) ?_
      simp
      have fx := fine g (next 9 r).2 hg
      have fy := fine g (mkFormula d g (next 9 r).2).2 hg
      refine opV_call (c29 3 (mkFormula d g (next 9 r).2).1 (mkFormula d g (mkFormula d g (next 9 r).2).2).1 (by omega) (by omega) _) (by simp) ?_
      simp
    · simp [h]
      have hs := t1 (next 9 r).2
      have gS := hg.app (Good.one hs)
      have s2 := (mkType_suf 1 (next 9 r).2).trans s1
      have fx := fine (g ++ [(mkType 1 (next 9 r).2).1]) (mkType 1 (next 9 r).2).2 gS
      refine opV_at (d28 hd p 1 (by omega) s1) hH (by simp [Pl.ptr]) ?_
      simp
      refine wpP_draw (atPl p) ?_
      simp [hne']
      refine stepD_call (c31 g [(mkType 1 (next 9 r).2).1] (by simp; omega) _) (by simp) ?_
      simp [hne', hw]
      refine stepD_at (ih (by omega) (g ++ [(mkType 1 (next 9 r).2).1]) gS (by simp; omega) s2) hH (by simp [Pl.ptr]) ?_
      simp [hne']
      refine stepD_call (c30 4 (mkType 1 (next 9 r).2).1 (mkFormula d (g ++ [(mkType 1 (next 9 r).2).1]) (mkType 1 (next 9 r).2).2).1 (by omega) (by omega) _) (by simp) ?_
      simp
    · simp [h]
      have hs := t1 (next 9 r).2
      have gS := hg.app (Good.one hs)
      have s2 := (mkType_suf 1 (next 9 r).2).trans s1
      have fx := fine (g ++ [(mkType 1 (next 9 r).2).1]) (mkType 1 (next 9 r).2).2 gS
      refine opV_at (d28 hd p 1 (by omega) s1) hH (by simp [Pl.ptr]) ?_
      simp
      refine wpP_draw (atPl p) ?_
      simp [hne']
      refine stepD_call (c31 g [(mkType 1 (next 9 r).2).1] (by simp; omega) _) (by simp) ?_
      simp [hne', hw]
      refine stepD_at (ih (by omega) (g ++ [(mkType 1 (next 9 r).2).1]) gS (by simp; omega) s2) hH (by simp [Pl.ptr]) ?_
      simp [hne']
      refine stepD_call (c30 4 (mkType 1 (next 9 r).2).1 (mkFormula d (g ++ [(mkType 1 (next 9 r).2).1]) (mkType 1 (next 9 r).2).2).1 (by omega) (by omega) _) (by simp) ?_
      simp
    · simp [h]
      have hs := t1 (next 9 r).2
      have gS := hg.app (Good.one hs)
      have s2 := (mkType_suf 1 (next 9 r).2).trans s1
      have fx := fine (g ++ [(mkType 1 (next 9 r).2).1]) (mkType 1 (next 9 r).2).2 gS
      refine opV_at (d28 hd p 1 (by omega) s1) hH (by simp [Pl.ptr]) ?_
      simp
      refine wpP_draw (atPl p) ?_
      simp [hne']
      refine stepD_call (c31 g [(mkType 1 (next 9 r).2).1] (by simp; omega) _) (by simp) ?_
      simp [hne', hw]
      refine stepD_at (ih (by omega) (g ++ [(mkType 1 (next 9 r).2).1]) gS (by simp; omega) s2) hH (by simp [Pl.ptr]) ?_
      simp [hne']
      refine stepD_call (c30 5 (mkType 1 (next 9 r).2).1 (mkFormula d (g ++ [(mkType 1 (next 9 r).2).1]) (mkType 1 (next 9 r).2).2).1 (by omega) (by omega) _) (by simp) ?_
      simp
    · simp [h]
      have hs := t0 (next 9 r).2
      have gS := hg.app (Good.one hs)
      have s2 := (mkType_suf 0 (next 9 r).2).trans s1
      have s3 := (next_suf 2 (mkType 0 (next 9 r).2).2).trans s2
      have fx := fine (g ++ [(mkType 0 (next 9 r).2).1]) (next 2 (mkType 0 (next 9 r).2).2).2 gS
      have hn2 := next_range (n := 2) (by omega) (mkType 0 (next 9 r).2).2
      refine opV_at (d28 hd p 0 (by omega) s1) hH (by simp [Pl.ptr]) ?_
      simp
      refine wpP_draw (atPl p) ?_
      simp [hne']
      refine stepD_at (dNext hd s2 p (n := 2) (by omega)) hH (by simp [Pl.ptr]) ?_
      simp [hne']
      rw [wrap_id (by omega) (by omega)]
      refine stepD_call (c31 g [(mkType 0 (next 9 r).2).1] (by simp; omega) _) (by simp) ?_
      simp [hne', hw]
      refine stepD_at (ih (by omega) (g ++ [(mkType 0 (next 9 r).2).1]) gS (by simp; omega) s3) hH (by simp [Pl.ptr]) ?_
      simp [hne']
      refine stepD_call (c30 (6 + (next 2 (mkType 0 (next 9 r).2).2).1) (mkType 0 (next 9 r).2).1 (mkFormula d (g ++ [(mkType 0 (next 9 r).2).1]) (next 2 (mkType 0 (next 9 r).2).2).2).1 (by omega) (by omega) _) (by simp) ?_
      simp
    · simp [h]
      have fx := finet g (next 9 r).2 hg
      have fy := finet g (mkTerm 1 g .nat (next 9 r).2).2 hg
      refine opV_call (c32 _) (by simp) ?_
      simp
      refine wpP_draw (atPl p) ?_
      simp [hne']
      refine stepD_at (d15 hd p 1 (by omega) g .nat hg hnat (by omega) s1) hH (by simp [Pl.ptr, Ty.nat]) ?_
      simp [hne']
      refine stepD_at (d15 hd p 1 (by omega) g .nat hg hnat (by omega) ((mkTerm_suf 1 g .nat (next 9 r).2).trans s1)) hH (by simp [Pl.ptr, Ty.nat]) ?_
      simp [hne']
      refine stepD_call (c33 (mkTerm 1 g .nat (next 9 r).2).1 (mkTerm 1 g .nat (mkTerm 1 g .nat (next 9 r).2).2).1 (by omega) (by omega) _) (by simp) ?_
      simp
    · simp [h]
      have fx := finet g (next 9 r).2 hg
      have fy := finet g (mkTerm 1 g .nat (next 9 r).2).2 hg
      refine opV_call (c32 _) (by simp) ?_
      simp
      refine wpP_draw (atPl p) ?_
      simp [hne']
      refine stepD_at (d15 hd p 1 (by omega) g .nat hg hnat (by omega) s1) hH (by simp [Pl.ptr, Ty.nat]) ?_
      simp [hne']
      refine stepD_at (d15 hd p 1 (by omega) g .nat hg hnat (by omega) ((mkTerm_suf 1 g .nat (next 9 r).2).trans s1)) hH (by simp [Pl.ptr, Ty.nat]) ?_
      simp [hne']
      refine stepD_call (c33 (mkTerm 1 g .nat (next 9 r).2).1 (mkTerm 1 g .nat (mkTerm 1 g .nat (next 9 r).2).2).1 (by omega) (by omega) _) (by simp) ?_
      simp
def i11 (l : List Int) (p : Pl) (r0 : List Int) (n : Nat) (σ : List Frm) (m : Nat) : St → Prop
  | ⟨env, loc, σ', live⟩ => ∃ g r ow, r <:+ l ∧ m ≤ n ∧ g.length = n - m ∧ (g ++ (mkTypes 1 m r).1, (mkTypes 1 m r).2) = mkTypes 1 n r0 ∧ env 0 = p.ptr ∧ env 3 = .one (.slice ow 2 (g.map enc)) ∧ env 4 = .one (.int .i64 m) ∧ okOwn live ow ∧ σ' = setC σ p (deckC l r)
theorem d11 {l : List Int} (hd : Dk l) (p : Pl) {r : List Int} (hr : r <:+ l) : DkV l p 11 [p.ptr] r (.one (.slice .no 2 ((mkContext r).1.map enc))) (mkContext r).2 := by
  intro σ hH
  have hc := next_range (n := 4) (by omega) r
  have s1 := (next_suf 4 r).trans hr
  refine w11 (by simp) ?_
  rw [s11]
  simp [Pl.ptr]
  refine opV_at (dNext hd hr p (n := 4) (by omega)) hH (by simp [Pl.ptr]) ?_
  obtain ⟨n, hn⟩ : ∃ n : Nat, (next 4 r).1 = n := ⟨(next 4 r).1.toNat, by omega⟩
  have hy : mkContext r = mkTypes 1 n (next 4 r).2 := by
    show mkTypes 1 (next 4 r).1.toNat (next 4 r).2 = _
    rw [hn]; try rfl
  rw [hy]
  simp [hn]
  refine wpP_loop (i11 l p (next 4 r).2 n σ) n ⟨[], (next 4 r).2, .full, s1, by omega, by simp, by simp, by simp [Pl.ptr], by simp, by simp, by simp, by simp⟩ ?_
  rintro m ⟨env, loc, σ', live⟩ ⟨g, r', ow, hs, hm, hg, he, e0, e3, e4, how, rfl⟩
  simp only [Pl.ptr] at e0
  cases m with
  | zero =>
    simp [mkTypes] at he
    simp [e0, e3, e4, ← he]
  | succ m =>
    have hpos : (0 : Int) < (m : Int) + 1 := by omega
    simp [e0, e3, e4, hpos]
    refine opV_at (d28 hd p 1 (by omega) hs) hH (by simp [Pl.ptr]) ?_
    simp [how]
    rw [wrap_id (by omega) (by omega)]
    refine ⟨by omega, by omega, loopK_normal m (by omega) ⟨g ++ [(mkType 1 r').1], (mkType 1 r').2, .tip live.nx, (mkType_suf 1 r').trans hs, by omega, by simp; omega, ?_, by simp [Pl.ptr], by simp, by simp, grown_on, rfl⟩⟩
    rw [← he]
    simp [mkTypes]
def i22 (l : List Int) (p : Pl) (g : List Ty) (r0 : List Int) (n : Nat) (σ : List Frm) (m : Nat) : St → Prop
  | ⟨env, loc, σ', live⟩ => ∃ fs r ow, r <:+ l ∧ m ≤ n ∧ fs.length = n - m ∧ (fs ++ (mkFormulas 2 g m r).1, (mkFormulas 2 g m r).2) = mkFormulas 2 g n r0 ∧ env 0 = p.ptr ∧ env 2 = .one (.box σ.length 2 0 0) ∧ env 3 = .one (.box σ.length 3 0 0) ∧ env 4 = .one (.int .i64 m) ∧
    loc 2 = [[.slice .full 2 [], .slice .full 5 []]] ∧ loc 3 = [[.slice .no 2 (g.map enc), .slice ow 5 (fs.map encF)]] ∧ okOwn live ow ∧ σ' = setC σ p (deckC l r)
theorem d22 {l : List Int} (hd : Dk l) (p : Pl) {r : List Int} (hr : r <:+ l) : DkV l p 22 [p.ptr] r (.agg (encS (mkSequent r).1.1 (mkSequent r).1.2)) (mkSequent r).2 := by
  intro σ hH
  have hne : ¬ p.d = σ.length := by have := hH.lt; omega
  have hne' : ¬ σ.length = p.d := fun h => hne h.symm
  have hcg := mkContext_good r
  have hg : Good 64 (mkContext r).1 := fun x hx => ⟨(hcg.1 x hx).1, by have := (hcg.1 x hx).2; omega⟩
  have s1 := (mkContext_suf r).trans hr
  have s2 := (next_suf 3 (mkContext r).2).trans s1
  have hc := next_range (n := 3) (by omega) (mkContext r).2
  refine w22 (by simp [encS]) ?_
  rw [s22]
  simp [Pl.ptr]
  refine opV_at (d11 hd p hr) hH (by simp [Pl.ptr]) ?_
  simp
  refine opV_at (dNext hd s1 p (n := 3) (by omega)) hH (by simp [Pl.ptr]) ?_
  obtain ⟨n, hn⟩ : ∃ n : Nat, (next 3 (mkContext r).2).1 = n := ⟨(next 3 (mkContext r).2).1.toNat, by omega⟩
  have hy : mkSequent r = (((mkContext r).1, (mkFormulas 2 (mkContext r).1 n (next 3 (mkContext r).2).2).1), (mkFormulas 2 (mkContext r).1 n (next 3 (mkContext r).2).2).2) := by
    show (((mkContext r).1, (mkFormulas 2 (mkContext r).1 (next 3 (mkContext r).2).1.toNat (next 3 (mkContext r).2).2).1), (mkFormulas 2 (mkContext r).1 (next 3 (mkContext r).2).1.toNat (next 3 (mkContext r).2).2).2) = _
    rw [hn]; try rfl
  rw [hy]
  generalize (mkContext r).1 = g at hcg hg
  generalize (next 3 (mkContext r).2).2 = r1 at s2
  simp [hn]
  refine wpP_loop (i22 l p g r1 n σ) n ⟨[], r1, .full, s2, by omega, by simp, by simp, by simp [Pl.ptr], by simp, by simp, by simp, by simp, by simp, by simp, by simp⟩ ?_
  rintro m ⟨env, loc, σ', live⟩ ⟨fs, r', ow, hs, hm, hgl, he, e0, e2, e3, e4, l2, l3, how, rfl⟩
  simp only [Pl.ptr] at e0
  cases m with
  | zero =>
    simp [mkFormulas] at he
    simp [e0, e2, e3, e4, l2, l3, ← he, encS]
  | succ m =>
    have hpos : (0 : Int) < (m : Int) + 1 := by omega
    simp [e0, e2, e3, e4, hpos]
    refine wpP_draw (atPl p) ?_
    simp [e0, e2, e3, e4, l2, l3, hne']
    refine stepD_at (d12 hd p 2 (by omega) g hg (by omega) hs) hH (by simp [Pl.ptr]) ?_
    simp [how, e0, e2, e3, e4, l2, l3, hne']
    rw [wrap_id (by omega) (by omega)]
    refine ⟨by omega, by omega, loopK_normal m (by omega) ⟨fs ++ [(mkFormula 2 g r').1], (mkFormula 2 g r').2, .tip live.nx, (mkFormula_suf 2 g r').trans hs, by omega, by simp; omega, ?_, by simp [Pl.ptr], by simp, by simp, by simp, by simp [l2], by simp, grown_on, rfl⟩⟩
    rw [← he]
    simp [mkFormulas]
end Go.Proofs.YtnpgbkldpdogjaaGreatDoor.V

set_option maxRecDepth 100000
namespace Go.Proofs.YtnpgbkldpdogjaaGreatDoor.V
open Go Go.Proofs
def i62 (l : List Tm) (σ : List Frm) (j : Nat) : St → Prop
  | ⟨env, _, σ', _⟩ => env 3 = .one (.int .i64 ((1 + Tm.counts (l.take j) : Nat) : Int)) ∧ env 7 = .one (.slice .no 5 (l.map encT)) ∧ env 8 = .one (.int .i64 l.length) ∧ env 9 = .one (.int .i64 j) ∧ σ' = σ
theorem c62 (t : Tm) : t.size ≤ 1099511627776 → ∀ (σ : List Frm), CallsV cfg 62 [.agg (encT t)] σ (.val (.one (.int .i64 t.count))) σ := by
  induction t using Tm.ind with
  | _ k i s l ih =>
  intro hsz σ
  simp at hsz
  have hlen := Tm.length_le l
  refine w62 (by simp) ?_
  rw [s62]
  simp
  refine wpP_range l.length (i62 l σ) (by omega) ⟨by simp, by simp, by simp, by simp, rfl⟩ ?_ ?_ (hend := ?_)
  · rintro j ⟨env, loc, σ', live⟩ ⟨h3, h7, h8, h9, hσ⟩
    exact ⟨h9, h8⟩
  · rintro j ⟨env, loc, σ', live⟩ hj ⟨h3, h7, h8, h9, hσ⟩
    obtain ⟨x, hx, hd, hmx⟩ := drop_cons hj
    have := Tm.sizes_mem hmx
    have h1 := Tm.counts_take hx
    have h2 := Tm.counts_take_le l (j + 1)
    have h4 := Tm.counts_le l
    simp [h3, h7, h8, h9, hx]
    refine opV_call (ih x hmx (by omega) _) (by simp) ?_
    simp
    rw [wrap_id (by omega) (by omega)]
    refine ⟨?_, by simp, by simp, by simp, hσ⟩
    simp [h1]
    omega
  · rintro ⟨env, loc, σ', live⟩ ⟨h3, h7, h8, h9, hσ⟩
    rw [List.take_length] at h3
    simp [h3, hσ]
def i60a (f : Fm) (l : List Tm) (σ : List Frm) (j : Nat) : St → Prop
  | ⟨env, loc, σ', _⟩ => env 1 = .one (.box σ.length 1 0 0) ∧ env 3 = .one (.int .i64 ((1 + Tm.counts (l.take j) : Nat) : Int)) ∧ env 9 = .one (.slice .no 5 (l.map encT)) ∧ env 10 = .one (.int .i64 l.length) ∧ env 11 = .one (.int .i64 j) ∧ loc 1 = [encF f] ∧ σ' = σ
def i60b (n : Nat) (l : List Fm) (σ : List Frm) (j : Nat) : St → Prop
  | ⟨env, _, σ', _⟩ => env 3 = .one (.int .i64 ((n + Fm.counts (l.take j) : Nat) : Int)) ∧ env 21 = .one (.slice .no 5 (l.map encF)) ∧ env 22 = .one (.int .i64 l.length) ∧ env 23 = .one (.int .i64 j) ∧ σ' = σ
theorem c60 (f : Fm) : f.size ≤ 1099511627776 → ∀ (σ : List Frm), CallsV cfg 60 [.agg (encF f)] σ (.val (.one (.int .i64 f.count))) σ := by
  induction f using Fm.ind with
  | _ k t m l ih =>
  intro hsz σ
  simp at hsz
  have hlm := Tm.length_le m
  have hll := Fm.length_le l
  have hcm := Tm.counts_le m
  have hcl := Fm.counts_le l
  refine w60 (by simp) ?_
  rw [s60]
  simp
  refine wpP_range m.length (i60a (.mk k t m l) m σ) (by omega) ⟨by simp, by simp, by simp, by simp, by simp, by simp, rfl⟩ ?_ ?_ (hend := ?_)
  · rintro j ⟨env, loc, σ', live⟩ ⟨h1, h3, h7, h8, h9, l1, hσ⟩
    exact ⟨h9, h8⟩
  · rintro j ⟨env, loc, σ', live⟩ hj ⟨h1, h3, h7, h8, h9, l1, rfl⟩
    obtain ⟨x, hx, hd, hmx⟩ := drop_cons hj
    have := Tm.sizes_mem hmx
    have e1 := Tm.counts_take hx
    have e2 := Tm.counts_take_le m (j + 1)
    simp [h1, h3, h7, h8, h9, hx]
    refine opV_call (c62 x (by omega) _) (by simp) ?_
    simp
    rw [wrap_id (by omega) (by omega)]
    refine ⟨by simp, ?_, by simp, by simp, by simp, by simp [l1], rfl⟩
    simp [e1]
    omega
  · rintro ⟨env, loc, σ', live⟩ ⟨h1, h3, h7, h8, h9, l1, rfl⟩
    rw [List.take_length] at h3
    simp [h1, h3, l1]
    refine wpP_range l.length (i60b (1 + Tm.counts m) l σ') (by omega) ⟨by simp, by simp, by simp, by simp, rfl⟩ ?_ ?_ (hend := ?_)
    · rintro j ⟨env, loc, σ', live⟩ ⟨h3, h7, h8, h9, hσ⟩
      exact ⟨h9, h8⟩
    · rintro j ⟨env, loc, σ', live⟩ hj ⟨h3, h7, h8, h9, hσ⟩
      obtain ⟨x, hx, hd, hmx⟩ := drop_cons hj
      have := Fm.sizes_mem hmx
      have e1 := Fm.counts_take hx
      have e2 := Fm.counts_take_le l (j + 1)
      simp [h3, h7, h8, h9, hx]
      refine opV_call (ih x hmx (by omega) _) (by simp) ?_
      simp
      rw [wrap_id (by omega) (by omega)]
      refine ⟨?_, by simp, by simp, by simp, hσ⟩
      simp [e1]
      omega
    · rintro ⟨env, loc, σ', live⟩ ⟨h3, h7, h8, h9, hσ⟩
      rw [List.take_length] at h3
      simp [h3, hσ]
theorem c117 (t : Ty) (σ : List Frm) : CallsV cfg 117 [.agg (enc t)] σ (.val (.one (.bool t.none))) σ := by
  obtain ⟨k, l⟩ := t
  refine w117 (by simp) ?_
  rw [s117]
  by_cases h : k = 0
  · subst h; cases l <;> simp [Ty.none] <;> omega
  · simp [h, Ty.none]
def tmArgs (k : Int) : Int := match tmArity k with
  | some n => n
  | none => -1
theorem c132 (k : Int) (σ : List Frm) : CallsV cfg 132 [.one (.int .i64 k)] σ (.val (.one (.int .i64 (tmArgs k)))) σ := by
  refine w132 (by simp) ?_
  rw [s132]
  have hcase : k = 1 ∨ k = 2 ∨ k = 3 ∨ k = 4 ∨ k = 5 ∨ k = 6 ∨ k = 7 ∨ k = 8 ∨ k = 9 ∨ k = 10 ∨ k = 11 ∨ k = 12 ∨ k = 13 ∨ ¬ (1 ≤ k ∧ k < 14) := by omega
  rcases hcase with rfl | rfl | rfl | rfl | rfl | rfl | rfl | rfl | rfl | rfl | rfl | rfl | rfl | h
  all_goals first
    | (simp [tmArgs, tmArity]; done)
    | skip
  have h1 : k ≠ 1 := by omega
  have h2 : k ≠ 2 := by omega
  have h3 : k ≠ 3 := by omega
  have h4 : k ≠ 4 := by omega
  have h5 : k ≠ 5 := by omega
  have h6 : k ≠ 6 := by omega
  have h7 : k ≠ 7 := by omega
  have h8 : k ≠ 8 := by omega
  have h9 : k ≠ 9 := by omega
  have h10 : k ≠ 10 := by omega
  have h11 : k ≠ 11 := by omega
  have h12 : k ≠ 12 := by omega
  have h13 : k ≠ 13 := by omega
  simp [tmArgs, tmArity, h, h1, h2, h3, h4, h5, h6, h7, h8, h9, h10, h11, h12, h13]
def r135 (k i : Int) (t : Ty) (l : List Tm) (σ : List Frm) : St → Prop
  | ⟨env, loc, σ', _⟩ => tmArity k = some l.length ∧ 0 ≤ i ∧ (i = 0 ∨ k = 1) ∧ env 1 = .one (.box σ.length 1 0 0) ∧ loc 1 = [encT (.mk k i t l)] ∧ σ' = σ
def r135b (k i : Int) (t : Ty) (l : List Tm) (σ : List Frm) : St → Prop
  | ⟨env, loc, σ', _⟩ => Tm.head k i t l.length = true ∧ env 1 = .one (.box σ.length 1 0 0) ∧ loc 1 = [encT (.mk k i t l)] ∧ σ' = σ
def i104 (l : List Tm) (σ : List Frm) (j : Nat) : St → Prop
  | ⟨env, _, σ', _⟩ => env 42 = .one (.slice .no 5 (l.map encT)) ∧ env 43 = .one (.int .i64 l.length) ∧ env 44 = .one (.int .i64 j) ∧ σ' = σ ∧ Tm.oks l = Tm.oks (l.drop j)
theorem c104 (t : Tm) : t.size ≤ 1099511627776 → ∀ (σ : List Frm), CallsV cfg 104 [.agg (encT t)] σ (.val (.one (.bool t.ok))) σ := by
  induction t using Tm.ind with
  | _ k i t l ih =>
  intro hsz σ
  simp at hsz
  have hlen := Tm.length_le l
  refine w104 (by simp) ?_
  rw [s104]
  refine cut2 (r135 k i t l σ) ?_ ?_
  · simp
    refine wpP_draw (fun _ _ _ => false) ?_
    simp
    refine stepD_call (c132 k _) (by simp) ?_
    by_cases ha : tmArity k = some l.length
    rotate_left
    · have hne : ¬ ((l.length : Int) = tmArgs k) := by
        unfold tmArgs
        cases h : tmArity k with
        | none => show ¬ ((l.length : Int) = -1); omega
        | some n => simp; intro e; exact ha (by rw [h, show n = l.length by omega])
      have hf : Tm.head k i t l.length = false := by simp [Tm.head, ha]
      simp [hne, bne, len_ne hne, hf]
    have hargs : tmArgs k = l.length := by simp [tmArgs, ha]
    by_cases hi : i < 0
    · have hi' : ¬ 0 ≤ i := by omega
      have hf : Tm.head k i t l.length = false := by simp [Tm.head, hi']
      simp [hargs, bne, hi, hf]
    by_cases hk : k = 1
    · subst hk
      simp [hargs, bne, hi]
      exact ⟨ha, by omega, .inr rfl, by simp, by simp, rfl⟩
    by_cases h0 : i = 0
    · subst h0
      simp [hargs, bne, hk]
      exact ⟨ha, by omega, .inl rfl, by simp, by simp, rfl⟩
    · have hf : Tm.head k i t l.length = false := by simp [Tm.head, hk, h0]
      simp [hargs, bne, hi, hk, h0, hf]
  · rintro ⟨env, loc, σ', live⟩ ⟨ha, hi, hik, e1, l1, rfl⟩
    have hhead : Tm.head k i t l.length = if tmTyped k = true then t.check == 0 else t.none := by
      have : (i == 0 || k == 1) = true := by simpa using hik
      simp [Tm.head, ha, hi, this]
    refine wpP_cut (r135b k i t l σ') ?_ ?_
    · simp [e1, l1]
      have typed : ∀ {P : Prop}, (tmTyped k = true → P) → (tmTyped k = false → P) → P := fun h1 h2 => by
        cases h : tmTyped k with
        | true => exact h1 h
        | false => exact h2 h
      by_cases h2 : k = 2
      · subst h2
        simp [e1, l1]
        refine opV_call (c102 t (by omega) _) (by simp) ?_
        by_cases hc : t.check = 0
        · simp [hc, bne]
          exact ⟨by rw [hhead]; simp [tmTyped, hc], by simp, by simp [l1], rfl⟩
        · simp [hc, bne, hhead, tmTyped]
      by_cases h6 : k = 6
      · subst h6
        simp [e1, l1]
        refine opV_call (c102 t (by omega) _) (by simp) ?_
        by_cases hc : t.check = 0
        · simp [hc, bne]
          exact ⟨by rw [hhead]; simp [tmTyped, hc], by simp, by simp [l1], rfl⟩
        · simp [hc, bne, hhead, tmTyped]
      by_cases h9 : k = 9
      · subst h9
        simp [e1, l1]
        refine opV_call (c102 t (by omega) _) (by simp) ?_
        by_cases hc : t.check = 0
        · simp [hc, bne]
          exact ⟨by rw [hhead]; simp [tmTyped, hc], by simp, by simp [l1], rfl⟩
        · simp [hc, bne, hhead, tmTyped]
      have hty : tmTyped k = false := by simp [tmTyped, h2, h6, h9]
      simp [h2, h6, h9, e1, l1]
      refine opV_call (c117 t _) (by simp) ?_
      cases hc : t.none with
      | true =>
        simp
        exact ⟨by rw [hhead, hty]; simp [hc], by simp, by simp [l1], rfl⟩
      | false => simp [hhead, hty, hc]
    · rintro ⟨env, loc, σ', live⟩ ⟨hh, e1, l1, rfl⟩
      simp [e1, l1]
      refine wpP_range l.length (i104 l σ') (by omega) ⟨by simp, by simp, by simp, rfl, by simp⟩ ?_ ?_ (hend := ?_)
      · rintro j ⟨env, loc, σ', live⟩ ⟨h1, h2, h3, rfl, hs⟩
        exact ⟨h3, h2⟩
      · rintro j ⟨env, loc, σ', live⟩ hj ⟨h1, h2, h3, rfl, hs⟩
        obtain ⟨x, hx, hd, hmx⟩ := drop_cons hj
        have := Tm.sizes_mem hmx
        rw [hd, Tm.oks_cons] at hs
        simp [h1, h2, h3, hx]
        refine opV_call (ih x hmx (by omega) _) (by simp) ?_
        cases hxo : x.ok with
        | true =>
          rw [hxo] at hs
          simp
          exact ⟨by simp, by simp, by simp, rfl, by simpa using hs⟩
        | false =>
          rw [hxo] at hs
          simp [hs]
      · rintro ⟨env, loc, σ', live⟩ ⟨h1, h2, h3, rfl, hs⟩
        rw [List.drop_length] at hs
        simp [hh, hs]
theorem c118 (k : Int) (σ : List Frm) : CallsV cfg 118 [.one (.int .i64 k)] σ (.val (.one (.bool (fmQ k)))) σ := by
  refine w118 (by simp) ?_
  rw [s118]
  by_cases h4 : k = 4
  · subst h4; simp [fmQ]
  by_cases h5 : k = 5
  · subst h5; simp [fmQ]
  by_cases h6 : k = 6
  · subst h6; simp [fmQ]
  simp [fmQ, h4, h5, h6]
theorem len0 {α : Type} (l : List α) : ((l.length : Int) == 0) = l.isEmpty := by cases l <;> simp <;> omega
theorem c80 (f : Fm) : f.size ≤ 1099511627776 → ∀ (σ : List Frm), CallsV cfg 80 [.agg (encF f)] σ (.val (.one (.bool f.ok))) σ := by
  induction f using Fm.ind with
  | _ k t m l ih =>
  intro hsz σ
  simp at hsz
  refine w80 (by simp) ?_
  rw [s80]
  by_cases h1 : k = 1
  · subst h1
    have hok : (Fm.mk 1 t m l).ok = (l.isEmpty && t.none && m.length == 2 && Tm.oks m) := by
      cases l with
      | nil => simp [Fm.head, fmArity, Bool.and_assoc]
      | cons x l => simp [Fm.head, fmArity]
    rw [hok]
    cases l with
    | cons x l =>
      have : ¬ ((l.length : Int) + 1 = 0) := by omega
      simp [this]
    | nil =>
      simp
      refine opV_call (c117 t _) (by simp) ?_
      cases hn : t.none with
      | false => simp
      | true =>
        by_cases hm : m.length = 2
        · match m, hm with
          | [a, b], _ =>
            simp at hsz
            simp
            refine opV_call (c104 a (by omega) _) (by simp) ?_
            cases ha : a.ok with
            | false => simp
            | true =>
              simp
              refine opV_call (c104 b (by omega) _) (by simp) ?_
              simp
        · have hm2 : ¬ (m.length : Int) = 2 := by omega
          have hm3 : (m.length == 2) = false := by simpa using hm
          simp [hm3, len_ne hm2]
  by_cases h2 : k = 2 ∨ k = 3
  · have hok : (Fm.mk k t m l).ok = (m.isEmpty && t.none && l.length == 2 && Fm.oks l) := by
      cases m with
      | nil => simp [Fm.head, fmArity, h1, h2, Bool.and_assoc]
      | cons x m => simp [Fm.head, fmArity, h1, h2]
    rw [hok]
    have hcond : ∀ {P Q : Prop}, (k = 2 → P) → (k = 3 → P) → P := fun a b => h2.elim a b
    cases m with
    | cons x m =>
      have : ¬ ((m.length : Int) + 1 = 0) := by omega
      rcases h2 with rfl | rfl <;> simp [this]
    | nil =>
      rcases h2 with rfl | rfl
      all_goals
        simp
        refine opV_call (c117 t _) (by simp) ?_
        cases hn : t.none with
        | false => simp
        | true =>
          by_cases hm : l.length = 2
          · match l, hm with
            | [a, b], _ =>
              simp at hsz
              simp
              refine opV_call (ih a (by simp) (by omega) _) (by simp) ?_
              cases ha : a.ok with
              | false => simp
              | true =>
                simp
                refine opV_call (ih b (by simp) (by omega) _) (by simp) ?_
                simp
          · have hm2 : ¬ (l.length : Int) = 2 := by omega
            have hm3 : (l.length == 2) = false := by simpa using hm
            simp [hm3, len_ne hm2]
  have h22 : k ≠ 2 := fun h => h2 (.inl h)
  have h23 : k ≠ 3 := fun h => h2 (.inr h)
  simp [h1, h22, h23]
  refine opV_call (c118 k _) (by simp) ?_
  by_cases h3 : k = 4 ∨ k = 5 ∨ k = 6 ∨ k = 7
  · have hq : fmQ k = true := by rcases h3 with rfl | rfl | rfl | rfl <;> rfl
    have hok : (Fm.mk k t m l).ok = (m.isEmpty && t.check == 0 && l.length == 1 && Fm.oks l) := by
      have ha : fmArity k = some (0, 1, true) := by rcases h3 with rfl | rfl | rfl | rfl <;> rfl
      cases m with
      | nil => simp [Fm.head, ha, Bool.and_assoc]
      | cons x m => simp [Fm.head, ha]
    rw [← Fm.ok_mk, hok, hq]
    cases m with
    | cons x m =>
      have : ¬ ((m.length : Int) + 1 = 0) := by omega
      simp [this]
    | nil =>
      simp
      refine opV_call (c102 t (by omega) _) (by simp) ?_
      by_cases hc : t.check = 0
      · by_cases hl : l.length = 1
        · obtain ⟨x, rfl⟩ := List.length_eq_one_iff.1 hl
          simp at hsz
          simp [hc]
          refine opV_call (ih x (by simp) (by omega) _) (by simp) ?_
          simp
        · have hm2 : ¬ (l.length : Int) = 1 := by omega
          have hm3 : (l.length == 1) = false := by simpa using hl
          simp [hc, hm3, len_ne hm2]
      · simp [hc]
  · have hq : fmQ k = false := by simp only [fmQ]; simp; omega
    have ha : fmArity k = none := by simp only [fmArity, h1, h2, h3, if_false]
    rw [hq]
    simp [Fm.head, ha]
theorem c34 (f : Fm) (hsz : f.size ≤ 1099511627776) (σ : List Frm) : CallsV cfg 34 [.agg (encF f)] σ (.val (.one (.int .i64 f.check))) σ := by
  refine w34 (by simp) ?_
  rw [s34]
  simp
  refine opV_call (c80 f hsz _) (by simp) ?_
  unfold Fm.check
  cases hok : f.ok with
  | false => simp
  | true =>
    simp
    refine opV_call (c60 f hsz _) (by simp) ?_
    by_cases h : f.count ≤ 4096
    · have h' : ¬ ((4096 : Int) < f.count) := by omega
      simp [h, h']
    · have h' : ((4096 : Int) < f.count) := by omega
      simp [h, h']
end Go.Proofs.YtnpgbkldpdogjaaGreatDoor.V

set_option maxRecDepth 100000
namespace Go.Proofs.YtnpgbkldpdogjaaGreatDoor.V
open Go Go.Proofs
theorem c53 (f : Fm) : f.ok = true → ∀ (σ : List Frm), CallsV cfg 53 [.agg (encF f)] σ (.val (.one (.bool f.has))) σ := by
  induction f using Fm.ind with
  | _ k t m l ih =>
  intro hok σ
  refine w53 (by simp) ?_
  rw [s53, Fm.has_mk]
  rcases Fm.shape hok with ⟨rfl, rfl⟩ | ⟨rfl | rfl, y, x, rfl, hy, hx⟩ | ⟨hk, ht, x, rfl, hx⟩
  · simp
  · simp
    refine opV_call (ih y (by simp) hy _) (by simp) ?_
    cases hyh : y.has with
    | true => simp
    | false =>
      simp
      refine opV_call (ih x (by simp) hx _) (by simp) ?_
      simp
  · simp [wrap_id]
    refine opV_call (ih x (by simp) hx _) (by simp) ?_
    simp
  · rcases hk with rfl | rfl | rfl | rfl
    · simp [wrap_id]
      refine opV_call (ih x (by simp) hx _) (by simp) ?_
      simp
    · simp
    · simp [wrap_id]
      refine opV_call (ih x (by simp) hx _) (by simp) ?_
      simp
    · simp [wrap_id]
      refine opV_call (ih x (by simp) hx _) (by simp) ?_
      simp
def hasOf (f : Fm) : Bool := if f.check = 0 then f.has else false
theorem c16 (f : Fm) (hsz : f.size ≤ 1099511627776) (σ : List Frm) : CallsV cfg 16 [.agg (encF f)] σ (.val (.tup [.one (.bool (hasOf f)), .one (.int .i64 f.check)])) σ := by
  refine w16 (by simp) ?_
  rw [s16]
  simp
  refine opV_call (c34 f hsz _) (by simp) ?_
  by_cases hc : f.check = 0
  · simp [hc, bne, hasOf]
    refine opV_call (c53 f (Fm.check_ok hc) _) (by simp) ?_
    simp
  · simp [hc, bne, hasOf]
theorem c26 (f : Fm) (hsz : f.size ≤ 1099511627776) (σ : List Frm) : CallsV cfg 26 [.agg (encF f)] σ (.val (.one (.bool (hasOf f)))) σ := by
  refine w26 (by simp) ?_
  rw [s26]
  simp
  refine opV_call (c16 f hsz _) (by simp) ?_
  simp
theorem c119 (t : Ty) (hsz : t.size ≤ 1099511627776) (σ : List Frm) : CallsV cfg 119 [.agg (enc t)] σ (.val (.tup [.one (.int .i64 (if t.check = 0 then (t.size : Int) else 0)), .one (.int .i64 t.check)])) σ := by
  refine w119 (by simp) ?_
  rw [s119]
  simp
  refine opV_call (c102 t hsz _) (by simp) ?_
  by_cases hc : t.check = 0
  · simp [hc, bne]
    refine opV_call (c130 t hsz _) (by simp) ?_
    simp
  · simp [hc, bne]
theorem c82 (t : Ty) (e : Int) (hsz : t.size ≤ 1099511627776) (σ : List Frm) : CallsV cfg 82 [.agg (enc t), .one (.int .i64 e)] σ (.val (enc2 (fits t e))) σ := by
  refine w82 (by simp) ?_
  rw [s82]
  by_cases he : e = 0
  · simp [he, bne]
    refine opV_call (c119 t hsz _) (by simp) ?_
    by_cases hc : t.check = 0
    · simp [hc, bne, fits, enc2]
    · simp [hc, bne, fits, enc2, Ty.zero]
  · simp [he, bne, fits, enc2, Ty.zero]
theorem fits_size {t : Ty} {e : Int} : (fits t e).1.size ≤ 64 := by
  unfold fits
  split
  · simp
  · split
    · simp
    · rename_i h; exact Ty.check_size (by simpa using h)
theorem rstep_size {k : Int} {t : Ty} {b : Bool} {f l : Bool × Ty × Int} (hf : f.2.1.size ≤ 64) (hl : l.2.1.size ≤ 64) (ht : k = 5 → t.size ≤ 64) : (rstep k t b f l).1.size ≤ 64 := by
  unfold rstep
  repeat' split
  all_goals first
    | assumption
    | exact fits_size
    | (simp; done)
    | exact ht (by assumption)
theorem Fm.rof_size (f : Fm) : f.ok = true → f.rof.1.size ≤ 64 := by
  induction f using Fm.ind with
  | _ k t m l ih =>
    intro hok
    rw [Fm.rof_mk]
    rcases Fm.shape hok with ⟨rfl, rfl⟩ | ⟨hk, y, x, rfl, hy, hx⟩ | ⟨hk, ht, x, rfl, hx⟩
    · simp [rstep, Fm.has_mk]
    · exact rstep_size (ih y (by simp) hy) (ih x (by simp) hx) (fun h => by omega)
    · exact rstep_size (ih x (by simp) hx) (ih x (by simp) hx) (fun _ => Ty.check_size ht)
theorem Fm.check_part {k : Int} {t : Ty} {m : List Tm} {l : List Fm} (h : (Fm.mk k t m l).check = 0) {x : Fm} (hx : x ∈ l) : x.check = 0 := by
  have h2 := Fm.check_ok2 h
  simp only [Fm.ok_mk, Bool.and_eq_true, Fm.oks_iff, Fm.count_mk] at h2
  refine Fm.check_small (h2.1.2.2 x hx) ?_
  have : x.count ≤ Fm.counts l := by
    clear h h2
    induction l with
    | nil => simp at hx
    | cons y l ih =>
      rcases List.mem_cons.1 hx with rfl | hx
      · simp
      · have := ih hx; simp; omega
  omega
theorem hasOf_ok {f : Fm} (h : f.check = 0) : hasOf f = f.has := by simp [hasOf, h]
theorem c35 (f : Fm) : f.check = 0 → f.size ≤ 1099511627770 → ∀ (σ : List Frm), CallsV cfg 35 [.agg (encF f)] σ (.val (enc2 f.rof)) σ := by
  induction f using Fm.ind with
  | _ k t m l ih =>
  intro hc hsz σ
  have hh := c26 (.mk k t m l) (by omega)
  rw [hasOf_ok hc] at hh
  have hok := Fm.check_ok hc
  simp at hsz hh
  refine w35 (by simp) ?_
  rw [s35, Fm.rof_mk]
  simp
  refine opV_call (hh _) (by simp) ?_
  cases hhas : (Fm.mk k t m l).has with
  | false =>
    simp
    refine opV_call (c81 _) (by simp) ?_
    simp [rstep, enc2]
  | true =>
    have hp : ∀ x ∈ l, x.check = 0 := fun x hx => Fm.check_part hc hx
    rcases Fm.shape hok with ⟨rfl, rfl⟩ | ⟨hk, y, x, rfl, hy, hx⟩ | ⟨hk, ht, x, rfl, hx⟩
    · rw [Fm.has_mk] at hhas; simp at hhas
    · have cy := hp y (by simp)
      have cx := hp x (by simp)
      simp at hsz
      have hyh := c26 y (by omega)
      have hxh := c26 x (by omega)
      rw [hasOf_ok cy] at hyh
      rw [hasOf_ok cx] at hxh
      have sy := Fm.rof_size y hy
      have sx := Fm.rof_size x hx
      rcases hk with rfl | rfl
      · simp
        refine opV_call (hyh _) (by simp) ?_
        cases hyv : y.has with
        | false =>
          simp
          refine opV_call (ih x (by simp) cx (by omega) _) (by simp) ?_
          simp [rstep, enc2]
        | true =>
          simp
          refine opV_call (hxh _) (by simp) ?_
          cases hxv : x.has with
          | false =>
            simp
            refine opV_call (ih y (by simp) cy (by omega) _) (by simp) ?_
            simp [rstep, enc2]
          | true =>
            simp
            refine opV_call (ih y (by simp) cy (by omega) _) (by simp) ?_
            by_cases he : y.rof.2 = 0
            · simp [enc2, he, bne]
              refine opV_call (ih x (by simp) cx (by omega) _) (by simp) ?_
              simp [enc2]
              refine opV_call (c83 y.rof.1 x.rof.1 _) (by simp) ?_
              simp
              refine opV_call (c82 (.pair y.rof.1 x.rof.1) x.rof.2 (by simp; omega) _) (by simp) ?_
              simp [enc2, rstep, he]
            · simp [enc2, he, bne, rstep, Ty.zero]
      · simp
        refine opV_call (hyh _) (by simp) ?_
        cases hyv : y.has with
        | false =>
          simp
          refine opV_call (ih x (by simp) cx (by omega) _) (by simp) ?_
          simp [rstep, enc2]
        | true =>
          simp
          refine opV_call (ih y (by simp) cy (by omega) _) (by simp) ?_
          by_cases he : y.rof.2 = 0
          · simp [enc2, he, bne]
            refine opV_call (ih x (by simp) cx (by omega) _) (by simp) ?_
            simp [enc2]
            refine opV_call (c84 y.rof.1 x.rof.1 _) (by simp) ?_
            simp
            refine opV_call (c82 (.fn y.rof.1 x.rof.1) x.rof.2 (by simp; omega) _) (by simp) ?_
            simp [enc2, rstep, he]
          · simp [enc2, he, bne, rstep, Ty.zero]
    · have cx := hp x (by simp)
      simp at hsz
      have hxh := c26 x (by omega)
      rw [hasOf_ok cx] at hxh
      have sx := Fm.rof_size x hx
      have st := Ty.check_size ht
      rcases hk with rfl | rfl | rfl | rfl
      · simp
        refine opV_call (ih x (by simp) cx (by omega) _) (by simp) ?_
        simp [enc2]
        refine opV_call (c84 t x.rof.1 _) (by simp) ?_
        simp
        refine opV_call (c82 (.fn t x.rof.1) x.rof.2 (by simp; omega) _) (by simp) ?_
        simp [enc2, rstep]
      · simp
        refine opV_call (hxh _) (by simp) ?_
        cases hxv : x.has with
        | false => simp [rstep, enc2]
        | true =>
          simp
          refine opV_call (ih x (by simp) cx (by omega) _) (by simp) ?_
          simp [enc2]
          refine opV_call (c83 t x.rof.1 _) (by simp) ?_
          simp
          refine opV_call (c82 (.pair t x.rof.1) x.rof.2 (by simp; omega) _) (by simp) ?_
          simp [enc2, rstep]
      · simp
        refine opV_call (ih x (by simp) cx (by omega) _) (by simp) ?_
        simp [enc2, rstep]
      · simp
        refine opV_call (ih x (by simp) cx (by omega) _) (by simp) ?_
        simp [enc2, rstep]
theorem c13 (f : Fm) (hsz : f.size ≤ 1099511627770) (σ : List Frm) : CallsV cfg 13 [.agg (encF f)] σ (.val (enc2 f.rtype)) σ := by
  refine w13 (by simp) ?_
  rw [s13]
  simp
  refine opV_call (c34 f (by omega) _) (by simp) ?_
  by_cases hc : f.check = 0
  · simp [hc, bne]
    refine opV_call (c35 f hc hsz _) (by simp) ?_
    simp [enc2, Fm.rtype, hc]
  · simp [hc, bne, enc2, Fm.rtype, Ty.zero]
def i54 (l : List Ty) (σ : List Frm) (j : Nat) : St → Prop
  | ⟨env, _, σ', _⟩ => env 9 = .one (.slice .no 2 (l.map enc)) ∧ env 10 = .one (.int .i64 l.length) ∧ env 11 = .one (.int .i64 j) ∧ σ' = σ ∧ checks l = checks (l.drop j)
theorem c54 (l : List Ty) (hsz : Ty.sizes l ≤ 1099511627776) (σ : List Frm) : CallsV cfg 54 [.one (.slice .no 2 (l.map enc))] σ (.val (.one (.int .i64 (ctxCheck l)))) σ := by
  have hlen := Ty.length_le l
  refine w54 (by simp) ?_
  rw [s54]
  by_cases h : 16 < l.length
  · have h' : (16 : Int) < l.length := by omega
    simp [h', ctxCheck, h]
  have h' : ¬ (16 : Int) < l.length := by omega
  simp [h', ctxCheck, h]
  refine wpP_range l.length (i54 l σ) (by omega) ⟨by simp, by simp, by simp, rfl, by simp⟩ ?_ ?_ (hend := ?_)
  · rintro j ⟨env, loc, σ', live⟩ ⟨h9, h10, h11, rfl, hs⟩
    exact ⟨h11, h10⟩
  · rintro j ⟨env, loc, σ', live⟩ hj ⟨h9, h10, h11, rfl, hs⟩
    obtain ⟨x, hx, hd, hmx⟩ := drop_cons hj
    have := Ty.sizes_mem hmx
    rw [hd, checks] at hs
    simp [h9, h10, h11, hx]
    refine opV_call (c102 x (by omega) _) (by simp) ?_
    by_cases hc : x.check = 0
    · rw [if_pos hc] at hs
      simp [hc, bne]
      exact ⟨by simp, by simp, by simp, rfl, hs⟩
    · rw [if_neg hc] at hs
      simp [hc, bne, hs]
  · rintro ⟨env, loc, σ', live⟩ ⟨h9, h10, h11, rfl, hs⟩
    rw [List.drop_length] at hs
    simp [hs, checks]
end Go.Proofs.YtnpgbkldpdogjaaGreatDoor.V

set_option maxRecDepth 100000
namespace Go.Proofs.YtnpgbkldpdogjaaGreatDoor.V
open Go Go.Proofs
def encC (r : List Ty × Int) : PV := .tup [.one (.slice .no 2 (r.1.map enc)), .one (.int .i64 r.2)]
@[simp] theorem encC_er (r : List Ty × Int) : erV (encC r) = encC r := by simp [encC]
def encP (r : List Int × Int) : PV := .tup [.one (.slice .no 1 (encI r.1)), .one (.int .i64 r.2)]
@[simp] theorem encP_er (r : List Int × Int) : erV (encP r) = encP r := by simp [encP]
end Go.Proofs.YtnpgbkldpdogjaaGreatDoor.V

set_option maxRecDepth 100000
namespace Go.Proofs.YtnpgbkldpdogjaaGreatDoor.V
open Go Go.Proofs
theorem Fm.rtype_size {f : Fm} : f.rtype.1.size ≤ 64 := by
  unfold Fm.rtype
  split
  · simp
  · rename_i h; exact Fm.rof_size f (Fm.check_ok (by simpa using h))
theorem Ty.same_refl (t : Ty) : Ty.same t t = true := (Ty.same_iff t t).2 rfl
theorem Ty.sames_refl (l : List Ty) : Ty.sames l l = true := by
  induction l with
  | nil => simp
  | cons x l ih => simp [Ty.same_refl, ih]
end Go.Proofs.YtnpgbkldpdogjaaGreatDoor.V
