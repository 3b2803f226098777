/-
Parts of the proof of one law, put together by program: part 4.
-/
import Derived.Test.YtnpgbkldpdogjaaGreatDoorKA3
set_option linter.unusedSimpArgs false
set_option linter.unusedVariables false
set_option maxRecDepth 100000
namespace Go.Proofs.YtnpgbkldpdogjaaGreatDoor.V
open Go Go.Proofs
theorem drop_cons {α : Type} {l : List α} {j : Nat} (h : j < l.length) : ∃ x, l[j]? = some x ∧ l.drop j = x :: l.drop (j + 1) ∧ x ∈ l := ⟨l[j], List.getElem?_eq_getElem h, List.drop_eq_getElem_cons h, List.getElem_mem h⟩
def i79 (k : Int) (l : List Ty) (σ : List Frm) (j : Nat) : St → Prop
  | ⟨env, loc, σ', live⟩ => ∃ ow, env = mkE [(1, .one (.box σ.length 1 0 0)), (2, .one (.box σ.length 2 0 0)), (3, .one (.slice ow 2 ((l.take j).map enc))), (7, .one (.slice .no 2 (l.map enc))), (8, .one (.int .i64 l.length)), (9, .one (.int .i64 j))] ∧
    loc 1 = [enc (.mk k l)] ∧ loc 2 = [[Cell.int .i64 0, .slice .full 2 []]] ∧ σ' = σ ∧ okOwn live ow
theorem c79 (t : Ty) : t.size ≤ 1099511627776 → ∀ (σ : List Frm), CallsV cfg 79 [.agg (enc t)] σ (.val (.agg (enc t))) σ := by
  induction t using Ty.ind with
  | _ k l ih =>
  intro hsz σ
  simp at hsz
  have hlen := Ty.length_le l
  refine w79 (by simp) ?_
  rw [s79]
  simp
  refine wpP_range l.length (i79 k l σ) (by omega) ⟨.full, by simp, by simp, by simp, rfl, by simp⟩ ?_ ?_ (hend := ?_)
  · rintro j ⟨_, loc, _, live⟩ ⟨ow, rfl, h1, h2, rfl, how⟩
    simp
  · rintro j ⟨_, loc, _, live⟩ hj ⟨ow, rfl, h1, h2, rfl, how⟩
    obtain ⟨x, hx, hd, hm⟩ := drop_cons hj
    have := Ty.sizes_mem hm
    simp [hx]
    refine opV_call (ih x hm (by omega) _) (by simp) ?_
    simp [how]
    refine ⟨by omega, by omega, .tip live.nx, ?_, by simp [h1], by simp [h2], rfl, grown_on⟩
    simp [List.take_add_one, hx]
  · rintro ⟨_, loc, _, live⟩ ⟨ow, rfl, h1, h2, rfl, how⟩
    simp [h1, h2]
theorem c77 (a b : Ty) (ha : a.size ≤ 1099511627776) (hb : b.size ≤ 1099511627776) (σ : List Frm) : CallsV cfg 77 [.agg (enc a), .agg (enc b)] σ (.val (.agg (enc (.mk 3 [a, b])))) σ := by
  refine w77 (by simp) ?_
  rw [s77]
  simp
  refine wpP_draw (fun _ _ _ => false) ?_
  simp
  refine stepD_call (c79 _ ha _) (by simp) ?_
  simp
  refine stepD_call (c79 _ hb _) (by simp) ?_
  simp
theorem c78 (a b : Ty) (ha : a.size ≤ 1099511627776) (hb : b.size ≤ 1099511627776) (σ : List Frm) : CallsV cfg 78 [.agg (enc a), .agg (enc b)] σ (.val (.agg (enc (.mk 4 [a, b])))) σ := by
  refine w78 (by simp) ?_
  rw [s78]
  simp
  refine wpP_draw (fun _ _ _ => false) ?_
  simp
  refine stepD_call (c79 _ ha _) (by simp) ?_
  simp
  refine stepD_call (c79 _ hb _) (by simp) ?_
  simp
theorem c48 (σ : List Frm) : CallsV cfg 48 [] σ (.val (.agg (enc (.mk 2 [])))) σ := by
  refine w48 (by simp) ?_
  rw [s48]
  simp
theorem c32 (σ : List Frm) : CallsV cfg 32 [] σ (.val (.agg (enc (.mk 1 [])))) σ := by
  refine w32 (by simp) ?_
  rw [s32]
  simp
theorem c76 (σ : List Frm) : CallsV cfg 76 [] σ (.val (.agg (enc (.mk 5 [])))) σ := by
  refine w76 (by simp) ?_
  rw [s76]
  simp
def i49 (k k' : Int) (l m : List Ty) (σ : List Frm) (j : Nat) : St → Prop
  | ⟨env, loc, σ', _⟩ => env = mkE [(2, .one (.box σ.length 2 0 0)), (3, .one (.box σ.length 3 0 0)), (22, .one (.int .i64 l.length)), (23, .one (.int .i64 j))] ∧
    loc 2 = [enc (.mk k l)] ∧ loc 3 = [enc (.mk k' m)] ∧ σ' = σ ∧ Ty.sames l m = Ty.sames (l.drop j) (m.drop j)
theorem c49 (a : Ty) : ∀ (b : Ty), a.size ≤ 1099511627776 → ∀ (σ : List Frm), CallsV cfg 49 [.agg (enc a), .agg (enc b)] σ (.val (.one (.bool (Ty.same a b)))) σ := by
  induction a using Ty.ind with
  | _ k l ih =>
  rintro ⟨k', m⟩ hsz σ
  simp at hsz
  have hlen := Ty.length_le l
  refine w49 (by simp) ?_
  rw [s49]
  by_cases hk : k = k'
  rotate_left
  · simp [hk]
  subst hk
  by_cases hl : l.length = m.length
  rotate_left
  · have : Ty.sames l m = false := by
      cases h : Ty.sames l m with
      | false => rfl
      | true => exact absurd (Ty.sames_length h) hl
    have hl' : ((l.length : Int) == (m.length : Int)) = false := by simpa using (by omega : ¬ (l.length : Int) = m.length)
    simp [hl', this, bne]
  have hl' : ((l.length : Int) == (m.length : Int)) = true := by rw [hl]; simp
  simp [hl', bne]
  refine wpP_range l.length (i49 k k l m σ) (by omega) ⟨by simp, by simp, by simp, rfl, by simp⟩ ?_ ?_ (hend := ?_)
  · rintro j ⟨_, loc, _, live⟩ ⟨rfl, h1, h2, rfl, hs⟩
    simp
  · rintro j ⟨_, loc, _, live⟩ hj ⟨rfl, h1, h2, rfl, hs⟩
    obtain ⟨x, hx, hd, hmx⟩ := drop_cons hj
    obtain ⟨y, hy, hd', _⟩ := drop_cons (hl ▸ hj)
    have := Ty.sizes_mem hmx
    simp
    refine wpP_draw (fun _ _ _ => false) ?_
    simp [h1, h2, hx, hy]
    refine stepD_call (ih x hmx y (by omega) _) (by simp) ?_
    rw [hd, hd', Ty.sames_cons] at hs
    cases hxy : Ty.same x y with
    | false =>
      rw [hxy] at hs
      simp [hs]
    | true =>
      rw [hxy] at hs
      simp
      exact ⟨by simp, h1, h2, rfl, by simpa using hs⟩
  · rintro ⟨_, loc, _, live⟩ ⟨rfl, h1, h2, rfl, hs⟩
    rw [List.drop_length, hl, List.drop_length] at hs
    simp [hs]
def encI (l : List Int) : List (List Cell) := l.map fun n => [.int .i64 n]
theorem encI_get {l : List Int} {j : Nat} {n : Int} (h : l[j]? = some n) : (encI l)[j]? = some [.int .i64 n] := by simp [encI, h]
@[simp] theorem encI_length (l : List Int) : (encI l).length = l.length := by simp [encI]
end Go.Proofs.YtnpgbkldpdogjaaGreatDoor.V

set_option maxRecDepth 100000
namespace Go.Proofs.YtnpgbkldpdogjaaGreatDoor.V
open Go Go.Proofs
theorem len_ne {n : Nat} {m : Int} (h : ¬ (n : Int) = m) : ((n : Int) == m) = false := by simp [h]
def r163 (k : Int) (l : List Ty) (σ : List Frm) : St → Prop
  | ⟨env, loc, σ', _⟩ => ∃ n : Nat, tyArity k = some n ∧ env 1 = .one (.box σ.length 1 0 0) ∧ env 3 = .one (.int .i64 n) ∧ loc 1 = [enc (.mk k l)] ∧ σ' = σ
def i129 (l : List Ty) (σ : List Frm) (j : Nat) : St → Prop
  | ⟨env, _, σ', _⟩ => env = mkE [(21, .one (.slice .no 2 (l.map enc))), (22, .one (.int .i64 l.length)), (23, .one (.int .i64 j))] ∧ σ' = σ ∧ Ty.oks l = Ty.oks (l.drop j)
theorem c129 (t : Ty) : t.size ≤ 1099511627776 → ∀ (σ : List Frm), CallsV cfg 129 [.agg (enc t)] σ (.val (.one (.bool t.ok))) σ := by
  induction t using Ty.ind with
  | _ k l ih =>
  intro hsz σ
  simp at hsz
  have hlen := Ty.length_le l
  refine w129 (by simp) ?_
  rw [s129]
  simp [-wpP_block]
  refine cut (r163 k l σ) ?_ ?_
  · have hcase : k = 1 ∨ k = 2 ∨ k = 5 ∨ k = 3 ∨ k = 4 ∨ (tyArity k = none ∧ k ≠ 1 ∧ k ≠ 2 ∧ k ≠ 5 ∧ k ≠ 3 ∧ k ≠ 4) := by
      unfold tyArity
      by_cases a1 : k = 1 ∨ k = 2 ∨ k = 5
      · omega
      · by_cases a2 : k = 3 ∨ k = 4
        · omega
        · rw [if_neg a1, if_neg a2]; simp; omega
    rcases hcase with rfl | rfl | rfl | rfl | rfl | ⟨h, h1, h2, h3, h4, h5⟩
    · simp; exact ⟨0, by simp [tyArity], by simp, by simp, by simp, rfl⟩
    · simp; exact ⟨0, by simp [tyArity], by simp, by simp, by simp, rfl⟩
    · simp; exact ⟨0, by simp [tyArity], by simp, by simp, by simp, rfl⟩
    · simp; exact ⟨2, by simp [tyArity], by simp, by simp, by simp, rfl⟩
    · simp; exact ⟨2, by simp [tyArity], by simp, by simp, by simp, rfl⟩
    · simp [h, h1, h2, h3, h4, h5]
  · rintro ⟨env, loc, σ', live⟩ ⟨n, hn, e1, e3, h1, rfl⟩
    by_cases hl : (l.length : Int) = n
    rotate_left
    · have hl2 : ¬ l.length = n := by omega
      have hl3 : ¬ n = l.length := by omega
      simp [e1, e3, h1, len_ne hl, hn, bne, hl3]
    · have hl2 : n = l.length := by omega
      subst hl2
      simp [e1, e3, h1, hn, bne]
      refine wpP_range l.length (i129 l σ') (by omega) ⟨by simp, rfl, by simp⟩ ?_ ?_ (hend := ?_)
      · rintro j ⟨_, loc, _, live⟩ ⟨rfl, rfl, hs⟩
        simp
      · rintro j ⟨_, loc, _, live⟩ hj ⟨rfl, rfl, hs⟩
        obtain ⟨x, hx, hd, hmx⟩ := drop_cons hj
        have := Ty.sizes_mem hmx
        rw [hd, Ty.oks_cons] at hs
        simp [hx]
        refine opV_call (ih x hmx (by omega) _) (by simp) ?_
        cases hxy : x.ok with
        | false => rw [hxy] at hs; simp [hs]
        | true =>
          rw [hxy] at hs
          simp
          exact ⟨by simp, rfl, by simpa using hs⟩
      · rintro ⟨_, loc, _, live⟩ ⟨rfl, rfl, hs⟩
        rw [List.drop_length] at hs
        simp [hs]
def i130 (l : List Ty) (σ : List Frm) (j : Nat) : St → Prop
  | ⟨env, _, σ', _⟩ => env 3 = .one (.int .i64 ((1 + Ty.sizes (l.take j) : Nat) : Int)) ∧ env 7 = .one (.slice .no 2 (l.map enc)) ∧ env 8 = .one (.int .i64 l.length) ∧ env 9 = .one (.int .i64 j) ∧ σ' = σ
theorem c130 (t : Ty) : t.size ≤ 1099511627776 → ∀ (σ : List Frm), CallsV cfg 130 [.agg (enc t)] σ (.val (.one (.int .i64 t.size))) σ := by
  induction t using Ty.ind with
  | _ k l ih =>
  intro hsz σ
  simp at hsz
  have hlen := Ty.length_le l
  refine w130 (by simp) ?_
  rw [s130]
  simp
  refine wpP_range l.length (i130 l σ) (by omega) ⟨by simp, by simp, by simp, by simp, rfl⟩ ?_ ?_ (hend := ?_)
  · rintro j ⟨env, loc, σ', live⟩ ⟨h3, h7, h8, h9, hσ⟩
    exact ⟨h9, h8⟩
  · rintro j ⟨env, loc, σ', live⟩ hj ⟨h3, h7, h8, h9, hσ⟩
    obtain ⟨x, hx, hd, hmx⟩ := drop_cons hj
    have := Ty.sizes_mem hmx
    have h1 := Ty.sizes_take hx
    have h2 := Ty.sizes_take_le l (j + 1)
    simp [h3, h7, h8, h9, hx]
    refine opV_call (ih x hmx (by omega) _) (by simp) ?_
    simp
    rw [wrap_id (by omega) (by omega)]
    refine ⟨?_, by simp, by simp, by simp, hσ⟩
    simp [h1]
    omega
  · rintro ⟨env, loc, σ', live⟩ ⟨h3, h7, h8, h9, hσ⟩
    rw [List.take_length] at h3
    simp [h3, hσ]
theorem c102 (t : Ty) (hsz : t.size ≤ 1099511627776) (σ : List Frm) : CallsV cfg 102 [.agg (enc t)] σ (.val (.one (.int .i64 t.check))) σ := by
  refine w102 (by simp) ?_
  rw [s102]
  simp
  refine opV_call (c129 t hsz _) (by simp) ?_
  unfold Ty.check
  cases hok : t.ok with
  | false => simp
  | true =>
    simp
    refine opV_call (c130 t hsz _) (by simp) ?_
    by_cases h : t.size ≤ 64
    · have h' : ¬ ((64 : Int) < t.size) := by omega
      simp [h, h']
    · have h' : ((64 : Int) < t.size) := by omega
      simp [h, h']
def r192 (k : Int) (l : List Ty) (σ : List Frm) : St → Prop
  | ⟨env, loc, σ', _⟩ => ∃ n : Nat, tyArity k = some n ∧ env 1 = .one (.box σ.length 1 0 0) ∧ env 4 = .one (.int .i64 n) ∧ loc 1 = [enc (.mk k l)] ∧ σ' = σ
def i162 (l : List Ty) (σ : List Frm) (j : Nat) : St → Prop
  | ⟨env, _, σ', _⟩ => env 5 = .one (.int .i64 ((1 + Ty.sizes (l.take j) : Nat) : Int)) ∧ env 25 = .one (.slice .no 2 (l.map enc)) ∧ env 26 = .one (.int .i64 l.length) ∧ env 27 = .one (.int .i64 j) ∧ σ' = σ ∧ Ty.oks l = Ty.oks (l.drop j)
def Ty.nodes (t : Ty) : PV := .tup [.one (.int .i64 (if t.ok = true then (t.size : Int) else 0)), .one (.bool t.ok)]
theorem c162 (t : Ty) : t.size ≤ 1099511627776 → ∀ (σ : List Frm), CallsV cfg 162 [.agg (enc t)] σ (.val t.nodes) σ := by
  induction t using Ty.ind with
  | _ k l ih =>
  intro hsz σ
  simp at hsz
  have hlen := Ty.length_le l
  refine w162 (by simp [Ty.nodes]) ?_
  rw [s162]
  simp [-wpP_block]
  refine cut (r192 k l σ) ?_ ?_
  · have hcase : k = 1 ∨ k = 2 ∨ k = 5 ∨ k = 3 ∨ k = 4 ∨ (tyArity k = none ∧ k ≠ 1 ∧ k ≠ 2 ∧ k ≠ 5 ∧ k ≠ 3 ∧ k ≠ 4) := by
      unfold tyArity
      by_cases a1 : k = 1 ∨ k = 2 ∨ k = 5
      · omega
      · by_cases a2 : k = 3 ∨ k = 4
        · omega
        · rw [if_neg a1, if_neg a2]; simp; omega
    rcases hcase with rfl | rfl | rfl | rfl | rfl | ⟨h, h1, h2, h3, h4, h5⟩
    · simp; exact ⟨0, by simp [tyArity], by simp, by simp, by simp, rfl⟩
    · simp; exact ⟨0, by simp [tyArity], by simp, by simp, by simp, rfl⟩
    · simp; exact ⟨0, by simp [tyArity], by simp, by simp, by simp, rfl⟩
    · simp; exact ⟨2, by simp [tyArity], by simp, by simp, by simp, rfl⟩
    · simp; exact ⟨2, by simp [tyArity], by simp, by simp, by simp, rfl⟩
    · simp [h, h1, h2, h3, h4, h5, Ty.nodes]
  · rintro ⟨env, loc, σ', live⟩ ⟨n, hn, e1, e4, h1, rfl⟩
    by_cases hl : (l.length : Int) = n
    rotate_left
    · have hl3 : ¬ n = l.length := by omega
      simp [e1, e4, h1, len_ne hl, hn, bne, hl3, Ty.nodes]
    · have hl2 : n = l.length := by omega
      subst hl2
      simp [e1, e4, h1, hn, bne]
      refine wpP_range l.length (i162 l σ') (by omega) ⟨by simp, by simp, by simp, by simp, rfl, by simp⟩ ?_ ?_ (hend := ?_)
      · rintro j ⟨env, loc, σ'', live⟩ ⟨h5, h25, h26, h27, rfl, hs⟩
        exact ⟨h27, h26⟩
      · rintro j ⟨env, loc, σ'', live⟩ hj ⟨h5, h25, h26, h27, rfl, hs⟩
        obtain ⟨x, hx, hd, hmx⟩ := drop_cons hj
        have := Ty.sizes_mem hmx
        have h1 := Ty.sizes_take hx
        have h2 := Ty.sizes_take_le l (j + 1)
        rw [hd, Ty.oks_cons] at hs
        simp [h5, h25, h26, h27, hx]
        refine opV_call (ih x hmx (by omega) _) (by simp) ?_
        cases hxy : x.ok with
        | false => rw [hxy] at hs; simp [hs, hn, hxy, Ty.nodes]
        | true =>
          rw [hxy] at hs
          simp [hxy, Ty.nodes]
          rw [wrap_id (by omega) (by omega)]
          refine ⟨?_, by simp, by simp, by simp, rfl, by simpa using hs⟩
          simp [h1]
          omega
      · rintro ⟨env, loc, σ'', live⟩ ⟨h5, h25, h26, h27, rfl, hs⟩
        rw [List.drop_length] at hs
        rw [List.take_length] at h5
        simp [h5, hs, hn, Ty.nodes]
theorem c144 (t : Ty) (hsz : t.size ≤ 1099511627776) (σ : List Frm) : CallsV cfg 144 [.agg (enc t)] σ (.val (.tup [.one (.int .i64 (if t.check = 0 then (t.size : Int) else 0)), .one (.int .i64 t.check)])) σ := by
  refine w144 (by simp) ?_
  rw [s144]
  simp
  refine opV_call (c162 t hsz _) (by simp) ?_
  unfold Ty.check
  cases hok : t.ok with
  | false => simp [Ty.nodes, hok]
  | true =>
    by_cases h : t.size ≤ 64
    · have h' : ¬ ((64 : Int) < t.size) := by omega
      simp [Ty.nodes, hok, h, h']
    · have h' : ((64 : Int) < t.size) := by omega
      simp [Ty.nodes, hok, h, h']
end Go.Proofs.YtnpgbkldpdogjaaGreatDoor.V

set_option maxRecDepth 100000
namespace Go.Proofs.YtnpgbkldpdogjaaGreatDoor.V
open Go Go.Proofs
@[simp] theorem oper_global {env : Nat → PV} : oper cfg env (.global 0) = .one (.cptr arity 0) := by simp [oper, cfg]
def optPV : Option Nat → PV
  | some n => .tup [.one (.int .i64 n), .one (.bool true)]
  | none => .tup [.one (.int .i64 0), .one (.bool false)]
@[simp] theorem optPV_er (o : Option Nat) : erV (optPV o) = optPV o := by cases o <;> simp [optPV]
theorem c142 (k : Int) (σ : List Frm) : CallsV cfg 142 [.one (.int .i64 k)] σ (.val (optPV (tmArity k))) σ := by
  refine w142 (by simp) ?_
  rw [s142]
  by_cases h1 : k < 1
  · have : ¬ (1 ≤ k ∧ k < 14) := by omega
    simp [h1, tmArity, this, optPV]
  by_cases h2 : 14 ≤ k
  · have : ¬ (1 ≤ k ∧ k < 14) := by omega
    simp [h1, h2, tmArity, this, optPV]
  have hk : k = 1 ∨ k = 2 ∨ k = 3 ∨ k = 4 ∨ k = 5 ∨ k = 6 ∨ k = 7 ∨ k = 8 ∨ k = 9 ∨ k = 10 ∨ k = 11 ∨ k = 12 ∨ k = 13 := by omega
  rcases hk with rfl | rfl | rfl | rfl | rfl | rfl | rfl | rfl | rfl | rfl | rfl | rfl | rfl <;> simp [tmArity, optPV, arity]
theorem c143 (k : Int) (σ : List Frm) : CallsV cfg 143 [.one (.int .i64 k)] σ (.val (.one (.bool (tmTyped k)))) σ := by
  refine w143 (by simp) ?_
  rw [s143]
  by_cases h1 : k = 2
  · subst h1; simp [tmTyped]
  by_cases h2 : k = 6
  · subst h2; simp [tmTyped]
  simp [h1, h2, tmTyped]
theorem c145 (t : Ty) (σ : List Frm) : CallsV cfg 145 [.agg (enc t)] σ (.val (.one (.bool t.none))) σ := by
  obtain ⟨k, l⟩ := t
  refine w145 (by simp) ?_
  rw [s145]
  by_cases h : k = 0
  · subst h; cases l <;> simp [Ty.none] <;> omega
  · simp [h, Ty.none]
def Tm.nodes (t : Tm) : PV := .tup [.one (.int .i64 (if t.ok = true then (t.count : Int) else 0)), .one (.bool t.ok)]
def r171 (k i : Int) (t : Ty) (l : List Tm) (σ : List Frm) : St → Prop
  | ⟨env, loc, σ', _⟩ => Tm.head k i t l.length = true ∧ env 1 = .one (.box σ.length 1 0 0) ∧ loc 1 = [encT (.mk k i t l)] ∧ σ' = σ
def i121 (l : List Tm) (σ : List Frm) (j : Nat) : St → Prop
  | ⟨env, _, σ', _⟩ => env 8 = .one (.int .i64 ((1 + Tm.counts (l.take j) : Nat) : Int)) ∧ env 59 = .one (.slice .no 5 (l.map encT)) ∧ env 60 = .one (.int .i64 l.length) ∧ env 61 = .one (.int .i64 j) ∧ σ' = σ ∧ Tm.oks l = Tm.oks (l.drop j)
theorem c121 (t : Tm) : t.size ≤ 1099511627776 → ∀ (σ : List Frm), CallsV cfg 121 [.agg (encT t)] σ (.val t.nodes) σ := by
  induction t using Tm.ind with
  | _ k i t l ih =>
  intro hsz σ
  simp at hsz
  have hlen := Tm.length_le l
  refine w121 (by simp [Tm.nodes]) ?_
  rw [s121]
  refine cut4 (r171 k i t l σ) ?_ ?_
  · simp
    refine opV_call (c142 k _) (by simp) ?_
    cases ha : tmArity k with
    | none => simp [optPV, Tm.nodes, Tm.head, ha]
    | some n =>
      by_cases hn : (l.length : Int) = n
      rotate_left
      · have : ¬ n = l.length := by omega
        simp [optPV, Tm.nodes, Tm.head, ha, len_ne hn, bne, this]
      have hn2 : n = l.length := by omega
      subst hn2
      by_cases hi : i < 0
      · have : ¬ 0 ≤ i := by omega
        simp [optPV, Tm.nodes, Tm.head, ha, bne, hi, this]
      have hi' : 0 ≤ i := by omega
      by_cases hik : i = 0 ∨ k = 1
      rotate_left
      · have h1 : ¬ i = 0 := fun h => hik (.inl h)
        have h2 : ¬ k = 1 := fun h => hik (.inr h)
        simp [optPV, Tm.nodes, Tm.head, ha, bne, hi, h1, h2]
      have fin : Tm.head k i t l.length = (if tmTyped k = true then t.check == 0 else t.none) := by
        have : (i == 0 || k == 1) = true := by simpa using hik
        simp [Tm.head, ha, hi', this]
      have go : ∀ {P : Prop}, (i = 0 → P) → (¬ i = 0 → k = 1 → P) → P := fun h1 h2 => by
        by_cases h : i = 0
        · exact h1 h
        · exact h2 h (hik.resolve_left h)
      refine go (fun h0 => ?_) (fun h0 h1 => ?_)
      · subst h0
        simp [optPV, bne]
        refine opV_call (c143 k _) (by simp) ?_
        cases hty : tmTyped k with
        | true =>
          rw [hty] at fin
          simp
          refine opV_call (c144 t (by omega) _) (by simp) ?_
          by_cases hc : t.check = 0
          · simp [hc]
            exact ⟨by rw [fin]; simp [hc], by simp, by simp, rfl⟩
          · have hf : Tm.head k 0 t l.length = false := by rw [fin]; simp [hc]
            simp [hc, Tm.nodes, hf]
        | false =>
          rw [hty] at fin
          simp
          refine opV_call (c145 t _) (by simp) ?_
          cases hc : t.none with
          | true =>
            simp
            exact ⟨by rw [fin]; simp [hc], by simp, by simp, rfl⟩
          | false =>
            have hf : Tm.head k 0 t l.length = false := by rw [fin]; simp [hc]
            simp [Tm.nodes, hf]
      · subst h1
        have hty : tmTyped 1 = false := rfl
        rw [hty] at fin
        simp [optPV, bne, hi, h0]
        refine opV_call (c143 1 _) (by simp) ?_
        rw [hty]
        simp
        refine opV_call (c145 t _) (by simp) ?_
        cases hc : t.none with
        | true =>
          simp
          exact ⟨by rw [fin]; simp [hc], by simp, by simp, rfl⟩
        | false =>
          have hf : Tm.head 1 i t l.length = false := by rw [fin]; simp [hc]
          simp [Tm.nodes, hf]
  · rintro ⟨env, loc, σ', live⟩ ⟨hh, e1, h1, rfl⟩
    simp [e1, h1]
    refine wpP_range l.length (i121 l σ') (by omega) ⟨by simp, by simp, by simp, by simp, rfl, by simp⟩ ?_ ?_ (hend := ?_)
    · rintro j ⟨env, loc, σ'', live⟩ ⟨h8, h59, h60, h61, rfl, hs⟩
      exact ⟨h61, h60⟩
    · rintro j ⟨env, loc, σ'', live⟩ hj ⟨h8, h59, h60, h61, rfl, hs⟩
      obtain ⟨x, hx, hd, hmx⟩ := drop_cons hj
      have := Tm.sizes_mem hmx
      have h1 := Tm.counts_take hx
      have h2 := Tm.counts_take_le l (j + 1)
      have h3 := Tm.counts_le l
      rw [hd, Tm.oks_cons] at hs
      simp [h8, h59, h60, h61, hx]
      refine opV_call (ih x hmx (by omega) _) (by simp) ?_
      cases hxy : x.ok with
      | false => rw [hxy] at hs; simp [hs, hxy, Tm.nodes]
      | true =>
        rw [hxy] at hs
        simp [hxy, Tm.nodes]
        rw [wrap_id (by omega) (by omega)]
        refine ⟨?_, by simp, by simp, by simp, rfl, by simpa using hs⟩
        simp [h1]
        omega
    · rintro ⟨env, loc, σ'', live⟩ ⟨h8, h59, h60, h61, rfl, hs⟩
      rw [List.drop_length] at hs
      rw [List.take_length] at h8
      simp [h8, hs, hh, Tm.nodes]
end Go.Proofs.YtnpgbkldpdogjaaGreatDoor.V

set_option maxRecDepth 100000
namespace Go.Proofs.YtnpgbkldpdogjaaGreatDoor.V
open Go Go.Proofs
@[simp] theorem enc_app_take4 (t : Ty) (l : List Cell) : (enc t ++ l).take 4 = enc t ++ l.take 2 := by rw [enc_eq]; try rfl
def r179 (k : Int) (t : Ty) (m : List Tm) (l : List Fm) (σ : List Frm) : St → Prop
  | ⟨env, loc, σ', _⟩ => ∃ a b ty, fmArity k = some (a, b, ty) ∧ env 1 = .one (.box σ.length 1 0 0) ∧ env 3 = .one (.int .i64 (a : Nat)) ∧ env 4 = .one (.int .i64 (b : Nat)) ∧ env 5 = .one (.bool ty) ∧ loc 1 = [encF (.mk k t m l)] ∧ σ' = σ
theorem c141 (f : Fm) (hsz : f.size ≤ 1099511627776) (σ : List Frm) : CallsV cfg 141 [.agg (encF f)] σ (.val (.one (.bool (Fm.head f.kind f.type f.terms.length f.args.length)))) σ := by
  obtain ⟨k, t, m, l⟩ := f
  simp at hsz
  refine w141 (by simp) ?_
  rw [s141]
  simp [-wpP_block]
  refine cut (r179 k t m l σ) ?_ ?_
  · have hcase : k = 1 ∨ k = 2 ∨ k = 3 ∨ k = 4 ∨ k = 5 ∨ k = 6 ∨ k = 7 ∨ (k ≠ 1 ∧ k ≠ 2 ∧ k ≠ 3 ∧ k ≠ 4 ∧ k ≠ 5 ∧ k ≠ 6 ∧ k ≠ 7) := by omega
    rcases hcase with rfl | rfl | rfl | rfl | rfl | rfl | rfl | ⟨h1, h2, h3, h4, h5, h6, h7⟩
    · simp; exact ⟨2, 0, false, by simp [fmArity], by simp, by simp, by simp, by simp, by simp, rfl⟩
    · simp; exact ⟨0, 2, false, by simp [fmArity], by simp, by simp, by simp, by simp, by simp, rfl⟩
    · simp; exact ⟨0, 2, false, by simp [fmArity], by simp, by simp, by simp, by simp, by simp, rfl⟩
    · simp; exact ⟨0, 1, true, by simp [fmArity], by simp, by simp, by simp, by simp, by simp, rfl⟩
    · simp; exact ⟨0, 1, true, by simp [fmArity], by simp, by simp, by simp, by simp, by simp, rfl⟩
    · simp; exact ⟨0, 1, true, by simp [fmArity], by simp, by simp, by simp, by simp, by simp, rfl⟩
    · simp; exact ⟨0, 1, true, by simp [fmArity], by simp, by simp, by simp, by simp, by simp, rfl⟩
    · have hn : fmArity k = none := by simp [fmArity, h1, h2, h3, h4, h5, h6, h7]
      simp [h1, h2, h3, h4, h5, h6, h7, Fm.head, hn]
  · rintro ⟨env, loc, σ', live⟩ ⟨a, b, ty, ha, e1, e3, e4, e5, h1, rfl⟩
    have hh : Fm.head k t m.length l.length = ((if ty = true then t.check == 0 else t.none) && (m.length == a && l.length == b)) := by simp [Fm.head, ha]
    have fin : ∀ b1 : Bool, (if ty = true then t.check == 0 else t.none) = b1 → (Fm.head k t m.length l.length = (b1 && (m.length == a && l.length == b))) := fun b1 h => by rw [hh, h]
    cases ty with
    | true =>
      simp [e1, e5, h1]
      refine opV_call (c144 t (by omega) _) (by simp) ?_
      by_cases hc : t.check = 0
      · have hf := fin true (by simp [hc])
        by_cases hm : a = m.length
        · subst hm
          by_cases hl : b = l.length
          · subst hl
            simp [hc, e1, e3, e4, h1, hf]
          · have hl' : ¬ l.length = b := fun h => hl h.symm
            have hl2 : ¬ (l.length : Int) = b := by omega
            have hl3 : (l.length == b) = false := by simpa using hl'
            simp [hc, e1, e3, e4, h1, hf, hl3, len_ne hl2]
        · have hm' : ¬ m.length = a := fun h => hm h.symm
          have hm2 : ¬ (m.length : Int) = a := by omega
          have hm3 : (m.length == a) = false := by simpa using hm'
          simp [hc, e1, e3, e4, h1, hf, hm3, len_ne hm2]
      · have hf := fin false (by simp [hc])
        simp [hc, hf]
    | false =>
      simp [e1, e5, h1]
      refine opV_call (c145 t _) (by simp) ?_
      cases hc : t.none with
      | true =>
        have hf := fin true (by simp [hc])
        by_cases hm : a = m.length
        · subst hm
          by_cases hl : b = l.length
          · subst hl
            simp [hc, e1, e3, e4, h1, hf]
          · have hl' : ¬ l.length = b := fun h => hl h.symm
            have hl2 : ¬ (l.length : Int) = b := by omega
            have hl3 : (l.length == b) = false := by simpa using hl'
            simp [hc, e1, e3, e4, h1, hf, hl3, len_ne hl2]
        · have hm' : ¬ m.length = a := fun h => hm h.symm
          have hm2 : ¬ (m.length : Int) = a := by omega
          have hm3 : (m.length == a) = false := by simpa using hm'
          simp [hc, e1, e3, e4, h1, hf, hm3, len_ne hm2]
      | false =>
        have hf := fin false (by simp [hc])
        simp [hc, hf]
def Fm.nodes (f : Fm) : PV := .tup [.one (.int .i64 (if f.ok = true then (f.count : Int) else 0)), .one (.bool f.ok)]
def i120a (f : Fm) (m : List Tm) (σ : List Frm) (j : Nat) : St → Prop
  | ⟨env, loc, σ', _⟩ => env 1 = .one (.box σ.length 1 0 0) ∧ env 4 = .one (.int .i64 ((1 + Tm.counts (m.take j) : Nat) : Int)) ∧ env 17 = .one (.slice .no 5 (m.map encT)) ∧ env 18 = .one (.int .i64 m.length) ∧ env 19 = .one (.int .i64 j) ∧ loc 1 = [encF f] ∧ σ' = σ ∧ Tm.oks m = Tm.oks (m.drop j)
def i120b (n : Nat) (l : List Fm) (σ : List Frm) (j : Nat) : St → Prop
  | ⟨env, _, σ', _⟩ => env 4 = .one (.int .i64 ((n + Fm.counts (l.take j) : Nat) : Int)) ∧ env 35 = .one (.slice .no 5 (l.map encF)) ∧ env 36 = .one (.int .i64 l.length) ∧ env 37 = .one (.int .i64 j) ∧ σ' = σ ∧ Fm.oks l = Fm.oks (l.drop j)
theorem c120 (f : Fm) : f.size ≤ 1099511627776 → ∀ (σ : List Frm), CallsV cfg 120 [.agg (encF f)] σ (.val f.nodes) σ := by
  induction f using Fm.ind with
  | _ k t m l ih =>
  intro hsz σ
  have hhead := c141 (.mk k t m l) hsz
  simp at hsz hhead
  have hlm := Tm.length_le m
  have hll := Fm.length_le l
  have hcm := Tm.counts_le m
  have hcl := Fm.counts_le l
  refine w120 (by simp [Fm.nodes]) ?_
  rw [s120]
  simp
  refine opV_call (hhead _) (by simp) ?_
  cases hh : Fm.head k t m.length l.length with
  | false => simp [Fm.nodes, hh]
  | true =>
    simp
    refine wpP_range m.length (i120a (.mk k t m l) m σ) (by omega) ⟨by simp, by simp, by simp, by simp, by simp, by simp, rfl, by simp⟩ ?_ ?_ (hend := ?_)
    · rintro j ⟨env, loc, σ'', live⟩ ⟨h1, h4, h17, h18, h19, hl1, rfl, hs⟩
      exact ⟨h19, h18⟩
    · rintro j ⟨env, loc, σ'', live⟩ hj ⟨h1, h4, h17, h18, h19, hl1, rfl, hs⟩
      obtain ⟨x, hx, hd, hmx⟩ := drop_cons hj
      have := Tm.sizes_mem hmx
      have e1 := Tm.counts_take hx
      have e2 := Tm.counts_take_le m (j + 1)
      rw [hd, Tm.oks_cons] at hs
      simp [h1, h4, h17, h18, h19, hx]
      refine opV_call (c121 x (by omega) _) (by simp) ?_
      cases hxy : x.ok with
      | false => rw [hxy] at hs; simp [hs, hxy, Tm.nodes, Fm.nodes]
      | true =>
        rw [hxy] at hs
        simp [hxy, Tm.nodes]
        rw [wrap_id (by omega) (by omega)]
        refine ⟨by simp, ?_, by simp, by simp, by simp, by simp [hl1], rfl, by simpa using hs⟩
        simp [e1]
        omega
    · rintro ⟨env, loc, σ'', live⟩ ⟨h1, h4, h17, h18, h19, hl1, rfl, hs⟩
      rw [List.drop_length] at hs
      rw [List.take_length] at h4
      simp [h1, h4, hl1]
      refine wpP_range l.length (i120b (1 + Tm.counts m) l σ'') (by omega) ⟨by simp, by simp, by simp, by simp, rfl, by simp⟩ ?_ ?_ (hend := ?_)
      · rintro j ⟨env, loc, σ3, live⟩ ⟨h4, h35, h36, h37, rfl, hs2⟩
        exact ⟨h37, h36⟩
      · rintro j ⟨env, loc, σ3, live⟩ hj ⟨h4, h35, h36, h37, rfl, hs2⟩
        obtain ⟨x, hx, hd, hmx⟩ := drop_cons hj
        have := Fm.sizes_mem hmx
        have e1 := Fm.counts_take hx
        have e2 := Fm.counts_take_le l (j + 1)
        rw [hd, Fm.oks_cons] at hs2
        simp [h4, h35, h36, h37, hx]
        refine opV_call (ih x hmx (by omega) _) (by simp) ?_
        cases hxy : x.ok with
        | false => rw [hxy] at hs2; simp [hs2, hxy, Fm.nodes]
        | true =>
          rw [hxy] at hs2
          simp [hxy, Fm.nodes]
          rw [wrap_id (by omega) (by omega)]
          refine ⟨?_, by simp, by simp, by simp, rfl, by simpa using hs2⟩
          simp [e1]
          omega
      · rintro ⟨env, loc, σ3, live⟩ ⟨h4, h35, h36, h37, rfl, hs2⟩
        rw [List.drop_length] at hs2
        rw [List.take_length] at h4
        simp [h4, hs, hs2, hh, Fm.nodes]
theorem c85 (f : Fm) (hsz : f.size ≤ 1099511627776) (σ : List Frm) : CallsV cfg 85 [.agg (encF f)] σ (.val (.tup [.one (.int .i64 (if f.check = 0 then (f.count : Int) else 0)), .one (.int .i64 f.check)])) σ := by
  refine w85 (by simp) ?_
  rw [s85]
  simp
  refine opV_call (c120 f hsz _) (by simp) ?_
  unfold Fm.check
  cases hok : f.ok with
  | false => simp [Fm.nodes, hok]
  | true =>
    by_cases h : f.count ≤ 4096
    · have h' : ¬ ((4096 : Int) < f.count) := by omega
      simp [Fm.nodes, hok, h, h']
    · have h' : ((4096 : Int) < f.count) := by omega
      simp [Fm.nodes, hok, h, h']
theorem c36 (f : Fm) (hsz : f.size ≤ 1099511627776) (σ : List Frm) : CallsV cfg 36 [.agg (encF f)] σ (.val (.one (.int .i64 f.check))) σ := by
  refine w36 (by simp) ?_
  rw [s36]
  simp
  refine opV_call (c85 f hsz _) (by simp) ?_
  simp
theorem c153 (t : Ty) (hsz : t.size ≤ 1099511627776) (σ : List Frm) : CallsV cfg 153 [.agg (enc t)] σ (.val (.one (.int .i64 t.check))) σ := by
  refine w153 (by simp) ?_
  rw [s153]
  simp
  refine opV_call (c144 t hsz _) (by simp) ?_
  simp
end Go.Proofs.YtnpgbkldpdogjaaGreatDoor.V

set_option maxRecDepth 100000
namespace Go.Proofs.YtnpgbkldpdogjaaGreatDoor.V
open Go Go.Proofs
def enc3 (r : Ty × Bool × Int) : PV := .tup [.agg (enc r.1), .one (.bool r.2.1), .one (.int .i64 r.2.2)]
@[simp] theorem enc3_er (r : Ty × Bool × Int) : erV (enc3 r) = enc3 r := by simp [enc3]
theorem c154 (k : Int) (a b : Ty) (hsz : a.size + b.size ≤ 1099511627770) (σ : List Frm) : CallsV cfg 154 [.one (.int .i64 k), .agg (enc a), .agg (enc b)] σ (.val (enc3 (join k a b))) σ := by
  refine w154 (by simp) ?_
  rw [s154]
  simp
  refine opV_call (c153 (.mk k [a, b]) (by simp; omega) _) (by simp) ?_
  by_cases h : (Ty.mk k [a, b]).check = 0
  · simp [h, join, enc3]
  · simp [h, bne, join, enc3, Ty.zero]
theorem c134 (f : Fm) : f.ok = true → f.size ≤ 1099511627770 → ∀ (σ : List Frm), CallsV cfg 134 [.agg (encF f)] σ (.val (enc3 f.cof)) σ := by
  induction f using Fm.ind with
  | _ k t m l ih =>
  intro hok hsz σ
  simp at hsz
  refine w134 (by simp) ?_
  rw [s134, Fm.cof_mk]
  rcases Fm.shape hok with ⟨rfl, rfl⟩ | ⟨hk, y, x, rfl, hy, hx⟩ | ⟨hk, ht, x, rfl, hx⟩
  · simp [ofStep, enc3, Ty.zero]
  · have hxs := Fm.cof_size x hx
    have hys := Fm.cof_size y hy
    have hk1 : ¬ k = 1 := by omega
    simp at hsz
    simp [hk1, wrap_id]
    refine opV_call (ih x (by simp) hx (by omega) _) (by simp) ?_
    by_cases hxe : x.cof.2.2 = 0
    rotate_left
    · simp [enc3, hxe, bne, ofStep, hk1, Ty.zero]
    rcases hk with rfl | rfl
    · simp [enc3, hxe, bne]
      refine opV_call (ih y (by simp) hy (by omega) _) (by simp) ?_
      by_cases hye : y.cof.2.2 = 0
      rotate_left
      · simp [enc3, hxe, hye, bne, ofStep]
      cases hyb : y.cof.2.1 with
      | false => simp [enc3, hxe, hye, hyb, bne, ofStep]
      | true =>
        cases hxb : x.cof.2.1 with
        | false => simp [enc3, hxe, hye, hyb, hxb, bne, ofStep]
        | true =>
          simp [enc3, hxe, hye, hyb, hxb, bne]
          refine opV_call (c154 3 y.cof.1 x.cof.1 (by omega) _) (by simp) ?_
          simp [enc3, hxe, hye, hyb, hxb, ofStep]
    · cases hxb : x.cof.2.1 with
      | false => simp [enc3, hxe, hxb, bne, ofStep, Ty.zero]
      | true =>
        simp [enc3, hxe, hxb, bne]
        refine opV_call (ih y (by simp) hy (by omega) _) (by simp) ?_
        by_cases hye : y.cof.2.2 = 0
        rotate_left
        · simp [enc3, hxe, hxb, hye, bne, ofStep]
        cases hyb : y.cof.2.1 with
        | false => simp [enc3, hxe, hxb, hye, hyb, bne, ofStep]
        | true =>
          simp [enc3, hxe, hye, hyb, hxb, bne]
          refine opV_call (c154 4 y.cof.1 x.cof.1 (by omega) _) (by simp) ?_
          simp [enc3, hxe, hye, hyb, hxb, ofStep]
  · have hxs := Fm.cof_size x hx
    have hts := Ty.check_size ht
    have hk1 : ¬ k = 1 := by omega
    simp at hsz
    simp [hk1, wrap_id]
    refine opV_call (ih x (by simp) hx (by omega) _) (by simp) ?_
    by_cases hxe : x.cof.2.2 = 0
    rotate_left
    · simp [enc3, hxe, bne, ofStep, hk1, Ty.zero]
    cases hxb : x.cof.2.1 with
    | false => rcases hk with rfl | rfl | rfl | rfl <;> simp [enc3, hxe, hxb, bne, ofStep, Ty.zero]
    | true =>
      rcases hk with rfl | rfl | rfl | rfl
      · simp [enc3, hxe, hxb, bne]
        refine opV_call (c154 4 t x.cof.1 (by omega) _) (by simp) ?_
        simp [enc3, hxe, hxb, ofStep]
      · simp [enc3, hxe, hxb, bne]
        refine opV_call (c154 3 t x.cof.1 (by omega) _) (by simp) ?_
        simp [enc3, hxe, hxb, ofStep]
      · simp [enc3, hxe, hxb, bne, ofStep]
      · simp [enc3, hxe, hxb, bne, ofStep]
def enc2 (r : Ty × Int) : PV := .tup [.agg (enc r.1), .one (.int .i64 r.2)]
@[simp] theorem enc2_er (r : Ty × Int) : erV (enc2 r) = enc2 r := by simp [enc2]
theorem c123 (f : Fm) (hsz : f.size ≤ 1099511627770) (σ : List Frm) : CallsV cfg 123 [.agg (encF f)] σ (.val (enc2 (ctype f))) σ := by
  refine w123 (by simp) ?_
  rw [s123]
  simp
  refine opV_call (c36 f (by omega) _) (by simp) ?_
  by_cases h : f.check = 0
  rotate_left
  · simp [h, bne, ctype, enc2, Ty.zero]
  simp [h, bne]
  refine opV_call (c134 f (Fm.check_ok h) hsz _) (by simp) ?_
  by_cases he : f.cof.2.2 = 0
  rotate_left
  · simp [h, bne, ctype, enc2, enc3, he, Ty.zero]
  cases hb : f.cof.2.1 with
  | true => simp [h, bne, ctype, enc2, enc3, he, hb]
  | false => simp [h, bne, ctype, enc2, enc3, he, hb]
end Go.Proofs.YtnpgbkldpdogjaaGreatDoor.V

set_option maxRecDepth 100000
namespace Go.Proofs.YtnpgbkldpdogjaaGreatDoor.V
open Go Go.Proofs
def i133 (l : List Ty) (σ : List Frm) (j : Nat) : St → Prop
  | ⟨env, _, σ', _⟩ => env 9 = .one (.slice .no 2 (l.map enc)) ∧ env 10 = .one (.int .i64 l.length) ∧ env 11 = .one (.int .i64 j) ∧ σ' = σ ∧ checks l = checks (l.drop j)
theorem c133 (l : List Ty) (hsz : Ty.sizes l ≤ 1099511627776) (σ : List Frm) : CallsV cfg 133 [.one (.slice .no 2 (l.map enc))] σ (.val (.one (.int .i64 (ctxCheck l)))) σ := by
  have hlen := Ty.length_le l
  refine w133 (by simp) ?_
  rw [s133]
  by_cases h : 16 < l.length
  · have h' : (16 : Int) < l.length := by omega
    simp [h', ctxCheck, h]
  have h' : ¬ (16 : Int) < l.length := by omega
  simp [h', ctxCheck, h]
  refine wpP_range l.length (i133 l σ) (by omega) ⟨by simp, by simp, by simp, rfl, by simp⟩ ?_ ?_ (hend := ?_)
  · rintro j ⟨env, loc, σ', live⟩ ⟨h9, h10, h11, rfl, hs⟩
    exact ⟨h11, h10⟩
  · rintro j ⟨env, loc, σ', live⟩ hj ⟨h9, h10, h11, rfl, hs⟩
    obtain ⟨x, hx, hd, hmx⟩ := drop_cons hj
    have := Ty.sizes_mem hmx
    rw [hd, checks] at hs
    simp [h9, h10, h11, hx]
    refine opV_call (c153 x (by omega) _) (by simp) ?_
    by_cases hc : x.check = 0
    · rw [if_pos hc] at hs
      simp [hc, bne]
      exact ⟨by simp, by simp, by simp, rfl, hs⟩
    · rw [if_neg hc] at hs
      simp [hc, bne, hs]
  · rintro ⟨env, loc, σ', live⟩ ⟨h9, h10, h11, rfl, hs⟩
    rw [List.drop_length] at hs
    simp [hs, checks]
def ownLt (live : Live) : Own → Prop
  | .tip k => k < live.nx
  | _ => True
def ownNe : Own → Own → Prop
  | .tip k, .tip k' => k ≠ k'
  | _, _ => True
theorem own_keep {live : Live} {a b : Own} (h1 : okOwn live a) (h2 : ownLt live a) (h3 : ownNe a b) : okOwn (grownLive live b) a ∧ ownLt (grownLive live b) a ∧ ownNe a (.tip live.nx) := by
  cases a with
  | no => exact h1.elim
  | full => exact ⟨trivial, trivial, trivial⟩
  | tip k =>
    have hk : k < live.nx := h2
    refine ⟨?_, Nat.lt_succ_of_lt hk, Nat.ne_of_lt hk⟩
    show upd (killOwn live.on b) live.nx true k = true
    rw [upd_ne _ _ _ _ (Nat.ne_of_lt hk)]
    cases b with
    | tip k' =>
      show upd live.on k' false k = true
      rw [upd_ne _ _ _ _ h3]
      exact h1
    | _ => exact h1
theorem own_new {live : Live} {b : Own} : okOwn (grownLive live b) (.tip live.nx) ∧ ownLt (grownLive live b) (.tip live.nx) := ⟨grown_on, Nat.lt_succ_self _⟩
theorem ownNe.symm {a b : Own} (h : ownNe a b) : ownNe b a := by
  cases a <;> cases b <;> first
    | trivial
    | exact fun e => h e.symm
@[simp] theorem enc_map_er (l : List Ty) : List.map ((fun e => List.map erC e) ∘ enc) l = l.map enc := List.map_congr_left fun x _ => enc_er x
@[simp] theorem encI_append (l m : List Int) : encI (l ++ m) = encI l ++ encI m := by simp [encI]
@[simp] theorem encI_one (n : Int) : encI [n] = [[.int .i64 n]] := rfl
@[simp] theorem encI_nil : encI [] = [] := rfl
@[simp] theorem encI_flat (l : List Int) : flatLL (encI l) = true := flatLL_of fun e he => by
  simp only [encI, List.mem_map] at he
  obtain ⟨n, _, rfl⟩ := he
  simp
def encS (ts : List Ty) (hs : List Fm) : List Cell := [.slice .no 2 (ts.map enc), .slice .no 5 (hs.map encF)]
def encL (r : List Ty × List Int × Int) : PV := .tup [.one (.slice .no 2 (r.1.map enc)), .one (.slice .no 1 (encI r.2.1)), .one (.int .i64 r.2.2)]
@[simp] theorem encL_er (r : List Ty × List Int × Int) : erV (encL r) = encL r := by simp [encL]
def i109 (ts : List Ty) (hs : List Fm) (σ : List Frm) (j : Nat) : St → Prop
  | ⟨env, _, σ', live⟩ => ∃ us ps o2 o3, env 2 = .one (.slice o2 2 (us.map enc)) ∧ env 3 = .one (.slice o3 1 (encI ps)) ∧ env 25 = .one (.slice .no 5 (hs.map encF)) ∧ env 26 = .one (.int .i64 hs.length) ∧ env 27 = .one (.int .i64 j) ∧ σ' = σ ∧
    look ts [] hs = look us ps (hs.drop j) ∧ us.length ≤ 16 + j ∧ ps.length ≤ j ∧ okOwn live o2 ∧ okOwn live o3 ∧ ownLt live o2 ∧ ownLt live o3 ∧ ownNe o2 o3
theorem c109 (ts : List Ty) (hs : List Fm) (hts : Ty.sizes ts ≤ 1099511627776) (hhs : Fm.sizes hs ≤ 1099511627770) (σ : List Frm) : CallsV cfg 109 [.agg (encS ts hs)] σ (.val (encL (looks ts hs))) σ := by
  have hlen := Fm.length_le hs
  refine w109 (by simp) ?_
  rw [s109]
  simp [encS]
  refine opV_call (c133 ts hts _) (by simp) ?_
  by_cases hc : ctxCheck ts = 0
  rotate_left
  · simp [hc, bne, looks, encL]
  have hl16 := ctx_len hc
  by_cases hh : 16 < hs.length
  · have hh' : (16 : Int) < hs.length := by omega
    simp [hc, bne, looks, encL, hh, hh']
  have hh' : ¬ (16 : Int) < hs.length := by omega
  simp [hc, bne, looks, hh, hh']
  refine ⟨by omega, by omega, ?_⟩
  refine wpP_range hs.length (i109 ts hs σ) (by omega) ⟨ts, [], .tip 0, .full, by simp, by simp, by simp, by simp, by simp, rfl, by simp, by omega, by simp, by simp [okOwn, grownLive], by simp, by simp [ownLt, grownLive], trivial, trivial⟩ ?_ ?_ (hend := ?_)
  · rintro j ⟨env, loc, σ', live⟩ ⟨us, ps, o2, o3, h2, h3, h25, h26, h27, rfl, hs, hu, hp, k2, k3, l2, l3, hne⟩
    exact ⟨h27, h26⟩
  · rintro j ⟨env, loc, σ', live⟩ hj ⟨us, ps, o2, o3, h2, h3, h25, h26, h27, rfl, hl, hu, hp, k2, k3, l2, l3, hne⟩
    obtain ⟨x, hx, hd, hmx⟩ := drop_cons hj
    have := Fm.sizes_mem hmx
    rw [hd, look] at hl
    simp [h2, h3, h25, h26, h27, hx]
    refine opV_call (c36 x (by omega) _) (by simp) ?_
    by_cases hxc : x.check = 0
    rotate_left
    · rw [if_neg hxc] at hl
      simp [hxc, bne, encL, hl]
    rw [if_pos hxc] at hl
    simp [hxc, bne]
    refine opV_call (c134 x (Fm.check_ok hxc) (by omega) _) (by simp) ?_
    by_cases hxe : x.cof.2.2 = 0
    rotate_left
    · rw [if_neg hxe] at hl
      simp [hxe, enc3, encL, hl]
    rw [if_pos hxe] at hl
    cases hxb : x.cof.2.1 with
    | true =>
      rw [hxb, if_pos rfl] at hl
      obtain ⟨a1, a2, a3⟩ := own_keep k2 l2 hne
      obtain ⟨b1, b2⟩ := own_new (live := live) (b := o3)
      obtain ⟨c1, c2, c3⟩ := own_keep b1 b2 a3.symm
      obtain ⟨n1, n2⟩ := own_new (live := grownLive live o3) (b := o2)
      simp [hxe, hxb, enc3, k3]
      exact ⟨by omega, by omega, a1, by omega, by omega, us ++ [x.cof.1], ps ++ [(us.length : Int)], _, _, by simp, by simp, by simp, by simp, by simp, rfl, hl, by simp; omega, by simp; omega, n1, c1, n2, c2, c3.symm⟩
    | false =>
      rw [hxb, if_neg (by simp)] at hl
      obtain ⟨a1, a2, a3⟩ := own_keep k2 l2 hne
      obtain ⟨b1, b2⟩ := own_new (live := live) (b := o3)
      simp [hxe, hxb, enc3, k3]
      exact ⟨by omega, by omega, us, ps ++ [-1], _, _, by simp, by simp, by simp, by simp, by simp, rfl, hl, by omega, by simp; omega, a1, b1, a2, b2, a3⟩
  · rintro ⟨env, loc, σ', live⟩ ⟨us, ps, o2, o3, h2, h3, h25, h26, h27, rfl, hl, hu, hp, k2, k3, l2, l3, hne⟩
    rw [List.drop_length, look] at hl
    simp [h2, h3, hl, encL]
theorem c69 (ts : List Ty) (hs : List Fm) (hts : Ty.sizes ts ≤ 1099511627776) (hhs : Fm.sizes hs ≤ 1099511627770) (σ : List Frm) : CallsV cfg 69 [.agg (encS ts hs)] σ (.val (.tup [.one (.slice .no 2 ((looks ts hs).1.map enc)), .one (.int .i64 (looks ts hs).2.2)])) σ := by
  refine w69 (by simp) ?_
  rw [s69]
  simp [encS]
  refine opV_call (c109 ts hs hts hhs _) (by simp [encS]) ?_
  simp [encL]
theorem c70 (ts : List Ty) (hs : List Fm) (hts : Ty.sizes ts ≤ 1099511627776) (hhs : Fm.sizes hs ≤ 1099511627770) (σ : List Frm) : CallsV cfg 70 [.agg (encS ts hs)] σ (.val (.tup [.one (.slice .no 1 (encI (looks ts hs).2.1)), .one (.int .i64 (looks ts hs).2.2)])) σ := by
  refine w70 (by simp) ?_
  rw [s70]
  simp [encS]
  refine opV_call (c109 ts hs hts hhs _) (by simp [encS]) ?_
  simp [encL]
end Go.Proofs.YtnpgbkldpdogjaaGreatDoor.V

namespace Go.Proofs.YtnpgbkldpdogjaaGreatDoor.V
open Go
def Ty.nat : Ty := .mk 1 []
def Ty.list : Ty := .mk 2 []
def Ty.unit : Ty := .mk 5 []
def Ty.pair (a b : Ty) : Ty := .mk 3 [a, b]
def Ty.fn (a b : Ty) : Ty := .mk 4 [a, b]
def Tm.node (k : Int) (l : List Tm) : Tm := .mk k 0 .zero l
def Tm.tnode (k : Int) (s : Ty) (l : List Tm) : Tm := .mk k 0 s l
def Tm.var (i : Int) : Tm := .mk 1 i .zero []
def Tm.zeroT : Tm := .mk 0 0 .zero []
def Fm.zeroF : Fm := .mk 0 .zero [] []
def Fm.eq (s t : Tm) : Fm := .mk 1 .zero [s, t] []
def Fm.two (k : Int) (a b : Fm) : Fm := .mk k .zero [] [a, b]
def Fm.q (k : Int) (s : Ty) (f : Fm) : Fm := .mk k s [] [f]
def Fm.bad : Fm := .eq (.node 4 []) (.node 5 [.node 4 []])
def modI (n k : Int) : Int := (n.tmod k + k).tmod k
def next (n : Int) : List Int → Int × List Int
  | [] => (0, [])
  | x :: r => if n < 1 then (0, x :: r) else (modI x n, r)
def mkType (d : Nat) (r : List Int) : Ty × List Int :=
  let c := next 7 r
  if c.1 = 3 then (.list, c.2) else if c.1 = 4 then (.unit, c.2) else
  match d with
  | 0 => (.nat, c.2)
  | d + 1 =>
    if c.1 = 5 then let a := mkType d c.2; let b := mkType d a.2; (.pair a.1 b.1, b.2)
    else if c.1 = 6 then let a := mkType d c.2; let b := mkType d a.2; (.fn a.1 b.1, b.2)
    else (.nat, c.2)
def mkTypes (d : Nat) : Nat → List Int → List Ty × List Int
  | 0, r => ([], r)
  | k + 1, r => let a := mkType d r; let b := mkTypes d k a.2; (a.1 :: b.1, b.2)
def mkContext (r : List Int) : List Ty × List Int := let c := next 4 r; mkTypes 1 c.1.toNat c.2
def Tm.num : Nat → Tm
  | 0 => .node 4 []
  | n + 1 => .node 5 [Tm.num n]
def Tm.lamN (t : Tm) : Tm := .tnode 2 .nat [t]
def Tm.recN (b f n : Tm) : Tm := .tnode 6 .nat [b, f, n]
def Tm.app (f a : Tm) : Tm := .node 3 [f, a]
def Tm.app2 (f a b : Tm) : Tm := .app (.app f a) b
def Tm.pred : Tm := .lamN (.recN (.node 4 []) (.lamN (.lamN (.var 1))) (.var 0))
def Tm.plus : Tm := .lamN (.lamN (.recN (.var 1) (.lamN (.lamN (.node 5 [.var 0]))) (.var 0)))
def Tm.sub : Tm := .lamN (.lamN (.recN (.var 1) (.lamN (.lamN (.app .pred (.var 0)))) (.var 0)))
def varsFrom (t : Ty) : Nat → List Ty → List Int
  | _, [] => []
  | i, x :: l => if Ty.same x t = true then (i : Int) :: varsFrom t (i + 1) l else varsFrom t (i + 1) l
def vars (g : List Ty) (t : Ty) : List Int := varsFrom t 0 g.reverse
def funFrom (t : Ty) : Nat → List Ty → Option (Int × Ty)
  | _, [] => none
  | i, .mk k [a, b] :: l => if k = 4 ∧ Ty.same b t = true then some ((i : Int), a) else funFrom t (i + 1) l
  | i, _ :: l => funFrom t (i + 1) l
def pickVar (l : List Int) (r : List Int) : Option Int × List Int :=
  if l = [] then (none, r) else
  let c := next 3 r
  if 0 < c.1 then let e := next l.length c.2; (some (l.getD e.1.toNat 0), e.2) else (none, c.2)
def mkTerm0 (g : List Ty) (t : Ty) (r : List Int) : Tm × List Int :=
  match pickVar (vars g t) r with
  | (some i, r) => (.var i, r)
  | (none, r) =>
    match t with
    | .mk k l =>
      if k = 1 then let c := next 3 r; (.num c.1.toNat, c.2)
      else if k = 2 then (.node 7 [], r)
      else match l with
        | [a, b] =>
          if k = 3 then let x := mkTerm0 g a r; let y := mkTerm0 g b x.2; (.node 10 [x.1, y.1], y.2)
          else if k = 4 then let x := mkTerm0 (g ++ [a]) b r; (.tnode 2 a [x.1], x.2)
          else (.node 13 [], r)
        | _ => (.node 13 [], r)
def mkPlain (F : List Ty → Ty → List Int → Tm × List Int) (g : List Ty) (t : Ty) (r : List Int) : Tm × List Int :=
  match t with
  | .mk k l =>
    if k = 1 then
      let c := next 5 r
      if c.1 = 0 then let x := F g t c.2; (.node 5 [x.1], x.2)
      else if c.1 = 1 then let x := F g t c.2; let y := F g t x.2; (.app2 .plus x.1 y.1, y.2)
      else if c.1 = 2 then let x := F g t c.2; let y := F g t x.2; (.app2 .sub x.1 y.1, y.2)
      else let e := next 3 c.2; (.num e.1.toNat, e.2)
    else if k = 2 then
      let c := next 2 r
      if c.1 = 0 then let x := F g .nat c.2; let y := F g t x.2; (.node 8 [x.1, y.1], y.2)
      else (.node 7 [], c.2)
    else match l with
      | [a, b] =>
        if k = 3 then let x := F g a r; let y := F g b x.2; (.node 10 [x.1, y.1], y.2)
        else if k = 4 then let x := F (g ++ [a]) b r; (.tnode 2 a [x.1], x.2)
        else (.node 13 [], r)
      | _ => (.node 13 [], r)
def mkTerm : Nat → List Ty → Ty → List Int → Tm × List Int
  | 0, g, t, r => mkTerm0 g t r
  | d + 1, g, t, r =>
    match pickVar (vars g t) r with
    | (some i, r) => (.var i, r)
    | (none, r) =>
      let c := next 8 r
      if c.1 = 0 then
        let s := mkType 0 c.2
        let x := mkTerm d (g ++ [s.1]) t s.2
        let y := mkTerm d g s.1 x.2
        (.node 3 [.tnode 2 s.1 [x.1], y.1], y.2)
      else if c.1 = 1 then
        let s := mkType 0 c.2
        let x := mkTerm d g t s.2
        let y := mkTerm d g s.1 x.2
        (.node 11 [.node 10 [x.1, y.1]], y.2)
      else if c.1 = 2 then
        let x := mkTerm d (g ++ [.nat, t]) t c.2
        let y := mkTerm d g t x.2
        let e := next 3 y.2
        (.tnode 6 t [y.1, .tnode 2 .nat [.tnode 2 t [x.1]], .num e.1.toNat], e.2)
      else if c.1 = 3 then
        let x := mkTerm d (g ++ [.nat, .list, t]) t c.2
        let y := mkTerm d g t x.2
        let z := mkTerm d g .list y.2
        (.tnode 9 t [y.1, .tnode 2 .nat [.tnode 2 .list [.tnode 2 t [x.1]]], z.1], z.2)
      else if c.1 = 4 then
        let s := mkType 0 c.2
        let x := mkTerm d g s.1 s.2
        let y := mkTerm d g t x.2
        (.node 12 [.node 10 [x.1, y.1]], y.2)
      else if c.1 = 5 then
        match funFrom t 0 g.reverse with
        | some (i, a) => let x := mkTerm d g a c.2; (.node 3 [.var i, x.1], x.2)
        | none => mkPlain (mkTerm d) g t c.2
      else mkPlain (mkTerm d) g t c.2
def mkFormula : Nat → List Ty → List Int → Fm × List Int
  | 0, g, r => let x := mkTerm 1 g .nat r; let y := mkTerm 1 g .nat x.2; (.eq x.1 y.1, y.2)
  | d + 1, g, r =>
    let c := next 9 r
    if c.1 = 0 then let x := mkFormula d g c.2; let y := mkFormula d g x.2; (.two 2 x.1 y.1, y.2)
    else if c.1 = 1 ∨ c.1 = 2 then let x := mkFormula d g c.2; let y := mkFormula d g x.2; (.two 3 x.1 y.1, y.2)
    else if c.1 = 3 ∨ c.1 = 4 then let s := mkType 1 c.2; let x := mkFormula d (g ++ [s.1]) s.2; (.q 4 s.1 x.1, x.2)
    else if c.1 = 5 then let s := mkType 1 c.2; let x := mkFormula d (g ++ [s.1]) s.2; (.q 5 s.1 x.1, x.2)
    else if c.1 = 6 then let s := mkType 0 c.2; let e := next 2 s.2; let x := mkFormula d (g ++ [s.1]) e.2; (.q (6 + e.1) s.1 x.1, x.2)
    else let x := mkTerm 1 g .nat c.2; let y := mkTerm 1 g .nat x.2; (.eq x.1 y.1, y.2)
def mkFormulas (d : Nat) (g : List Ty) : Nat → List Int → List Fm × List Int
  | 0, r => ([], r)
  | k + 1, r => let a := mkFormula d g r; let b := mkFormulas d g k a.2; (a.1 :: b.1, b.2)
def mkSequent (r : List Int) : (List Ty × List Fm) × List Int :=
  let g := mkContext r; let c := next 3 g.2; let b := mkFormulas 2 g.1 c.1.toNat c.2; ((g.1, b.1), b.2)
mutual
def Tm.up : Tm → Int → Int → Tm
  | .mk k i t l, fr, by' => .mk k (if k = 1 ∧ fr ≤ i then i + by' else i) t (Tm.ups l (if k = 2 then fr + 1 else fr) by')
def Tm.ups : List Tm → Int → Int → List Tm
  | [], _, _ => []
  | x :: l, fr, by' => x.up fr by' :: Tm.ups l fr by'
end
mutual
def Tm.put : Tm → Int → Int → Tm → Tm
  | .mk k i t l, at', d, s =>
    if k = 1 then if i = at' + d then s.up 0 (at' + d) else if at' + d < i then .var (i - 1) else .mk k i t l
    else .mk k i t (Tm.puts l at' (if k = 2 then d + 1 else d) s)
def Tm.puts : List Tm → Int → Int → Tm → List Tm
  | [], _, _, _ => []
  | x :: l, at', d, s => x.put at' d s :: Tm.puts l at' d s
end
mutual
def Tm.times : Tm → Int → Int
  | .mk k i _ l, at' => (if k = 1 ∧ i = at' then 1 else 0) + Tm.timess l (if k = 2 then at' + 1 else at')
def Tm.timess : List Tm → Int → Int
  | [], _ => 0
  | x :: l, at' => x.times at' + Tm.timess l at'
end
mutual
def Tm.least : Tm → Int → Bool
  | .mk _ i _ l, m => decide (i ≤ m) && Tm.leasts l m
def Tm.leasts : List Tm → Int → Bool
  | [], _ => true
  | x :: l, m => x.least m && Tm.leasts l m
end
def fmQ (k : Int) : Bool := k == 4 || k == 5 || k == 6 || k == 7
mutual
def Fm.up : Fm → Int → Int → Fm
  | .mk k t a l, fr, by' => .mk k t (Tm.ups a fr by') (Fm.ups l (if fmQ k = true then fr + 1 else fr) by')
def Fm.ups : List Fm → Int → Int → List Fm
  | [], _, _ => []
  | x :: l, fr, by' => x.up fr by' :: Fm.ups l fr by'
end
mutual
def Fm.put : Fm → Int → Int → Tm → Fm
  | .mk k t a l, at', d, s => .mk k t (Tm.puts a at' d s) (Fm.puts l at' (if fmQ k = true then d + 1 else d) s)
def Fm.puts : List Fm → Int → Int → Tm → List Fm
  | [], _, _, _ => []
  | x :: l, at', d, s => x.put at' d s :: Fm.puts l at' d s
end
mutual
def Fm.times : Fm → Int → Int
  | .mk k _ a l, at' => Tm.timess a at' + Fm.timess l (if fmQ k = true then at' + 1 else at')
def Fm.timess : List Fm → Int → Int
  | [], _ => 0
  | x :: l, at' => x.times at' + Fm.timess l at'
end
mutual
def Fm.least : Fm → Int → Bool
  | .mk _ _ a l, m => Tm.leasts a m && Fm.leasts l m
def Fm.leasts : List Fm → Int → Bool
  | [], _ => true
  | x :: l, m => x.least m && Fm.leasts l m
end
def Tm.check (t : Tm) : Int := if t.ok = true then if t.count ≤ 4096 then 0 else 4 else 2
def Fm.lift (f : Fm) (fr by' : Int) : Fm × Int := if f.check ≠ 0 then (.zeroF, f.check) else if fr < 0 ∨ 4096 < fr ∨ by' < 0 ∨ 4096 < by' ∨ f.least 536870912 = false then (.zeroF, 1) else (f.up fr by', 0)
def Fm.putIn (f : Fm) (at' : Int) (s : Tm) : Fm × Int :=
  if f.check ≠ 0 then (.zeroF, f.check) else if at' < 0 ∨ 4096 < at' then (.zeroF, 1) else if s.check ≠ 0 then (.zeroF, s.check)
  else if f.least 536870912 = false ∨ s.least 536870912 = false then (.zeroF, 1)
  else if 4096 < (f.count : Int) + f.times at' * ((s.count : Int) - 1) then (.zeroF, 4) else (f.put at' 0 s, 0)
mutual
def Fm.has : Fm → Bool
  | .mk k _ _ l => if k = 1 then false else if k = 2 then (Fm.hass l).headD false || (Fm.hass l).getD 1 false else if k = 5 then true else (Fm.hass l).getLastD false
def Fm.hass : List Fm → List Bool
  | [] => []
  | x :: l => x.has :: Fm.hass l
end
def fits (t : Ty) (e : Int) : Ty × Int := if e ≠ 0 then (.zero, e) else if t.check ≠ 0 then (.zero, t.check) else (t, 0)
def rstep (k : Int) (t : Ty) (has : Bool) (fst lst : Bool × Ty × Int) : Ty × Int :=
  if has = false then (.unit, 0)
  else if k = 2 then if fst.1 = false then lst.2 else if lst.1 = false then fst.2 else if fst.2.2 ≠ 0 then (.zero, fst.2.2) else fits (.pair fst.2.1 lst.2.1) lst.2.2
  else if k = 3 then if fst.1 = false then lst.2 else if fst.2.2 ≠ 0 then (.zero, fst.2.2) else fits (.fn fst.2.1 lst.2.1) lst.2.2
  else if k = 4 then fits (.fn t lst.2.1) lst.2.2
  else if k = 5 then if lst.1 = false then (t, 0) else fits (.pair t lst.2.1) lst.2.2
  else lst.2
mutual
def Fm.rof : Fm → Ty × Int
  | .mk k t a l => rstep k t (Fm.mk k t a l).has ((Fm.rofs l).headD (false, .zero, 0)) ((Fm.rofs l).getLastD (false, .zero, 0))
def Fm.rofs : List Fm → List (Bool × Ty × Int)
  | [] => []
  | x :: l => (x.has, x.rof) :: Fm.rofs l
end
def Fm.rtype (f : Fm) : Ty × Int := if f.check ≠ 0 then (.zero, f.check) else f.rof
end Go.Proofs.YtnpgbkldpdogjaaGreatDoor.V

namespace Go.Proofs.YtnpgbkldpdogjaaGreatDoor.V
open Go
theorem Fm.hass_eq (l : List Fm) : Fm.hass l = l.map Fm.has := by
  induction l with
  | nil => rfl
  | cons x l ih => simp only [Fm.hass, List.map_cons, ih]
theorem Fm.rofs_eq (l : List Fm) : Fm.rofs l = l.map fun x => (x.has, x.rof) := by
  induction l with
  | nil => rfl
  | cons x l ih => simp only [Fm.rofs, List.map_cons, ih]
theorem Fm.has_mk (k : Int) (t : Ty) (m : List Tm) (l : List Fm) : (Fm.mk k t m l).has = if k = 1 then false else if k = 2 then (l.map Fm.has).headD false || (l.map Fm.has).getD 1 false else if k = 5 then true else (l.map Fm.has).getLastD false := by rw [Fm.has, Fm.hass_eq]
theorem Fm.rof_mk (k : Int) (t : Ty) (m : List Tm) (l : List Fm) : (Fm.mk k t m l).rof = rstep k t (Fm.mk k t m l).has ((l.map fun x => (x.has, x.rof)).headD (false, .zero, 0)) ((l.map fun x => (x.has, x.rof)).getLastD (false, .zero, 0)) := by rw [Fm.rof, Fm.rofs_eq]
theorem Ty.check_of {t : Ty} (h : t.check = 0) : t.ok = true := by
  unfold Ty.check at h
  split at h
  · assumption
  · cases h
theorem check_two {k : Int} (hk : k = 3 ∨ k = 4) {a b : Ty} (ha : a.ok = true) (hb : b.ok = true) : (Ty.mk k [a, b]).check = 0 ∨ (Ty.mk k [a, b]).check = 4 := by
  unfold Ty.check
  have h : (Ty.mk k [a, b]).ok = true := by rcases hk with rfl | rfl <;> simp [tyArity, ha, hb]
  rw [if_pos h]
  split
  · exact .inl rfl
  · exact .inr rfl
def Agrees (has : Bool) (c : Ty × Bool × Int) (r : Ty × Int) : Prop :=
  (has = false → c.2 = (false, 0)) ∧ (has = true → (∃ T, T.ok = true ∧ c = (T, true, 0) ∧ r = (T, 0)) ∨ (c.2.2 = 4 ∧ r = (.zero, 4)))
theorem agrees_join {k : Int} (hk : k = 3 ∨ k = 4) {a b : Ty} (ha : a.ok = true) (hb : b.ok = true) : (∃ T, T.ok = true ∧ join k a b = (T, true, 0) ∧ fits (.mk k [a, b]) 0 = (T, 0)) ∨ ((join k a b).2.2 = 4 ∧ fits (.mk k [a, b]) 0 = (.zero, 4)) := by
  rcases check_two hk ha hb with h | h
  · exact .inl ⟨_, Ty.check_of h, by simp [join, h], by simp [fits, h]⟩
  · exact .inr ⟨by simp [join, h], by simp [fits, h]⟩
@[simp] theorem fits_err {t : Ty} : fits t 4 = (.zero, 4) := by simp [fits]
theorem agrees_fits {k : Int} (hk : k = 3 ∨ k = 4) {a : Ty} (ha : a.ok = true) {c : Ty × Bool × Int} {r : Ty × Int} (h : (∃ T, T.ok = true ∧ c = (T, true, 0) ∧ r = (T, 0)) ∨ (c.2.2 = 4 ∧ r = (.zero, 4))) :
    (c.2.2 = 0 ∧ c.2.1 = true ∧ ((∃ T, T.ok = true ∧ join k a c.1 = (T, true, 0) ∧ fits (.mk k [a, r.1]) r.2 = (T, 0)) ∨ ((join k a c.1).2.2 = 4 ∧ fits (.mk k [a, r.1]) r.2 = (.zero, 4)))) ∨ (c.2.2 = 4 ∧ r = (.zero, 4)) := by
  rcases h with ⟨T, h1, rfl, rfl⟩ | h
  · exact .inl ⟨rfl, rfl, agrees_join hk ha h1⟩
  · exact .inr h
theorem Fm.agrees (f : Fm) : f.ok = true → Agrees f.has f.cof f.rof := by
  induction f using Fm.ind with
  | _ k t m l ih =>
  intro hok
  rw [Fm.cof_mk, Fm.rof_mk]
  rcases Fm.shape hok with ⟨rfl, rfl⟩ | ⟨hk, y, x, rfl, hy, hx⟩ | ⟨hk, ht, x, rfl, hx⟩
  · refine ⟨fun _ => by simp [ofStep], fun h => ?_⟩
    rw [Fm.has_mk] at h
    simp at h
  · have iy := ih y (by simp) hy
    have ix := ih x (by simp) hx
    rw [Fm.has_mk]
    rcases hk with rfl | rfl
    · simp only [List.map_cons, List.map_nil, List.headD_cons, List.getLastD_cons, List.getLastD_nil]
      rcases hhy : y.has with _ | _ <;> rcases hhx : x.has with _ | _
      · have ey := iy.1 hhy
        have ex := ix.1 hhx
        refine ⟨fun _ => ?_, fun h => by simp at h⟩
        simp [ofStep, ex, ey]
      · have ey := iy.1 hhy
        have ex := ix.2 hhx
        refine ⟨fun h => by simp at h, fun _ => ?_⟩
        rcases ex with ⟨T, h1, h2, h3⟩ | ⟨h1, h2⟩
        · exact .inl ⟨T, h1, by simp [ofStep, h2, ey], by simp [rstep, h3]⟩
        · exact .inr ⟨by simp [ofStep, h1], by simp [rstep, h2]⟩
      · have ey := iy.2 hhy
        have ex := ix.1 hhx
        refine ⟨fun h => by simp at h, fun _ => ?_⟩
        rcases ey with ⟨T, h1, h2, h3⟩ | ⟨h1, h2⟩
        · exact .inl ⟨T, h1, by simp [ofStep, ex, h2], by simp [rstep, h3]⟩
        · exact .inr ⟨by simp [ofStep, ex, h1], by simp [rstep, h2]⟩
      · refine ⟨fun h => by simp at h, fun _ => ?_⟩
        rcases iy.2 hhy with ⟨T, h1, h2, h3⟩ | ⟨h1, h2⟩
        · rcases agrees_fits (.inl rfl) h1 (ix.2 hhx) with ⟨e1, e2, e3⟩ | ⟨e1, e2⟩
          · simpa [ofStep, rstep, e1, e2, h2, h3, Ty.pair] using e3
          · exact .inr ⟨by simp [ofStep, e1], by simp [rstep, e2, h3]⟩
        · rcases ix.2 hhx with ⟨T, e1, e2, e3⟩ | ⟨e1, e2⟩
          · exact .inr ⟨by simp [ofStep, e2, h1], by simp [rstep, h2]⟩
          · exact .inr ⟨by simp [ofStep, e1], by simp [rstep, h2]⟩
    · simp only [List.map_cons, List.map_nil, List.headD_cons, List.getLastD_cons, List.getLastD_nil]
      rcases hhx : x.has with _ | _
      · have ex := ix.1 hhx
        refine ⟨fun _ => ?_, fun h => by simp at h⟩
        simp [ofStep, ex]
      · refine ⟨fun h => by simp at h, fun _ => ?_⟩
        rcases hhy : y.has with _ | _
        · have ey := iy.1 hhy
          rcases ix.2 hhx with ⟨T, h1, h2, h3⟩ | ⟨h1, h2⟩
          · exact .inl ⟨T, h1, by simp [ofStep, h2, ey], by simp [rstep, h3]⟩
          · exact .inr ⟨by simp [ofStep, h1], by simp [rstep, h2]⟩
        · rcases iy.2 hhy with ⟨T, h1, h2, h3⟩ | ⟨h1, h2⟩
          · rcases agrees_fits (.inr rfl) h1 (ix.2 hhx) with ⟨e1, e2, e3⟩ | ⟨e1, e2⟩
            · simpa [ofStep, rstep, e1, e2, h2, h3, Ty.fn] using e3
            · exact .inr ⟨by simp [ofStep, e1], by simp [rstep, e2, h3]⟩
          · rcases ix.2 hhx with ⟨T, e1, e2, e3⟩ | ⟨e1, e2⟩
            · exact .inr ⟨by simp [ofStep, e2, h1], by simp [rstep, h2]⟩
            · exact .inr ⟨by simp [ofStep, e1], by simp [rstep, h2]⟩
  · have ix := ih x (by simp) hx
    have hto := Ty.check_of ht
    rw [Fm.has_mk]
    simp only [List.map_cons, List.map_nil, List.headD_cons, List.getLastD_cons, List.getLastD_nil]
    rcases hhx : x.has with _ | _
    · have ex := ix.1 hhx
      rcases hk with rfl | rfl | rfl | rfl
      · exact ⟨fun _ => by simp [ofStep, ex], fun h => by simp at h⟩
      · exact ⟨fun h => by simp at h, fun _ => .inl ⟨t, hto, by simp [ofStep, ex], by simp [rstep]⟩⟩
      · exact ⟨fun _ => by simp [ofStep, ex], fun h => by simp at h⟩
      · exact ⟨fun _ => by simp [ofStep, ex], fun h => by simp at h⟩
    · rcases hk with rfl | rfl | rfl | rfl
      · refine ⟨fun h => by simp at h, fun _ => ?_⟩
        rcases agrees_fits (k := 4) (.inr rfl) hto (ix.2 hhx) with ⟨e1, e2, e3⟩ | ⟨e1, e2⟩
        · simpa [ofStep, rstep, e1, e2, Ty.fn] using e3
        · exact .inr ⟨by simp [ofStep, e1], by simp [rstep, e2]⟩
      · refine ⟨fun h => by simp at h, fun _ => ?_⟩
        rcases agrees_fits (k := 3) (.inl rfl) hto (ix.2 hhx) with ⟨e1, e2, e3⟩ | ⟨e1, e2⟩
        · simpa [ofStep, rstep, e1, e2, Ty.pair] using e3
        · exact .inr ⟨by simp [ofStep, e1], by simp [rstep, e2]⟩
      · refine ⟨fun h => by simp at h, fun _ => ?_⟩
        rcases ix.2 hhx with ⟨T, h1, h2, h3⟩ | ⟨h1, h2⟩
        · exact .inl ⟨T, h1, by simp [ofStep, h2], by simp [rstep, h3]⟩
        · exact .inr ⟨by simp [ofStep, h1], by simp [rstep, h2]⟩
      · refine ⟨fun h => by simp at h, fun _ => ?_⟩
        rcases ix.2 hhx with ⟨T, h1, h2, h3⟩ | ⟨h1, h2⟩
        · exact .inl ⟨T, h1, by simp [ofStep, h2], by simp [rstep, h3]⟩
        · exact .inr ⟨by simp [ofStep, h1], by simp [rstep, h2]⟩
theorem Fm.rof_none {f : Fm} (h : f.has = false) : f.rof = (.unit, 0) := by
  cases f with
  | mk k t m l => rw [Fm.rof_mk, h]; simp [rstep]
theorem ctype_eq (f : Fm) : ctype f = f.rtype := by
  unfold ctype Fm.rtype
  by_cases hc : f.check = 0
  · have ha := Fm.agrees f (Fm.check_ok hc)
    simp only [hc, if_true, ne_eq, not_true, if_false]
    cases hh : f.has with
    | false =>
      have := ha.1 hh
      rw [Fm.rof_none hh]
      simp [this, Ty.unit]
    | true =>
      rcases ha.2 hh with ⟨T, h1, h2, h3⟩ | ⟨h1, h2⟩
      · simp [h2, h3]
      · simp [h1, h2]
  · simp [hc]
end Go.Proofs.YtnpgbkldpdogjaaGreatDoor.V

namespace Go.Proofs.YtnpgbkldpdogjaaGreatDoor.V
open Go
theorem modI_range {n k : Int} (hk : 0 < k) : 0 ≤ modI n k ∧ modI n k < k := by
  unfold modI
  have h1 := Int.tmod_lt_of_pos n hk
  have h2 : -k < n.tmod k := by
    have := Int.tmod_lt_of_pos (-n) hk
    rw [Int.neg_tmod] at this
    omega
  refine ⟨Int.tmod_nonneg _ (by omega), Int.tmod_lt_of_pos _ hk⟩
theorem next_range {n : Int} (hn : 0 < n) (r : List Int) : 0 ≤ (next n r).1 ∧ (next n r).1 < n := by
  cases r with
  | nil => exact ⟨Int.le_refl _, hn⟩
  | cons x r =>
    have : ¬ n < 1 := by omega
    simp only [next, this, if_false]
    exact modI_range hn
theorem next_nat {n : Nat} (hn : 0 < n) (r : List Int) : (next n r).1.toNat < n := by
  have := next_range (n := n) (by omega) r
  omega
theorem Ty.check_iff {t : Ty} : t.check = 0 ↔ t.ok = true ∧ t.size ≤ 64 := by
  unfold Ty.check
  split
  · split
    · simp_all
    · simp_all
  · simp_all
theorem Ty.nat_ok : Ty.nat.ok = true := by simp [Ty.nat, tyArity]
theorem Ty.list_ok : Ty.list.ok = true := by simp [Ty.list, tyArity]
theorem Ty.unit_ok : Ty.unit.ok = true := by simp [Ty.unit, tyArity]
theorem Ty.pair_ok {a b : Ty} (ha : a.ok = true) (hb : b.ok = true) : (Ty.pair a b).ok = true := by simp [Ty.pair, tyArity, ha, hb]
theorem Ty.fn_ok {a b : Ty} (ha : a.ok = true) (hb : b.ok = true) : (Ty.fn a b).ok = true := by simp [Ty.fn, tyArity, ha, hb]
@[simp] theorem Ty.nat_size : Ty.nat.size = 1 := by simp [Ty.nat]
@[simp] theorem Ty.list_size : Ty.list.size = 1 := by simp [Ty.list]
@[simp] theorem Ty.unit_size : Ty.unit.size = 1 := by simp [Ty.unit]
@[simp] theorem Ty.zero_size : Ty.zero.size = 1 := by simp [Ty.zero]
@[simp] theorem Ty.pair_size (a b : Ty) : (Ty.pair a b).size = 1 + a.size + b.size := by simp [Ty.pair]; omega
@[simp] theorem Ty.fn_size (a b : Ty) : (Ty.fn a b).size = 1 + a.size + b.size := by simp [Ty.fn]; omega
theorem mkType_ok (d : Nat) : ∀ r, (mkType d r).1.ok = true ∧ (mkType d r).1.size + 1 ≤ 2 * 2 ^ d := by
  induction d with
  | zero =>
    intro r
    unfold mkType
    simp only
    split
    · exact ⟨Ty.list_ok, by simp⟩
    · split
      · exact ⟨Ty.unit_ok, by simp⟩
      · exact ⟨Ty.nat_ok, by simp⟩
  | succ d ih =>
    intro r
    unfold mkType
    simp only
    have hp : 1 ≤ 2 ^ d := Nat.one_le_two_pow
    have hq : 2 ^ (d + 1) = 2 * 2 ^ d := by rw [Nat.pow_succ]; omega
    split
    · exact ⟨Ty.list_ok, by simp; omega⟩
    · split
      · exact ⟨Ty.unit_ok, by simp; omega⟩
      · split
        · have h1 := ih (next 7 r).2
          have h2 := ih (mkType d (next 7 r).2).2
          exact ⟨Ty.pair_ok h1.1 h2.1, by simp; omega⟩
        · split
          · have h1 := ih (next 7 r).2
            have h2 := ih (mkType d (next 7 r).2).2
            exact ⟨Ty.fn_ok h1.1 h2.1, by simp; omega⟩
          · exact ⟨Ty.nat_ok, by simp; omega⟩
theorem mkType0 (r : List Int) : (mkType 0 r).1.ok = true ∧ (mkType 0 r).1.size ≤ 1 := by have := mkType_ok 0 r; exact ⟨this.1, by omega⟩
theorem mkType1 (r : List Int) : (mkType 1 r).1.ok = true ∧ (mkType 1 r).1.size ≤ 3 := by have := mkType_ok 1 r; exact ⟨this.1, by omega⟩
def Good (m : Nat) (g : List Ty) : Prop := ∀ x ∈ g, x.ok = true ∧ x.size ≤ m
theorem Good.nil {m : Nat} : Good m [] := fun x hx => by simp at hx
theorem Good.app {m : Nat} {g h : List Ty} (hg : Good m g) (hh : Good m h) : Good m (g ++ h) := fun x hx => (List.mem_append.1 hx).elim (hg x) (hh x)
theorem Good.one {m : Nat} {t : Ty} (h : t.ok = true ∧ t.size ≤ m) : Good m [t] := fun x hx => by rw [List.mem_singleton.1 hx]; exact h
theorem Good.cons {m : Nat} {t : Ty} {g : List Ty} (h : t.ok = true ∧ t.size ≤ m) (hg : Good m g) : Good m (t :: g) := fun x hx => by
  rcases List.mem_cons.1 hx with rfl | hx
  · exact h
  · exact hg x hx
theorem mkTypes_good (n : Nat) : ∀ r, Good 3 (mkTypes 1 n r).1 ∧ (mkTypes 1 n r).1.length = n := by
  induction n with
  | zero => intro r; exact ⟨Good.nil, rfl⟩
  | succ n ih =>
    intro r
    have h := ih (mkType 1 r).2
    exact ⟨Good.cons (mkType1 r) h.1, by simp [mkTypes, h.2]⟩
theorem mkContext_good (r : List Int) : Good 3 (mkContext r).1 ∧ (mkContext r).1.length ≤ 3 := by
  have h := mkTypes_good (next 4 r).1.toNat (next 4 r).2
  have h2 := next_range (n := 4) (by omega) r
  refine ⟨h.1, ?_⟩
  show (mkTypes 1 _ _).1.length ≤ 3
  rw [h.2]; omega
theorem varsFrom_mem (t : Ty) (g : List Ty) : ∀ (n : Nat) (i : Int), i ∈ varsFrom t n g → ∃ j : Nat, i = (n + j : Nat) ∧ j < g.length ∧ g[j]? = some t := by
  induction g with
  | nil => intro n i h; simp [varsFrom] at h
  | cons x l ih =>
    intro n i h
    unfold varsFrom at h
    split at h
    · rename_i hs
      rcases List.mem_cons.1 h with rfl | h
      · exact ⟨0, rfl, by simp, by simp [(Ty.same_iff x t).1 hs]⟩
      · obtain ⟨j, h1, h2, h3⟩ := ih _ _ h
        exact ⟨j + 1, by rw [h1]; omega, by simp; omega, by simpa using h3⟩
    · obtain ⟨j, h1, h2, h3⟩ := ih _ _ h
      exact ⟨j + 1, by rw [h1]; omega, by simp; omega, by simpa using h3⟩
theorem vars_mem {g : List Ty} {t : Ty} {i : Int} (h : i ∈ vars g t) : ∃ j : Nat, i = j ∧ j < g.length ∧ g.reverse[j]? = some t := by
  obtain ⟨j, h1, h2, h3⟩ := varsFrom_mem t _ _ _ h
  exact ⟨j, by rw [h1]; omega, by simpa using h2, h3⟩
theorem pickVar_some {l r r' : List Int} {i : Int} (h : pickVar l r = (some i, r')) : i ∈ l := by
  unfold pickVar at h
  split at h
  · simp at h
  · simp only at h
    split at h
    · simp only [Prod.mk.injEq, Option.some.injEq] at h
      have hl : 0 < l.length := by cases l <;> simp_all
      have hlt := next_nat hl (next 3 r).2
      rw [← h.1, List.getD_eq_getElem?_getD, List.getElem?_eq_getElem hlt]
      exact List.getElem_mem _
    · simp at h
theorem funFrom_mem (t : Ty) (g : List Ty) : ∀ (n : Nat) (i : Int) (a : Ty), funFrom t n g = some (i, a) → ∃ j : Nat, i = (n + j : Nat) ∧ j < g.length ∧ g[j]? = some (.fn a t) := by
  induction g with
  | nil => intro n i a h; simp [funFrom] at h
  | cons x l ih =>
    intro n i a h
    have rest : funFrom t (n + 1) l = some (i, a) → ∃ j : Nat, i = (n + j : Nat) ∧ j < (x :: l).length ∧ (x :: l)[j]? = some (.fn a t) := fun h => by
      obtain ⟨j, h1, h2, h3⟩ := ih _ _ _ h
      exact ⟨j + 1, by rw [h1]; omega, by simp; omega, by simpa using h3⟩
    obtain ⟨k, m⟩ := x
    match m with
    | [a', b] =>
      simp only [funFrom] at h
      split at h
      · rename_i hc
        simp only [Option.some.injEq, Prod.mk.injEq] at h
        refine ⟨0, by rw [← h.1]; omega, by simp, ?_⟩
        simp [Ty.fn, hc.1, (Ty.same_iff b t).1 hc.2, h.2]
      · exact rest h
    | [] => exact rest (by simpa [funFrom] using h)
    | [_] => exact rest (by simpa [funFrom] using h)
    | _ :: _ :: _ :: _ => exact rest (by simpa [funFrom] using h)
theorem Tm.head_node {k : Int} {n : Nat} (h : tmArity k = some n) (ht : tmTyped k = false) : Tm.head k 0 .zero n = true := by simp [Tm.head, h, ht, Ty.none, Ty.zero]
theorem Tm.head_tnode {k : Int} {n : Nat} {s : Ty} (h : tmArity k = some n) (ht : tmTyped k = true) (hs : s.check = 0) : Tm.head k 0 s n = true := by simp [Tm.head, h, ht, hs]
theorem Tm.var_ok {i : Int} (h : 0 ≤ i) : (Tm.var i).ok = true := by simp [Tm.var, Tm.head, tmArity, tmTyped, Ty.none, Ty.zero, h]
@[simp] theorem Tm.var_size (i : Int) : (Tm.var i).size = 2 := by simp [Tm.var]
@[simp] theorem Tm.node_size (k : Int) (l : List Tm) : (Tm.node k l).size = 2 + Tm.sizes l := by simp [Tm.node]
@[simp] theorem Tm.tnode_size (k : Int) (s : Ty) (l : List Tm) : (Tm.tnode k s l).size = 1 + s.size + Tm.sizes l := by simp [Tm.tnode]
theorem Tm.node_ok {k : Int} {l : List Tm} (h : tmArity k = some l.length) (ht : tmTyped k = false) (hl : Tm.oks l = true) : (Tm.node k l).ok = true := by simp [Tm.node, Tm.head_node h ht, hl]
theorem Tm.tnode_ok {k : Int} {s : Ty} {l : List Tm} (h : tmArity k = some l.length) (ht : tmTyped k = true) (hs : s.check = 0) (hl : Tm.oks l = true) : (Tm.tnode k s l).ok = true := by simp [Tm.tnode, Tm.head_tnode h ht hs, hl]
theorem Tm.num_ok (n : Nat) : (Tm.num n).ok = true := by
  induction n with
  | zero => exact Tm.node_ok rfl rfl rfl
  | succ n ih => exact Tm.node_ok rfl rfl (by simp [ih])
@[simp] theorem Tm.num_size (n : Nat) : (Tm.num n).size = 2 * (n + 1) := by
  induction n with
  | zero => simp [Tm.num]
  | succ n ih => simp [Tm.num, ih]; omega
theorem Ty.nat_check : Ty.nat.check = 0 := Ty.check_iff.2 ⟨Ty.nat_ok, by simp⟩
theorem Ty.list_check : Ty.list.check = 0 := Ty.check_iff.2 ⟨Ty.list_ok, by simp⟩
theorem Tm.plus_ok : Tm.plus.ok = true := by decide +kernel
theorem Tm.sub_ok : Tm.sub.ok = true := by decide +kernel
@[simp] theorem Tm.plus_size : Tm.plus.size = 18 := by decide +kernel
@[simp] theorem Tm.sub_size : Tm.sub.size = 32 := by decide +kernel
@[simp] theorem Tm.pred_size : Tm.pred.size = 14 := by decide +kernel
def Fine (B : Nat) (t : Tm) : Prop := t.ok = true ∧ t.size ≤ B
theorem fine_var {i : Int} (h : 0 ≤ i) {B : Nat} (hB : 2 ≤ B) : Fine B (.var i) := ⟨Tm.var_ok h, by simpa using hB⟩
theorem fine_num {n : Int} {B : Nat} (h : n < 3) (hB : 6 ≤ B) : Fine B (.num n.toNat) := ⟨Tm.num_ok _, by simp; omega⟩
theorem Ty.parts2 {k : Int} {a b : Ty} {m : Nat} (h : (Ty.mk k [a, b]).ok = true ∧ (Ty.mk k [a, b]).size ≤ m) : (a.ok = true ∧ a.size ≤ m) ∧ (b.ok = true ∧ b.size ≤ m) := by
  simp at h
  exact ⟨⟨h.1.2.1, by omega⟩, ⟨h.1.2.2, by omega⟩⟩
theorem mkTerm0_fine {m : Nat} (hm : m ≤ 64) (t : Ty) : ∀ (g : List Ty) (r : List Int), t.ok = true ∧ t.size ≤ m → Fine (6 * t.size) (mkTerm0 g t r).1 := by
  induction t using Ty.ind with
  | _ k l ih =>
  intro g r ht
  have hp := Ty.size_pos (.mk k l)
  unfold mkTerm0
  rcases hv : pickVar (vars g (.mk k l)) r with ⟨_ | i, r'⟩ <;> simp only
  rotate_left
  · obtain ⟨j, h1, _⟩ := vars_mem (pickVar_some hv)
    exact fine_var (by omega) (by omega)
  · split
    · have := next_range (n := 3) (by omega) r'
      exact fine_num (by omega) (by omega)
    · split
      · exact ⟨Tm.node_ok rfl rfl rfl, by simp <;> omega⟩
      · split
        · rename_i a b
          have hab := Ty.parts2 ht
          have hsz : (Ty.mk k [a, b]).size = 1 + (a.size + b.size) := by simp
          rw [hsz] at ht ⊢
          split
          · have h1 := ih a (by simp) g r' hab.1
            have h2 := ih b (by simp) g (mkTerm0 g a r').2 hab.2
            exact ⟨Tm.node_ok rfl rfl (by simp [h1.1, h2.1]), by have := h1.2; have := h2.2; simp; omega⟩
          · split
            · have h2 := ih b (by simp) (g ++ [a]) r' hab.2
              exact ⟨Tm.tnode_ok rfl rfl (Ty.check_iff.2 ⟨hab.1.1, by omega⟩) (by simp [h2.1]), by have := h2.2; simp; omega⟩
            · exact ⟨Tm.node_ok rfl rfl rfl, by simp <;> omega⟩
        · exact ⟨Tm.node_ok rfl rfl rfl, by simp <;> omega⟩
def tmB (m : Nat) : Nat → Nat
  | 0 => 6 * m
  | d + 1 => 3 * tmB m d + 2 * m + 40
theorem tmB_ge {m : Nat} (hm : 1 ≤ m) (d : Nat) : 6 * m ≤ tmB m d := by
  induction d with
  | zero => exact Nat.le_refl _
  | succ d ih => simp only [tmB]; omega
theorem Fine.mono {B B' : Nat} {t : Tm} (h : Fine B t) (hB : B ≤ B') : Fine B' t := ⟨h.1, Nat.le_trans h.2 hB⟩
theorem mkPlain_fine {m B : Nat} (hm : m ≤ 64) (_hB : 6 ≤ B) {F : List Ty → Ty → List Int → Tm × List Int} (hF : ∀ g t r, Good m g → t.ok = true ∧ t.size ≤ m → Fine B (F g t r).1) (g : List Ty) (t : Ty) (r : List Int) (hg : Good m g) (ht : t.ok = true ∧ t.size ≤ m) : Fine (3 * B + 2 * m + 40) (mkPlain F g t r).1 := by
  obtain ⟨k, l⟩ := t
  have hp := Ty.size_pos (.mk k l)
  have hnat : Ty.nat.ok = true ∧ Ty.nat.size ≤ m := ⟨Ty.nat_ok, by simp; omega⟩
  unfold mkPlain
  simp only
  split
  · split
    · have h1 := hF g (.mk k l) (next 5 r).2 hg ht
      exact ⟨Tm.node_ok rfl rfl (by simp [h1.1]), by have := h1.2; simp; omega⟩
    · split
      · have h1 := hF g (.mk k l) (next 5 r).2 hg ht
        have h2 := hF g (.mk k l) (F g (.mk k l) (next 5 r).2).2 hg ht
        exact ⟨Tm.node_ok rfl rfl (by simp [Tm.app, Tm.node_ok (k := 3) (l := [_, _]) rfl rfl, h1.1, h2.1, Tm.plus_ok]), by have := h1.2; have := h2.2; simp [Tm.app2, Tm.app]; omega⟩
      · split
        · have h1 := hF g (.mk k l) (next 5 r).2 hg ht
          have h2 := hF g (.mk k l) (F g (.mk k l) (next 5 r).2).2 hg ht
          exact ⟨Tm.node_ok rfl rfl (by simp [Tm.app, Tm.node_ok (k := 3) (l := [_, _]) rfl rfl, h1.1, h2.1, Tm.sub_ok]), by have := h1.2; have := h2.2; simp [Tm.app2, Tm.app]; omega⟩
        · have := next_range (n := 3) (by omega) (next 5 r).2
          exact fine_num (by omega) (by omega)
  · split
    · split
      · have h1 := hF g .nat (next 2 r).2 hg hnat
        have h2 := hF g (.mk k l) (F g .nat (next 2 r).2).2 hg ht
        exact ⟨Tm.node_ok rfl rfl (by simp [h1.1, h2.1]), by have := h1.2; have := h2.2; simp; omega⟩
      · exact ⟨Tm.node_ok rfl rfl rfl, by simp <;> omega⟩
    · split
      · rename_i a b
        have hab := Ty.parts2 ht
        split
        · have h1 := hF g a r hg hab.1
          have h2 := hF g b (F g a r).2 hg hab.2
          exact ⟨Tm.node_ok rfl rfl (by simp [h1.1, h2.1]), by have := h1.2; have := h2.2; simp; omega⟩
        · split
          · have h2 := hF (g ++ [a]) b r (hg.app (Good.one hab.1)) hab.2
            exact ⟨Tm.tnode_ok rfl rfl (Ty.check_iff.2 ⟨hab.1.1, by omega⟩) (by simp [h2.1]), by have := h2.2; have := hab.1.2; simp; omega⟩
          · exact ⟨Tm.node_ok rfl rfl rfl, by simp <;> omega⟩
      · exact ⟨Tm.node_ok rfl rfl rfl, by simp <;> omega⟩
theorem mkTerm_fine {m : Nat} (hm : m ≤ 64) (d : Nat) : ∀ (g : List Ty) (t : Ty) (r : List Int), Good m g → t.ok = true ∧ t.size ≤ m → Fine (tmB m d) (mkTerm d g t r).1 := by
  induction d with
  | zero =>
    intro g t r hg ht
    exact (mkTerm0_fine hm t g r ht).mono (by simp only [tmB]; omega)
  | succ d ih =>
    intro g t r hg ht
    have hp := Ty.size_pos t
    have hge := tmB_ge (m := m) (by omega) d
    have hnat : Ty.nat.ok = true ∧ Ty.nat.size ≤ m := ⟨Ty.nat_ok, by simp; omega⟩
    have hlist : Ty.list.ok = true ∧ Ty.list.size ≤ m := ⟨Ty.list_ok, by simp; omega⟩
    have htc : t.check = 0 := Ty.check_iff.2 ⟨ht.1, by omega⟩
    have h0 : ∀ r, (mkType 0 r).1.ok = true ∧ (mkType 0 r).1.size ≤ m := fun r => ⟨(mkType0 r).1, by have := (mkType0 r).2; omega⟩
    have h0c : ∀ r, (mkType 0 r).1.check = 0 := fun r => Ty.check_iff.2 ⟨(h0 r).1, by have := (h0 r).2; omega⟩
    show Fine (3 * tmB m d + 2 * m + 40) _
    unfold mkTerm
    split
    · rename_i i r' hv
      obtain ⟨j, h1, _⟩ := vars_mem (pickVar_some hv)
      exact fine_var (by omega) (by omega)
    · rename_i r' hv
      have plain := mkPlain_fine hm (by omega) (fun g t r => ih g t r) g t (next 8 r').2 hg ht
      simp only
      split
      · have h1 := ih (g ++ [(mkType 0 (next 8 r').2).1]) t (mkType 0 (next 8 r').2).2 (hg.app (Good.one (h0 _))) ht
        have h2 := ih g (mkType 0 (next 8 r').2).1 (mkTerm d (g ++ [(mkType 0 (next 8 r').2).1]) t (mkType 0 (next 8 r').2).2).2 hg (h0 _)
        exact ⟨Tm.node_ok rfl rfl (by simp [Tm.tnode_ok (k := 2) (l := [_]) rfl rfl (h0c _), h1.1, h2.1]), by have := h1.2; have := h2.2; have := (h0 (next 8 r').2).2; simp; omega⟩
      · split
        · have h1 := ih g t (mkType 0 (next 8 r').2).2 hg ht
          have h2 := ih g (mkType 0 (next 8 r').2).1 (mkTerm d g t (mkType 0 (next 8 r').2).2).2 hg (h0 _)
          exact ⟨Tm.node_ok rfl rfl (by simp [Tm.node_ok (k := 10) (l := [_, _]) rfl rfl, h1.1, h2.1]), by have := h1.2; have := h2.2; simp; omega⟩
        · split
          · have h1 := ih (g ++ [.nat, t]) t (next 8 r').2 (hg.app (Good.cons hnat (Good.one ht))) ht
            have h2 := ih g t (mkTerm d (g ++ [.nat, t]) t (next 8 r').2).2 hg ht
            have h3 := next_range (n := 3) (by omega) (mkTerm d g t (mkTerm d (g ++ [.nat, t]) t (next 8 r').2).2).2
            refine ⟨Tm.tnode_ok rfl rfl htc ?_, ?_⟩
            · simp [Tm.tnode_ok (k := 2) (l := [_]) rfl rfl Ty.nat_check, Tm.tnode_ok (k := 2) (l := [_]) rfl rfl htc, h1.1, h2.1, Tm.num_ok]
            · have := h1.2; have := h2.2; simp; omega
          · split
            · have h1 := ih (g ++ [.nat, .list, t]) t (next 8 r').2 (hg.app (Good.cons hnat (Good.cons hlist (Good.one ht)))) ht
              have h2 := ih g t (mkTerm d (g ++ [.nat, .list, t]) t (next 8 r').2).2 hg ht
              have h3 := ih g .list (mkTerm d g t (mkTerm d (g ++ [.nat, .list, t]) t (next 8 r').2).2).2 hg hlist
              refine ⟨Tm.tnode_ok rfl rfl htc ?_, ?_⟩
              · have e1 := Tm.tnode_ok (k := 2) (l := [(mkTerm d (g ++ [.nat, .list, t]) t (next 8 r').2).1]) rfl rfl htc (by simp [h1.1])
                have e2 := Tm.tnode_ok (k := 2) (l := [.tnode 2 t [(mkTerm d (g ++ [.nat, .list, t]) t (next 8 r').2).1]]) rfl rfl Ty.list_check (by simp [e1])
                have e3 := Tm.tnode_ok (k := 2) (l := [.tnode 2 .list [.tnode 2 t [(mkTerm d (g ++ [.nat, .list, t]) t (next 8 r').2).1]]]) rfl rfl Ty.nat_check (by simp [e2])
                simp [e3, h2.1, h3.1]
              · have := h1.2; have := h2.2; have := h3.2; simp; omega
            · split
              · have h1 := ih g (mkType 0 (next 8 r').2).1 (mkType 0 (next 8 r').2).2 hg (h0 _)
                have h2 := ih g t (mkTerm d g (mkType 0 (next 8 r').2).1 (mkType 0 (next 8 r').2).2).2 hg ht
                exact ⟨Tm.node_ok rfl rfl (by simp [Tm.node_ok (k := 10) (l := [_, _]) rfl rfl, h1.1, h2.1]), by have := h1.2; have := h2.2; simp; omega⟩
              · split
                · split
                  · rename_i i a hf
                    obtain ⟨j, e1, e2, e3⟩ := funFrom_mem t _ _ _ _ hf
                    have hga := hg (.fn a t) (by have := List.mem_of_getElem? e3; simpa using this)
                    have ha := (Ty.parts2 hga).1
                    have h1 := ih g a (next 8 r').2 hg ha
                    exact ⟨Tm.node_ok rfl rfl (by simp [Tm.var_ok (i := i) (by omega), h1.1]), by have := h1.2; simp; omega⟩
                  · exact plain
                · exact plain
theorem Fm.head_eq : Fm.head 1 .zero 2 0 = true := by decide +kernel
theorem Fm.eq_ok {s t : Tm} (hs : s.ok = true) (ht : t.ok = true) : (Fm.eq s t).ok = true := by simp [Fm.eq, Fm.head_eq, hs, ht]
theorem Fm.two_ok {k : Int} {a b : Fm} (hk : k = 2 ∨ k = 3) (ha : a.ok = true) (hb : b.ok = true) : (Fm.two k a b).ok = true := by
  have : Fm.head k .zero 0 2 = true := by rcases hk with rfl | rfl <;> decide +kernel
  simp [Fm.two, this, ha, hb]
theorem Fm.q_ok {k : Int} {s : Ty} {f : Fm} (hk : k = 4 ∨ k = 5 ∨ k = 6 ∨ k = 7) (hs : s.check = 0) (hf : f.ok = true) : (Fm.q k s f).ok = true := by
  have : fmArity k = some (0, 1, true) := by rcases hk with rfl | rfl | rfl | rfl <;> rfl
  simp [Fm.q, Fm.head, this, hs, hf]
@[simp] theorem Fm.eq_size (s t : Tm) : (Fm.eq s t).size = 2 + (s.size + t.size) := by simp [Fm.eq]
@[simp] theorem Fm.two_size (k : Int) (a b : Fm) : (Fm.two k a b).size = 2 + (a.size + b.size) := by simp [Fm.two]
@[simp] theorem Fm.q_size (k : Int) (s : Ty) (f : Fm) : (Fm.q k s f).size = 1 + s.size + f.size := by simp [Fm.q]
def FineF (B : Nat) (f : Fm) : Prop := f.ok = true ∧ f.size ≤ B
def fmB (m : Nat) : Nat → Nat
  | 0 => 2 + 2 * tmB m 1
  | d + 1 => 2 * fmB m d + 3
theorem fmB_pos (m d : Nat) : 2 + 2 * tmB m 1 ≤ fmB m d := by
  induction d with
  | zero => exact Nat.le_refl _
  | succ d ih => simp only [fmB]; omega
theorem mkFormula_fine {m : Nat} (hm : m ≤ 64) (h3 : 3 ≤ m) (d : Nat) : ∀ (g : List Ty) (r : List Int), Good m g → FineF (fmB m d) (mkFormula d g r).1 := by
  have hnat : Ty.nat.ok = true ∧ Ty.nat.size ≤ m := ⟨Ty.nat_ok, by simp; omega⟩
  have eqn : ∀ (g : List Ty) (r : List Int), Good m g → FineF (2 + 2 * tmB m 1) (.eq (mkTerm 1 g .nat r).1 (mkTerm 1 g .nat (mkTerm 1 g .nat r).2).1) := fun g r hg => by
    have h1 := mkTerm_fine hm 1 g .nat r hg hnat
    have h2 := mkTerm_fine hm 1 g .nat (mkTerm 1 g .nat r).2 hg hnat
    exact ⟨Fm.eq_ok h1.1 h2.1, by have := h1.2; have := h2.2; simp; omega⟩
  have t1 : ∀ r, (mkType 1 r).1.ok = true ∧ (mkType 1 r).1.size ≤ m := fun r => ⟨(mkType1 r).1, by have := (mkType1 r).2; omega⟩
  have t0 : ∀ r, (mkType 0 r).1.ok = true ∧ (mkType 0 r).1.size ≤ m := fun r => ⟨(mkType0 r).1, by have := (mkType0 r).2; omega⟩
  induction d with
  | zero => exact fun g r hg => eqn g r hg
  | succ d ih =>
    intro g r hg
    have hpos := fmB_pos m d
    have cases2 : ∀ k, k = 2 ∨ k = 3 → FineF (fmB m (d + 1)) (.two k (mkFormula d g (next 9 r).2).1 (mkFormula d g (mkFormula d g (next 9 r).2).2).1) := fun k hk => by
      have h1 := ih g (next 9 r).2 hg
      have h2 := ih g (mkFormula d g (next 9 r).2).2 hg
      exact ⟨Fm.two_ok hk h1.1 h2.1, by have := h1.2; have := h2.2; simp [fmB]; omega⟩
    have casesq : ∀ k s r', k = 4 ∨ k = 5 ∨ k = 6 ∨ k = 7 → s.ok = true ∧ s.size ≤ 3 → FineF (fmB m (d + 1)) (.q k s (mkFormula d (g ++ [s]) r').1) := fun k s r' hk hs => by
      have h1 := ih (g ++ [s]) r' (hg.app (Good.one ⟨hs.1, by have := hs.2; omega⟩))
      exact ⟨Fm.q_ok hk (Ty.check_iff.2 ⟨hs.1, by have := hs.2; omega⟩) h1.1, by have := h1.2; have := hs.2; simp [fmB]; omega⟩
    unfold mkFormula
    simp only
    split
    · exact cases2 2 (.inl rfl)
    · split
      · exact cases2 3 (.inr rfl)
      · split
        · exact casesq 4 _ _ (by simp) (mkType1 _)
        · split
          · exact casesq 5 _ _ (by simp) (mkType1 _)
          · split
            · refine casesq _ _ _ ?_ ⟨(mkType0 _).1, by have := (mkType0 (next 9 r).2).2; omega⟩
              have := next_range (n := 2) (by omega) (mkType 0 (next 9 r).2).2
              omega
            · have := eqn g (next 9 r).2 hg
              exact ⟨this.1, Nat.le_trans this.2 (by simp only [fmB]; omega)⟩
theorem mkFormulas_fine {m : Nat} (hm : m ≤ 64) (h3 : 3 ≤ m) (d : Nat) (g : List Ty) (hg : Good m g) (n : Nat) : ∀ r, (∀ f ∈ (mkFormulas d g n r).1, FineF (fmB m d) f) ∧ (mkFormulas d g n r).1.length = n := by
  induction n with
  | zero => intro r; exact ⟨fun f hf => by simp [mkFormulas] at hf, rfl⟩
  | succ n ih =>
    intro r
    have h := ih (mkFormula d g r).2
    refine ⟨fun f hf => ?_, by simp [mkFormulas, h.2]⟩
    rcases List.mem_cons.1 hf with rfl | hf
    · exact mkFormula_fine hm h3 d g r hg
    · exact h.1 f hf
theorem mkSequent_fine (r : List Int) : Good 3 (mkSequent r).1.1 ∧ (mkSequent r).1.1.length ≤ 3 ∧ (∀ f ∈ (mkSequent r).1.2, FineF (fmB 3 2) f) ∧ (mkSequent r).1.2.length ≤ 2 := by
  have h := mkContext_good r
  have h1 := mkFormulas_fine (m := 3) (by omega) (by omega) 2 (mkContext r).1 h.1 (next 3 (mkContext r).2).1.toNat (next 3 (mkContext r).2).2
  have h2 := next_range (n := 3) (by omega) (mkContext r).2
  refine ⟨h.1, h.2, h1.1, ?_⟩
  show (mkFormulas 2 _ _ _).1.length ≤ 2
  rw [h1.2]; omega
end Go.Proofs.YtnpgbkldpdogjaaGreatDoor.V

namespace Go.Proofs.YtnpgbkldpdogjaaGreatDoor.V
open Go
theorem Tm.ups_eq (l : List Tm) (a b : Int) : Tm.ups l a b = l.map fun x => x.up a b := by
  induction l with
  | nil => rfl
  | cons x l ih => simp only [Tm.ups, List.map_cons, ih]
theorem Tm.puts_eq (l : List Tm) (a b : Int) (s : Tm) : Tm.puts l a b s = l.map fun x => x.put a b s := by
  induction l with
  | nil => rfl
  | cons x l ih => simp only [Tm.puts, List.map_cons, ih]
theorem Fm.ups_eq (l : List Fm) (a b : Int) : Fm.ups l a b = l.map fun x => x.up a b := by
  induction l with
  | nil => rfl
  | cons x l ih => simp only [Fm.ups, List.map_cons, ih]
theorem Fm.puts_eq (l : List Fm) (a b : Int) (s : Tm) : Fm.puts l a b s = l.map fun x => x.put a b s := by
  induction l with
  | nil => rfl
  | cons x l ih => simp only [Fm.puts, List.map_cons, ih]
theorem Tm.up_mk (k i : Int) (t : Ty) (l : List Tm) (a b : Int) : (Tm.mk k i t l).up a b = .mk k (if k = 1 ∧ a ≤ i then i + b else i) t (l.map fun x => x.up (if k = 2 then a + 1 else a) b) := by rw [Tm.up, Tm.ups_eq]
theorem Tm.put_mk (k i : Int) (t : Ty) (l : List Tm) (a d : Int) (s : Tm) : (Tm.mk k i t l).put a d s = if k = 1 then if i = a + d then s.up 0 (a + d) else if a + d < i then .var (i - 1) else .mk k i t l else .mk k i t (l.map fun x => x.put a (if k = 2 then d + 1 else d) s) := by rw [Tm.put, Tm.puts_eq]
theorem Fm.up_mk (k : Int) (t : Ty) (m : List Tm) (l : List Fm) (a b : Int) : (Fm.mk k t m l).up a b = .mk k t (m.map fun x => x.up a b) (l.map fun x => x.up (if fmQ k = true then a + 1 else a) b) := by rw [Fm.up, Tm.ups_eq, Fm.ups_eq]
theorem Fm.put_mk (k : Int) (t : Ty) (m : List Tm) (l : List Fm) (a d : Int) (s : Tm) : (Fm.mk k t m l).put a d s = .mk k t (m.map fun x => x.put a d s) (l.map fun x => x.put a (if fmQ k = true then d + 1 else d) s) := by rw [Fm.put, Tm.puts_eq, Fm.puts_eq]
theorem Tm.oks_iff (l : List Tm) : Tm.oks l = true ↔ ∀ x ∈ l, x.ok = true := by
  induction l with
  | nil => simp
  | cons x l ih => simp [ih]
theorem Fm.oks_iff (l : List Fm) : Fm.oks l = true ↔ ∀ x ∈ l, x.ok = true := by
  induction l with
  | nil => simp
  | cons x l ih => simp [ih]
theorem Tm.counts_map {f : Tm → Tm} {l : List Tm} (h : ∀ x ∈ l, (f x).count = x.count) : Tm.counts (l.map f) = Tm.counts l := by
  induction l with
  | nil => rfl
  | cons x l ih => simp [h x (by simp), ih fun y hy => h y (by simp [hy])]
theorem Fm.counts_map {f : Fm → Fm} {l : List Fm} (h : ∀ x ∈ l, (f x).count = x.count) : Fm.counts (l.map f) = Fm.counts l := by
  induction l with
  | nil => rfl
  | cons x l ih => simp [h x (by simp), ih fun y hy => h y (by simp [hy])]
theorem Tm.up_count (t : Tm) : ∀ a b, (t.up a b).count = t.count := by
  induction t using Tm.ind with
  | _ k i t l ih =>
    intro a b
    rw [Tm.up_mk, Tm.count_mk, Tm.count_mk, Tm.counts_map fun x hx => ih x hx _ _]
theorem Tm.head_index {k i j : Int} {t : Ty} {n : Nat} (h : Tm.head k i t n = true) (hj : k = 1 → 0 ≤ j) (hk : k ≠ 1 → j = i) : Tm.head k j t n = true := by
  by_cases h1 : k = 1
  · subst h1
    have := hj rfl
    simp only [Tm.head, Bool.and_eq_true] at h ⊢
    simp only [decide_eq_true_eq]
    exact ⟨⟨⟨h.1.1.1, this⟩, by simp⟩, h.2⟩
  · rw [hk h1]; exact h
theorem Tm.head_nonneg {k i : Int} {t : Ty} {n : Nat} (h : Tm.head k i t n = true) : 0 ≤ i := by
  simp only [Tm.head, Bool.and_eq_true, decide_eq_true_eq] at h
  exact h.1.1.2
theorem Tm.head_var {i : Int} {t : Ty} {n : Nat} (h : Tm.head 1 i t n = true) : n = 0 := by
  simp only [Tm.head, Bool.and_eq_true] at h
  have := h.1.1.1
  simp [tmArity] at this
  omega
theorem Tm.up_ok (t : Tm) : ∀ a b, 0 ≤ b → t.ok = true → (t.up a b).ok = true := by
  induction t using Tm.ind with
  | _ k i t l ih =>
    intro a b hb h
    rw [Tm.up_mk]
    simp only [Tm.ok_mk, Bool.and_eq_true, Tm.oks_iff, List.length_map] at h ⊢
    have hi := Tm.head_nonneg h.1
    refine ⟨Tm.head_index h.1 (fun _ => by split <;> omega) (fun hk => by rw [if_neg]; exact fun h => hk h.1), fun x hx => ?_⟩
    obtain ⟨y, hy, rfl⟩ := List.mem_map.1 hx
    exact ih y hy _ _ hb (h.2 y hy)
theorem Tm.put_ok (t : Tm) {s : Tm} (hs : s.ok = true) : ∀ a d, 0 ≤ a → 0 ≤ d → t.ok = true → (t.put a d s).ok = true := by
  induction t using Tm.ind with
  | _ k i t l ih =>
    intro a d ha hd h
    rw [Tm.put_mk]
    split
    · split
      · exact Tm.up_ok s _ _ (by omega) hs
      · split
        · exact Tm.var_ok (by omega)
        · exact h
    · simp only [Tm.ok_mk, Bool.and_eq_true, Tm.oks_iff, List.length_map] at h ⊢
      refine ⟨h.1, fun x hx => ?_⟩
      obtain ⟨y, hy, rfl⟩ := List.mem_map.1 hx
      exact ih y hy _ _ ha (by split <;> omega) (h.2 y hy)
theorem Tm.times_mk (k i : Int) (t : Ty) (l : List Tm) (a : Int) : (Tm.mk k i t l).times a = (if k = 1 ∧ i = a then 1 else 0) + Tm.timess l (if k = 2 then a + 1 else a) := by rw [Tm.times]
theorem Fm.times_mk (k : Int) (t : Ty) (m : List Tm) (l : List Fm) (a : Int) : (Fm.mk k t m l).times a = Tm.timess m a + Fm.timess l (if fmQ k = true then a + 1 else a) := by rw [Fm.times]
theorem Tm.puts_count {s : Tm} {l : List Tm} {a d d' : Int} (h : ∀ x ∈ l, ((x.put a d s).count : Int) = x.count + x.times d' * ((s.count : Int) - 1)) : (Tm.counts (l.map fun x => x.put a d s) : Int) = Tm.counts l + Tm.timess l d' * ((s.count : Int) - 1) := by
  induction l with
  | nil => simp [Tm.timess]
  | cons x l ih =>
    have h1 := h x (by simp)
    have h2 := ih fun y hy => h y (by simp [hy])
    simp only [List.map_cons, Tm.counts_cons, Tm.timess, Int.natCast_add, h1, h2, Int.add_mul]
    omega
theorem Tm.put_count (t : Tm) (s : Tm) : ∀ a d, t.ok = true → ((t.put a d s).count : Int) = t.count + t.times (a + d) * ((s.count : Int) - 1) := by
  induction t using Tm.ind with
  | _ k i t l ih =>
    intro a d h
    simp only [Tm.ok_mk, Bool.and_eq_true, Tm.oks_iff] at h
    rw [Tm.put_mk, Tm.times_mk]
    by_cases hk : k = 1
    · subst hk
      have hl : l = [] := List.length_eq_zero_iff.1 (Tm.head_var h.1)
      subst hl
      simp only [if_true, true_and]
      by_cases hi : i = a + d
      · rw [if_pos hi, if_pos hi, Tm.up_count]
        simp [Tm.timess]
        omega
      · rw [if_neg hi, if_neg hi]
        split <;> simp [Tm.timess, Tm.var]
    · have hk' : ¬ (k = 1 ∧ i = a + d) := fun h => hk h.1
      have := Tm.puts_count (a := a) (d := if k = 2 then d + 1 else d) (d' := if k = 2 then a + d + 1 else a + d) (s := s) (l := l) fun x hx => by
        rw [ih x hx _ _ (h.2 x hx)]
        congr 3
        split <;> omega
      simp only [if_neg hk, if_neg hk', Tm.count_mk, Int.natCast_add, this, Int.zero_add]
      omega
theorem Fm.up_count (f : Fm) : ∀ a b, (f.up a b).count = f.count := by
  induction f using Fm.ind with
  | _ k t m l ih =>
    intro a b
    rw [Fm.up_mk, Fm.count_mk, Fm.count_mk, Tm.counts_map fun x _ => Tm.up_count x _ _, Fm.counts_map fun x hx => ih x hx _ _]
theorem Fm.up_ok (f : Fm) : ∀ a b, 0 ≤ b → f.ok = true → (f.up a b).ok = true := by
  induction f using Fm.ind with
  | _ k t m l ih =>
    intro a b hb h
    rw [Fm.up_mk]
    simp only [Fm.ok_mk, Bool.and_eq_true, Tm.oks_iff, Fm.oks_iff, List.length_map] at h ⊢
    refine ⟨h.1, fun x hx => ?_, fun x hx => ?_⟩
    · obtain ⟨y, hy, rfl⟩ := List.mem_map.1 hx
      exact Tm.up_ok y _ _ hb (h.2.1 y hy)
    · obtain ⟨y, hy, rfl⟩ := List.mem_map.1 hx
      exact ih y hy _ _ hb (h.2.2 y hy)
theorem Fm.put_ok (f : Fm) {s : Tm} (hs : s.ok = true) : ∀ a d, 0 ≤ a → 0 ≤ d → f.ok = true → (f.put a d s).ok = true := by
  induction f using Fm.ind with
  | _ k t m l ih =>
    intro a d ha hd h
    rw [Fm.put_mk]
    simp only [Fm.ok_mk, Bool.and_eq_true, Tm.oks_iff, Fm.oks_iff, List.length_map] at h ⊢
    refine ⟨h.1, fun x hx => ?_, fun x hx => ?_⟩
    · obtain ⟨y, hy, rfl⟩ := List.mem_map.1 hx
      exact Tm.put_ok y hs _ _ ha hd (h.2.1 y hy)
    · obtain ⟨y, hy, rfl⟩ := List.mem_map.1 hx
      exact ih y hy _ _ ha (by split <;> omega) (h.2.2 y hy)
theorem Fm.puts_count {s : Tm} {l : List Fm} {a d d' : Int} (h : ∀ x ∈ l, ((x.put a d s).count : Int) = x.count + x.times d' * ((s.count : Int) - 1)) : (Fm.counts (l.map fun x => x.put a d s) : Int) = Fm.counts l + Fm.timess l d' * ((s.count : Int) - 1) := by
  induction l with
  | nil => simp [Fm.timess]
  | cons x l ih =>
    have h1 := h x (by simp)
    have h2 := ih fun y hy => h y (by simp [hy])
    simp only [List.map_cons, Fm.counts_cons, Fm.timess, Int.natCast_add, h1, h2, Int.add_mul]
    omega
theorem Fm.put_count (f : Fm) (s : Tm) : ∀ a d, f.ok = true → ((f.put a d s).count : Int) = f.count + f.times (a + d) * ((s.count : Int) - 1) := by
  induction f using Fm.ind with
  | _ k t m l ih =>
    intro a d h
    simp only [Fm.ok_mk, Bool.and_eq_true, Tm.oks_iff, Fm.oks_iff] at h
    rw [Fm.put_mk, Fm.times_mk]
    have h1 := Tm.puts_count (a := a) (d := d) (d' := a + d) (s := s) (l := m) fun x hx => Tm.put_count x s _ _ (h.2.1 x hx)
    have h2 := Fm.puts_count (a := a) (d := if fmQ k = true then d + 1 else d) (d' := if fmQ k = true then a + d + 1 else a + d) (s := s) (l := l) fun x hx => by
      rw [ih x hx _ _ (h.2.2 x hx)]
      congr 3
      split <;> omega
    simp only [Fm.count_mk, Int.natCast_add, h1, h2, Int.add_mul]
    omega
theorem Fm.check_small {f : Fm} (h : f.ok = true) (hc : f.count ≤ 4096) : f.check = 0 := by unfold Fm.check; rw [if_pos h, if_pos hc]
theorem Tm.check_ok {f : Tm} (h : f.check = 0) : f.ok = true ∧ f.count ≤ 4096 := by
  unfold Tm.check at h
  split at h
  · split at h
    · exact ⟨by assumption, by assumption⟩
    · cases h
  · cases h
theorem Fm.check_ok2 {f : Fm} (h : f.check = 0) : f.ok = true ∧ f.count ≤ 4096 := by
  unfold Fm.check at h
  split at h
  · split at h
    · exact ⟨by assumption, by assumption⟩
    · cases h
  · cases h
theorem Tm.leasts_iff (l : List Tm) (m : Int) : Tm.leasts l m = true ↔ ∀ x ∈ l, x.least m = true := by
  induction l with
  | nil => simp [Tm.leasts]
  | cons x l ih => simp [Tm.leasts, ih]
theorem Fm.leasts_iff (l : List Fm) (m : Int) : Fm.leasts l m = true ↔ ∀ x ∈ l, x.least m = true := by
  induction l with
  | nil => simp [Fm.leasts]
  | cons x l ih => simp [Fm.leasts, ih]
theorem Tm.node_least {k : Int} {l : List Tm} {m : Int} (hm : 0 ≤ m) (h : ∀ x ∈ l, x.least m = true) : (Tm.node k l).least m = true := by
  rw [Tm.node, Tm.least]; simp [hm, (Tm.leasts_iff l m).2 h]
theorem Tm.tnode_least {k : Int} {s : Ty} {l : List Tm} {m : Int} (hm : 0 ≤ m) (h : ∀ x ∈ l, x.least m = true) : (Tm.tnode k s l).least m = true := by
  rw [Tm.tnode, Tm.least]; simp [hm, (Tm.leasts_iff l m).2 h]
theorem Tm.var_least {i m : Int} (h : i ≤ m) : (Tm.var i).least m = true := by simp [Tm.var, Tm.least, Tm.leasts, h]
theorem Tm.num_least {m : Int} (hm : 0 ≤ m) (n : Nat) : (Tm.num n).least m = true := by
  induction n with
  | zero => exact Tm.node_least hm fun x hx => by simp at hx
  | succ n ih => exact Tm.node_least hm fun x hx => by rw [List.mem_singleton.1 hx]; exact ih
theorem Tm.plus_least {m : Int} (hm : 1 ≤ m) : Tm.plus.least m = true := by
  simp [Tm.plus, Tm.lamN, Tm.recN, Tm.tnode, Tm.node, Tm.var, Tm.least, Tm.leasts]; omega
theorem Tm.sub_least {m : Int} (hm : 1 ≤ m) : Tm.sub.least m = true := by
  simp [Tm.sub, Tm.pred, Tm.lamN, Tm.recN, Tm.app, Tm.tnode, Tm.node, Tm.var, Tm.least, Tm.leasts]; omega
theorem mkTerm0_least (t : Ty) : ∀ (g : List Ty) (r : List Int) (m : Int), (g.length + t.size : Nat) ≤ m → (mkTerm0 g t r).1.least m = true := by
  induction t using Ty.ind with
  | _ k l ih =>
  intro g r m hm
  have hp := Ty.size_pos (.mk k l)
  unfold mkTerm0
  rcases hv : pickVar (vars g (.mk k l)) r with ⟨_ | i, r'⟩ <;> simp only
  rotate_left
  · obtain ⟨j, h1, h2, _⟩ := vars_mem (pickVar_some hv)
    exact Tm.var_least (by omega)
  · split
    · exact Tm.num_least (by omega) _
    · split
      · exact Tm.node_least (by omega) fun x hx => by simp at hx
      · split
        · rename_i a b
          simp at hm
          split
          · refine Tm.node_least (by omega) fun x hx => ?_
            simp only [List.mem_cons, List.not_mem_nil, or_false] at hx
            rcases hx with rfl | rfl
            · exact ih a (by simp) _ _ _ (by omega)
            · exact ih b (by simp) _ _ _ (by omega)
          · split
            · refine Tm.tnode_least (by omega) fun x hx => ?_
              rw [List.mem_singleton.1 hx]
              exact ih b (by simp) _ _ _ (by have := a.size_pos; simp; omega)
            · exact Tm.node_least (by omega) fun x hx => by simp at hx
        · exact Tm.node_least (by omega) fun x hx => by simp at hx
theorem mem2 {α : Type} {P : α → Prop} {a b : α} (ha : P a) (hb : P b) : ∀ x ∈ [a, b], P x := fun x hx => by
  simp only [List.mem_cons, List.not_mem_nil, or_false] at hx
  rcases hx with rfl | rfl <;> assumption
theorem mem1 {α : Type} {P : α → Prop} {a : α} (ha : P a) : ∀ x ∈ [a], P x := fun x hx => by rw [List.mem_singleton.1 hx]; exact ha
theorem mem3 {α : Type} {P : α → Prop} {a b c : α} (ha : P a) (hb : P b) (hc : P c) : ∀ x ∈ [a, b, c], P x := fun x hx => by
  simp only [List.mem_cons, List.not_mem_nil, or_false] at hx
  rcases hx with rfl | rfl | rfl <;> assumption
theorem mkPlain_least {n : Nat} {m : Int} (hm : 1 ≤ m) {F : List Ty → Ty → List Int → Tm × List Int} (hF : ∀ g t r, Good 64 g → t.ok = true ∧ t.size ≤ 64 → g.length ≤ n + 1 → (F g t r).1.least m = true) (g : List Ty) (t : Ty) (r : List Int) (hg : Good 64 g) (ht : t.ok = true ∧ t.size ≤ 64) (hn : g.length ≤ n) : (mkPlain F g t r).1.least m = true := by
  obtain ⟨k, l⟩ := t
  have hnat : Ty.nat.ok = true ∧ Ty.nat.size ≤ 64 := ⟨Ty.nat_ok, by simp⟩
  have go : ∀ t r, t.ok = true ∧ t.size ≤ 64 → (F g t r).1.least m = true := fun t r ht => hF g t r hg ht (by omega)
  have h0 : (0 : Int) ≤ m := by omega
  unfold mkPlain
  simp only
  split
  · split
    · exact Tm.node_least h0 (mem1 (go _ _ ht))
    · split
      · exact Tm.node_least h0 (mem2 (Tm.node_least h0 (mem2 (Tm.plus_least hm) (go _ _ ht))) (go _ _ ht))
      · split
        · exact Tm.node_least h0 (mem2 (Tm.node_least h0 (mem2 (Tm.sub_least hm) (go _ _ ht))) (go _ _ ht))
        · exact Tm.num_least h0 _
  · split
    · split
      · exact Tm.node_least h0 (mem2 (go _ _ hnat) (go _ _ ht))
      · exact Tm.node_least h0 fun x hx => by simp at hx
    · split
      · rename_i a b
        have hab := Ty.parts2 ht
        split
        · exact Tm.node_least h0 (mem2 (go _ _ hab.1) (go _ _ hab.2))
        · split
          · exact Tm.tnode_least h0 (mem1 (hF _ _ _ (hg.app (Good.one hab.1)) hab.2 (by simp; omega)))
          · exact Tm.node_least h0 fun x hx => by simp at hx
      · exact Tm.node_least h0 fun x hx => by simp at hx
theorem mkTerm_least (d : Nat) : ∀ (g : List Ty) (t : Ty) (r : List Int) (m : Int), Good 64 g → t.ok = true ∧ t.size ≤ 64 → (g.length + 3 * d + 64 : Nat) ≤ m → (mkTerm d g t r).1.least m = true := by
  induction d with
  | zero =>
    intro g t r m hg ht hm
    exact mkTerm0_least t g r m (by omega)
  | succ d ih =>
    intro g t r m hg ht hm
    have hnat : Ty.nat.ok = true ∧ Ty.nat.size ≤ 64 := ⟨Ty.nat_ok, by simp⟩
    have hlist : Ty.list.ok = true ∧ Ty.list.size ≤ 64 := ⟨Ty.list_ok, by simp⟩
    have h0 : ∀ r, (mkType 0 r).1.ok = true ∧ (mkType 0 r).1.size ≤ 64 := fun r => ⟨(mkType0 r).1, by have := (mkType0 r).2; omega⟩
    have go : ∀ (h : List Ty) t r, Good 64 h → t.ok = true ∧ t.size ≤ 64 → h.length ≤ 3 → (mkTerm d (g ++ h) t r).1.least m = true := fun h t r hh ht hl => ih _ t r m (hg.app hh) ht (by simp; omega)
    have go0 : ∀ t r, t.ok = true ∧ t.size ≤ 64 → (mkTerm d g t r).1.least m = true := fun t r ht => ih _ t r m hg ht (by omega)
    have hm0 : (0 : Int) ≤ m := by omega
    unfold mkTerm
    split
    · rename_i i r' hv
      obtain ⟨j, h1, h2, _⟩ := vars_mem (pickVar_some hv)
      exact Tm.var_least (by omega)
    · rename_i r' hv
      have plain := mkPlain_least (n := g.length) (by omega) (fun g' t r hg' ht' hn => ih g' t r m hg' ht' (by omega)) g t (next 8 r').2 hg ht (by omega)
      simp only
      split
      · exact Tm.node_least hm0 (mem2 (Tm.tnode_least hm0 (mem1 (go _ _ _ (Good.one (h0 _)) ht (by simp)))) (go0 _ _ (h0 _)))
      · split
        · exact Tm.node_least hm0 (mem1 (Tm.node_least hm0 (mem2 (go0 _ _ ht) (go0 _ _ (h0 _)))))
        · split
          · exact Tm.tnode_least hm0 (mem3 (go0 _ _ ht) (Tm.tnode_least hm0 (mem1 (Tm.tnode_least hm0 (mem1 (go _ _ _ (Good.cons hnat (Good.one ht)) ht (by simp)))))) (Tm.num_least hm0 _))
          · split
            · exact Tm.tnode_least hm0 (mem3 (go0 _ _ ht) (Tm.tnode_least hm0 (mem1 (Tm.tnode_least hm0 (mem1 (Tm.tnode_least hm0 (mem1 (go _ _ _ (Good.cons hnat (Good.cons hlist (Good.one ht))) ht (by simp)))))))) (go0 _ _ hlist))
            · split
              · exact Tm.node_least hm0 (mem1 (Tm.node_least hm0 (mem2 (go0 _ _ (h0 _)) (go0 _ _ ht))))
              · split
                · split
                  · rename_i i a hf
                    obtain ⟨j, e1, e2, e3⟩ := funFrom_mem t _ _ _ _ hf
                    have hga := hg (.fn a t) (by have := List.mem_of_getElem? e3; simpa using this)
                    have ha := (Ty.parts2 hga).1
                    simp only [List.length_reverse] at e2
                    exact Tm.node_least hm0 (mem2 (Tm.var_least (by omega)) (go0 _ _ ha))
                  · exact plain
                · exact plain
theorem Fm.eq_least {s t : Tm} {m : Int} (hs : s.least m = true) (ht : t.least m = true) : (Fm.eq s t).least m = true := by
  rw [Fm.eq, Fm.least]; simp [Tm.leasts, Fm.leasts, hs, ht]
theorem Fm.two_least {k : Int} {a b : Fm} {m : Int} (hs : a.least m = true) (ht : b.least m = true) : (Fm.two k a b).least m = true := by
  rw [Fm.two, Fm.least]; simp [Tm.leasts, Fm.leasts, hs, ht]
theorem Fm.q_least {k : Int} {s : Ty} {a : Fm} {m : Int} (hs : a.least m = true) : (Fm.q k s a).least m = true := by
  rw [Fm.q, Fm.least]; simp [Tm.leasts, Fm.leasts, hs]
theorem mkFormula_least (d : Nat) : ∀ (g : List Ty) (r : List Int) (m : Int), Good 64 g → (g.length + d + 67 : Nat) ≤ m → (mkFormula d g r).1.least m = true := by
  have hnat : Ty.nat.ok = true ∧ Ty.nat.size ≤ 64 := ⟨Ty.nat_ok, by simp⟩
  have eqn : ∀ (g : List Ty) (r : List Int) (m : Int), Good 64 g → (g.length + 67 : Nat) ≤ m → (Fm.eq (mkTerm 1 g .nat r).1 (mkTerm 1 g .nat (mkTerm 1 g .nat r).2).1).least m = true := fun g r m hg hm =>
    Fm.eq_least (mkTerm_least 1 g .nat r m hg hnat (by omega)) (mkTerm_least 1 g .nat _ m hg hnat (by omega))
  have up3 : ∀ {t : Ty}, t.ok = true ∧ t.size ≤ 3 → t.ok = true ∧ t.size ≤ 64 := fun h => ⟨h.1, by have := h.2; omega⟩
  have up1 : ∀ {t : Ty}, t.ok = true ∧ t.size ≤ 1 → t.ok = true ∧ t.size ≤ 64 := fun h => ⟨h.1, by have := h.2; omega⟩
  induction d with
  | zero => exact fun g r m hg hm => eqn g r m hg (by omega)
  | succ d ih =>
    intro g r m hg hm
    have two : ∀ k, (Fm.two k (mkFormula d g (next 9 r).2).1 (mkFormula d g (mkFormula d g (next 9 r).2).2).1).least m = true := fun k => Fm.two_least (ih _ _ _ hg (by omega)) (ih _ _ _ hg (by omega))
    have q : ∀ k s r', s.ok = true ∧ s.size ≤ 64 → (Fm.q k s (mkFormula d (g ++ [s]) r').1).least m = true := fun k s r' hs => Fm.q_least (ih _ _ _ (hg.app (Good.one hs)) (by simp; omega))
    unfold mkFormula
    simp only
    split
    · exact two 2
    · split
      · exact two 3
      · split
        · exact q _ _ _ (up3 (mkType1 _))
        · split
          · exact q _ _ _ (up3 (mkType1 _))
          · split
            · exact q _ _ _ (up1 (mkType0 _))
            · exact eqn _ _ _ hg (by omega)
end Go.Proofs.YtnpgbkldpdogjaaGreatDoor.V

namespace Go.Proofs.YtnpgbkldpdogjaaGreatDoor.V
open Go
theorem next_suf (n : Int) (r : List Int) : (next n r).2 <:+ r := by
  cases r with
  | nil => exact List.suffix_refl _
  | cons x r =>
    simp only [next]
    split
    · exact List.suffix_refl _
    · exact List.suffix_cons x r
theorem mkType_suf (d : Nat) : ∀ r, (mkType d r).2 <:+ r := by
  induction d with
  | zero =>
    intro r
    unfold mkType
    simp only
    repeat' split
    all_goals exact next_suf 7 r
  | succ d ih =>
    intro r
    unfold mkType
    simp only
    repeat' split
    all_goals first
      | exact next_suf 7 r
      | exact ((ih _).trans (ih _)).trans (next_suf 7 r)
theorem mkTypes_suf (d k : Nat) : ∀ r, (mkTypes d k r).2 <:+ r := by
  induction k with
  | zero => exact fun r => List.suffix_refl _
  | succ k ih => exact fun r => (ih _).trans (mkType_suf d r)
theorem mkContext_suf (r : List Int) : (mkContext r).2 <:+ r := (mkTypes_suf _ _ _).trans (next_suf 4 r)
theorem pickVar_suf {l r r' : List Int} {o : Option Int} (h : pickVar l r = (o, r')) : r' <:+ r := by
  unfold pickVar at h
  split at h
  · cases h; exact List.suffix_refl _
  · simp only at h
    split at h
    · cases h; exact (next_suf _ _).trans (next_suf _ _)
    · cases h; exact next_suf _ _
theorem mkTerm0_suf (t : Ty) : ∀ (g : List Ty) (r : List Int), (mkTerm0 g t r).2 <:+ r := by
  induction t using Ty.ind with
  | _ k l ih =>
  intro g r
  unfold mkTerm0
  rcases hv : pickVar (vars g (.mk k l)) r with ⟨_ | i, r'⟩ <;> simp only
  rotate_left
  · exact pickVar_suf hv
  · refine List.IsSuffix.trans ?_ (pickVar_suf hv)
    repeat' split
    · exact next_suf _ _
    · exact List.suffix_refl _
    · exact (ih _ (by simp) _ _).trans (ih _ (by simp) _ _)
    · exact ih _ (by simp) _ _
    · exact List.suffix_refl _
    · exact List.suffix_refl _
theorem mkPlain_suf {F : List Ty → Ty → List Int → Tm × List Int} (hF : ∀ g t r, (F g t r).2 <:+ r) (g : List Ty) (t : Ty) (r : List Int) : (mkPlain F g t r).2 <:+ r := by
  obtain ⟨k, l⟩ := t
  unfold mkPlain
  simp only
  repeat' split
  all_goals first
    | exact List.suffix_refl _
    | exact next_suf _ _
    | exact (hF _ _ _).trans (next_suf _ _)
    | exact ((hF _ _ _).trans (hF _ _ _)).trans (next_suf _ _)
    | exact (next_suf _ _).trans (next_suf _ _)
    | exact (hF _ _ _).trans (hF _ _ _)
    | exact hF _ _ _
theorem mkTerm_suf (d : Nat) : ∀ (g : List Ty) (t : Ty) (r : List Int), (mkTerm d g t r).2 <:+ r := by
  induction d with
  | zero => exact fun g t r => mkTerm0_suf t g r
  | succ d ih =>
    intro g t r
    unfold mkTerm
    split
    · rename_i i r' hv; exact pickVar_suf hv
    · rename_i r' hv
      refine List.IsSuffix.trans ?_ (pickVar_suf hv)
      have plain := mkPlain_suf (fun g t r => ih g t r) g t (next 8 r').2
      simp only
      repeat' split
      · exact (((ih _ _ _).trans (ih _ _ _)).trans (mkType_suf _ _)).trans (next_suf _ _)
      · exact (((ih _ _ _).trans (ih _ _ _)).trans (mkType_suf _ _)).trans (next_suf _ _)
      · exact (((next_suf _ _).trans (ih _ _ _)).trans (ih _ _ _)).trans (next_suf _ _)
      · exact (((ih _ _ _).trans (ih _ _ _)).trans (ih _ _ _)).trans (next_suf _ _)
      · exact (((ih _ _ _).trans (ih _ _ _)).trans (mkType_suf _ _)).trans (next_suf _ _)
      · exact (ih _ _ _).trans (next_suf _ _)
      · exact plain.trans (next_suf _ _)
      · exact plain.trans (next_suf _ _)
theorem mkFormula_suf (d : Nat) : ∀ (g : List Ty) (r : List Int), (mkFormula d g r).2 <:+ r := by
  induction d with
  | zero => exact fun g r => (mkTerm_suf _ _ _ _).trans (mkTerm_suf _ _ _ _)
  | succ d ih =>
    intro g r
    unfold mkFormula
    simp only
    repeat' split
    · exact ((ih _ _).trans (ih _ _)).trans (next_suf _ _)
    · exact ((ih _ _).trans (ih _ _)).trans (next_suf _ _)
    · exact ((ih _ _).trans (mkType_suf _ _)).trans (next_suf _ _)
    · exact ((ih _ _).trans (mkType_suf _ _)).trans (next_suf _ _)
    · exact (((ih _ _).trans (next_suf _ _)).trans (mkType_suf _ _)).trans (next_suf _ _)
    · exact ((mkTerm_suf _ _ _ _).trans (mkTerm_suf _ _ _ _)).trans (next_suf _ _)
end Go.Proofs.YtnpgbkldpdogjaaGreatDoor.V

namespace Go.Proofs.YtnpgbkldpdogjaaGreatDoor.V
open Go
structure Pl where
  d : Nat
  t : Nat
  v : Nat
def Pl.ptr (p : Pl) : PV := .one (.box p.d p.t p.v 0)
def cellsAt (σ : List Frm) (p : Pl) : Option (List Cell) := (σ[p.d]?).bind fun f => (f p.t)[p.v]?
def setLoc (loc : Frm) (p : Pl) (cs : List Cell) : Frm := upd loc p.t ((loc p.t).set p.v cs)
def setC (σ : List Frm) (p : Pl) (cs : List Cell) : List Frm := σ.modify p.d fun f => setLoc f p cs
def Has (σ : List Frm) (p : Pl) : Prop := ∃ cs, cellsAt σ p = some cs
theorem cellsAt_lt {σ : List Frm} {p : Pl} {cs : List Cell} (h : cellsAt σ p = some cs) : p.d < σ.length := by
  unfold cellsAt at h
  cases hd : σ[p.d]? with
  | none => rw [hd] at h; cases h
  | some f => exact (List.getElem?_eq_some_iff.1 hd).1
theorem Has.lt {σ : List Frm} {p : Pl} (h : Has σ p) : p.d < σ.length := by obtain ⟨c, h⟩ := h; exact cellsAt_lt h
@[simp] theorem setC_length (σ : List Frm) (p : Pl) (cs : List Cell) : (setC σ p cs).length = σ.length := by simp [setC]
theorem setLoc_setLoc (f : Frm) (p : Pl) (a b : List Cell) : setLoc (setLoc f p a) p b = setLoc f p b := by
  funext j
  simp only [setLoc, upd]
  split
  · simp
  · rfl
@[simp] theorem setC_setC (σ : List Frm) (p : Pl) (a b : List Cell) : setC (setC σ p a) p b = setC σ p b := by
  simp only [setC, List.modify_modify_eq]
  congr 1
  funext f
  exact setLoc_setLoc f p a b
theorem setLoc_get {f : Frm} {p : Pl} {cs a : List Cell} (h : (f p.t)[p.v]? = some cs) : (setLoc f p a p.t)[p.v]? = some a := by
  have := (List.getElem?_eq_some_iff.1 h).1
  simp [setLoc, this]
theorem cellsAt_setC {σ : List Frm} {p : Pl} {cs a : List Cell} (h : cellsAt σ p = some cs) : cellsAt (setC σ p a) p = some a := by
  unfold cellsAt at h ⊢
  cases hd : σ[p.d]? with
  | none => rw [hd] at h; cases h
  | some f =>
    rw [hd] at h
    simp only [setC, List.getElem?_modify, hd, if_true, Option.map_some, Option.bind_some]
    exact setLoc_get h
theorem setLoc_self {f : Frm} {p : Pl} {cs : List Cell} (h : (f p.t)[p.v]? = some cs) : setLoc f p cs = f := by
  funext j
  simp only [setLoc, upd]
  split
  · rename_i e; subst e
    obtain ⟨hlt, he⟩ := List.getElem?_eq_some_iff.1 h
    rw [← he]
    exact List.set_getElem_self hlt
  · rfl
theorem setC_append {σ : List Frm} {p : Pl} (hp : p.d < σ.length) (τ : List Frm) (cs : List Cell) : setC (σ ++ τ) p cs = setC σ p cs ++ τ := by
  refine List.ext_getElem? fun j => ?_
  simp only [setC, List.getElem?_modify]
  by_cases hj : j < σ.length
  · rw [List.getElem?_append_left hj, List.getElem?_append_left (by simpa using hj), List.getElem?_modify]
  · have e : ¬ p.d = j := by omega
    rw [List.getElem?_append_right (by omega), List.getElem?_append_right (by simpa using by omega)]
    simp [e]
theorem setC_own (σ : List Frm) (loc : Frm) (t v : Nat) (cs : List Cell) : setC (σ ++ [loc]) ⟨σ.length, t, v⟩ cs = σ ++ [setLoc loc ⟨σ.length, t, v⟩ cs] := by
  refine List.ext_getElem? fun j => ?_
  simp only [setC, List.getElem?_modify]
  by_cases hj : j < σ.length
  · have e : ¬ σ.length = j := by omega
    rw [List.getElem?_append_left hj, List.getElem?_append_left hj]
    simp [e]
  · by_cases e : σ.length = j
    · subst e; simp
    · rw [List.getElem?_eq_none (by simp; omega), List.getElem?_eq_none (by simp; omega)]
      simp
theorem cellsAt_append {σ : List Frm} {p : Pl} (hp : p.d < σ.length) (τ : List Frm) : cellsAt (σ ++ τ) p = cellsAt σ p := by
  unfold cellsAt
  rw [List.getElem?_append_left hp]
theorem Has.app {σ : List Frm} {p : Pl} (h : Has σ p) (τ : List Frm) : Has (σ ++ τ) p := by
  obtain ⟨cs, h⟩ := h
  exact ⟨cs, by rw [cellsAt_append (cellsAt_lt h)]; exact h⟩
theorem Has.set {σ : List Frm} {p : Pl} (h : Has σ p) (cs : List Cell) : Has (setC σ p cs) p := by
  obtain ⟨c, h⟩ := h
  exact ⟨cs, cellsAt_setC h⟩
theorem Has.own {σ : List Frm} {loc : Frm} {t v : Nat} (h : v < (loc t).length) : Has (σ ++ [loc]) ⟨σ.length, t, v⟩ := by
  refine ⟨(loc t)[v], ?_⟩
  unfold cellsAt
  simp [h]
theorem readBox_setC {env : Nat → PV} {loc : Frm} {σ : List Frm} {live : Live} {p : Pl} {cs : List Cell} (h : Has σ p) : readBox ⟨env, loc, setC σ p cs, live⟩ p.d p.t p.v = some cs := by
  have hlt := h.lt
  obtain ⟨c, h⟩ := h
  have e : ¬ p.d = σ.length := by omega
  have := cellsAt_setC (a := cs) h
  simp only [readBox, setC_length, if_neg e]
  exact this
theorem modify_set {α : Type} (l : List α) (v : Nat) (a : α) (g : α → α) : (l.set v a).modify v g = l.set v (g a) := by
  refine List.ext_getElem? fun j => ?_
  rw [List.getElem?_modify]
  by_cases e : v = j
  · subst e
    by_cases hv : v < l.length
    · simp [hv]
    · rw [List.getElem?_eq_none (by simpa using hv), List.getElem?_eq_none (by simpa using hv)]; simp
  · rw [List.getElem?_set_ne e, List.getElem?_set_ne e]
    simp [e]
theorem setC_modify (σ : List Frm) (p : Pl) (cs : List Cell) (g : List Cell → List Cell) : ((setC σ p cs).modify p.d fun f => upd f p.t ((f p.t).modify p.v g)) = setC σ p (g cs) := by
  simp only [setC, List.modify_modify_eq]
  congr 1
  funext f
  funext j
  simp only [Function.comp, setLoc, upd, if_true]
  split
  · exact modify_set _ _ _ _
  · rfl
theorem writeBox_setC {env : Nat → PV} {loc : Frm} {σ : List Frm} {live : Live} {p : Pl} {cs : List Cell} {off : Nat} {ns : List Cell} (h : Has σ p) : writeBox ⟨env, loc, setC σ p cs, live⟩ p.d p.t p.v off ns = ⟨env, loc, setC σ p (splice cs off (ns.map erC)), live⟩ := by
  have e : ¬ p.d = σ.length := by have := h.lt; omega
  simp only [writeBox, setC_length, if_neg e, setC_modify]
section
variable {C : Cfg} {K k : St → Prop} {st : St} {dst : Option Nat} {ty : TypeId}
@[simp] theorem opP_nilCheck {x : Operand} : opP C dst (.nilCheck x) ty k st = ((∃ q, addrP (oper C st.env x) 0 = some q) ∧ k (put st dst (oper C st.env x))) := by
  have e : opP C dst (.nilCheck x) ty k st = opV C ⟨dst, .nilCheck x, ty, "", #[], none⟩ k st := rfl
  rw [e]
  simp only [opV, opR, eq_iff_iff]
  constructor
  · rintro ⟨r, ⟨h1, rfl⟩, h2⟩; exact ⟨h1, h2⟩
  · rintro ⟨h1, h2⟩; exact ⟨_, ⟨h1, rfl⟩, h2⟩
@[simp] theorem intC_rem {k : IntKind} {a b : Int} : intC .rem k a b = if b = 0 then none else some (.int k (a.tmod b)) := rfl
@[simp] theorem intC_quo {k : IntKind} {a b : Int} : intC .quo k a b = if b = 0 then none else some (.int k (k.wrap (a.tdiv b))) := rfl
theorem opV_at {f : Nat} {xs : Array Operand} {ts : Array TypeId} {p : String} {af : Array Edge} {g : Option (Nat × Bool)} {v : PV} {ps : List PV} {env : Nat → PV} {loc : Frm} {σ : List Frm} {live : Live} {q : Pl} {cs cs' : List Cell}
    (h : ∀ σ, Has σ q → CallsV C f ps (setC σ q cs) (.val v) (setC σ q cs')) (hH : Has σ q) (ha : argsT C env ts.toList xs.toList = ps) (hk : K (put ⟨env, loc, setC σ q cs', live⟩ dst v)) :
    opV C ⟨dst, .call ⟨.value (.func f), xs, ts⟩, ty, p, af, g⟩ K ⟨env, loc, setC σ q cs, live⟩ := by
  simp only [opV, CallV]
  have := h (σ ++ [loc]) (hH.app _)
  rw [setC_append hH.lt, setC_append hH.lt] at this
  refine ⟨f, [], .val v, _, setC σ q cs', loc, rfl, ?_, rfl, by simp, hk⟩
  rw [ha]
  simpa using this
theorem opV_own1 {f : Nat} {xs : Array Operand} {ts : Array TypeId} {p : String} {af : Array Edge} {g : Option (Nat × Bool)} {v : PV} {ps : List PV} {env : Nat → PV} {loc : Frm} {σ : List Frm} {live : Live} {t w : Nat} {cs cs' : List Cell}
    (h : ∀ σ' : List Frm, Has σ' ⟨σ.length, t, w⟩ → CallsV C f ps (setC σ' ⟨σ.length, t, w⟩ cs) (.val v) (setC σ' ⟨σ.length, t, w⟩ cs')) (hH : (loc t)[w]? = some cs) (ha : argsT C env ts.toList xs.toList = ps) (hk : K (put ⟨env, setLoc loc ⟨σ.length, t, w⟩ cs', σ, live⟩ dst v)) :
    opV C ⟨dst, .call ⟨.value (.func f), xs, ts⟩, ty, p, af, g⟩ K ⟨env, loc, σ, live⟩ := by
  simp only [opV, CallV]
  have := h (σ ++ [loc]) (Has.own (List.getElem?_eq_some_iff.1 hH).1)
  have e : setLoc loc ⟨σ.length, t, w⟩ cs = loc := setLoc_self hH
  rw [setC_own, setC_own, e] at this
  refine ⟨f, [], .val v, _, σ, setLoc loc ⟨σ.length, t, w⟩ cs', rfl, ?_, rfl, rfl, hk⟩
  rw [ha]
  simpa using this
theorem readBox_other {env : Nat → PV} {loc : Frm} {σ : List Frm} {live : Live} {q : Pl} {cs cs' : List Cell} {env' : Nat → PV} {d t v : Nat} (hq : q.d < σ.length) (h : ¬ (d = q.d ∧ t = q.t ∧ v = q.v)) : readBox ⟨env, loc, setC σ q cs, live⟩ d t v = readBox ⟨env', loc, setC σ q cs', live⟩ d t v := by
  simp only [readBox, setC_length]
  split
  · rfl
  · simp only [setC, List.getElem?_modify]
    by_cases e : q.d = d
    · subst e
      simp only [if_true, Option.map_eq_map]
      cases σ[q.d]? with
      | none => rfl
      | some f =>
        simp only [Option.map_some, Option.bind_some, setLoc, upd]
        split
        · rename_i e; subst e
          have : ¬ v = q.v := fun e => h ⟨rfl, rfl, e⟩
          rw [List.getElem?_set_ne (fun e => this e.symm), List.getElem?_set_ne (fun e => this e.symm)]
        · rfl
    · simp [e]
def atPl (q : Pl) : Nat → Nat → Nat → Bool := fun d t v => decide (d = q.d ∧ t = q.t ∧ v = q.v)
theorem stepD_at {vs : Nat → Nat} {fr : Bool} {f : Nat} {xs : Array Operand} {ts : Array TypeId} {p : String} {af : Array Edge} {g : Option (Nat × Bool)} {v : PV} {ps : List PV} {env : Nat → PV} {loc : Frm} {σ : List Frm} {live : Live} {q : Pl} {cs cs' : List Cell}
    (h : ∀ σ, Has σ q → CallsV C f ps (setC σ q cs) (.val v) (setC σ q cs')) (hH : Has σ q) (ha : argsT C env ts.toList xs.toList = ps) (hk : K (put ⟨env, loc, setC σ q cs', live⟩ dst v)) :
    stepD C (atPl q) vs fr ⟨dst, .call ⟨.value (.func f), xs, ts⟩, ty, p, af, g⟩ K ⟨env, loc, setC σ q cs, live⟩ := by
  simp only [stepD]
  refine opV_at h hH ha ⟨fun _ => ⟨by cases dst <;> simp [put], fun d t w hw => ?_⟩, hk⟩
  have := readBox_other (env := (put ⟨env, loc, setC σ q cs', live⟩ dst v).env) (loc := loc) (live := live) (cs := cs') (cs' := cs) (env' := env) (d := d) (t := t) (v := w) hH.lt (by simpa [atPl] using hw)
  cases dst <;> exact this
end
@[simp] theorem atPl_lt {q : Pl} {d t v : Nat} (h : d ≠ q.d) : atPl q d t v = false := by simp [atPl, h]
@[simp] theorem readBox_locC {env : Nat → PV} {loc : Frm} {σ : List Frm} {live : Live} {p : Pl} {cs : List Cell} {tt v : Nat} : readBox ⟨env, loc, setC σ p cs, live⟩ σ.length tt v = (loc tt)[v]? := by
  rw [← setC_length σ p cs]; exact readBox_loc
@[simp] theorem writeBox_locC {env : Nat → PV} {loc : Frm} {σ : List Frm} {live : Live} {p : Pl} {cs : List Cell} {tt v off : Nat} {ns : List Cell} : writeBox ⟨env, loc, setC σ p cs, live⟩ σ.length tt v off ns = ⟨env, upd loc tt ((loc tt).modify v fun cs => splice cs off ns), setC σ p cs, live⟩ := by
  rw [← setC_length σ p cs]; exact writeBox_loc
@[simp] theorem setLoc_eq {f : Frm} {d t v : Nat} {cs : List Cell} {j : Nat} : setLoc f ⟨d, t, v⟩ cs j = if j = t then (f t).set v cs else f j := by
  simp only [setLoc, upd]
theorem opV_new {C : Cfg} {K : St → Prop} {ty : TypeId} {f : Nat} {xs : Array Operand} {ts : Array TypeId} {p : String} {af : Array Edge} {g : Option (Nat × Bool)} {ps : List PV} {env : Nat → PV} {loc : Frm} {σ : List Frm} {live : Live} {d : Nat} {cs : List Cell}
    (h : CallsV C f ps (σ ++ [loc]) (.new cs) (σ ++ [loc])) (ha : argsT C env ts.toList xs.toList = ps) (hk : K ⟨upd env d (.one (.box σ.length d (loc d).length 0)), upd loc d (loc d ++ [cs]), σ, live⟩) :
    opV C ⟨some d, .call ⟨.value (.func f), xs, ts⟩, ty, p, af, g⟩ K ⟨env, loc, σ, live⟩ := by
  simp only [opV, CallV]
  refine ⟨f, [], .new cs, _, σ, loc, rfl, ?_, rfl, rfl, d, rfl, hk⟩
  rw [ha]
  simpa using h
theorem stepD_own {C : Cfg} {K : St → Prop} {ty : TypeId} {dst : Option Nat} {vs : Nat → Nat} {fr : Bool} {f : Nat} {xs : Array Operand} {ts : Array TypeId} {p : String} {af : Array Edge} {g : Option (Nat × Bool)} {v : PV} {ps : List PV} {env : Nat → PV} {loc : Frm} {σ : List Frm} {live : Live} {t w : Nat} {cs cs' : List Cell}
    (h : ∀ σ' : List Frm, Has σ' ⟨σ.length, t, w⟩ → CallsV C f ps (setC σ' ⟨σ.length, t, w⟩ cs) (.val v) (setC σ' ⟨σ.length, t, w⟩ cs')) (hH : (loc t)[w]? = some cs) (ha : argsT C env ts.toList xs.toList = ps) (hk : K (put ⟨env, setLoc loc ⟨σ.length, t, w⟩ cs', σ, live⟩ dst v)) :
    stepD C (atPl ⟨σ.length, t, w⟩) vs fr ⟨dst, .call ⟨.value (.func f), xs, ts⟩, ty, p, af, g⟩ K ⟨env, loc, σ, live⟩ := by
  simp only [stepD]
  refine opV_own1 h hH ha ⟨fun _ => ⟨by cases dst <;> simp [put], fun d t' w' hw => ?_⟩, hk⟩
  have key : readBox ⟨env, setLoc loc ⟨σ.length, t, w⟩ cs', σ, live⟩ d t' w' = readBox ⟨env, loc, σ, live⟩ d t' w' := by
    simp only [readBox]
    split
    · rename_i e
      simp only [setLoc, upd]
      split
      · rename_i e2
        subst e e2
        have : ¬ w' = w := fun e => by simp [atPl, e] at hw
        rw [List.getElem?_set_ne (fun e => this e.symm)]
      · rfl
    · rfl
  cases dst <;> exact key
end Go.Proofs.YtnpgbkldpdogjaaGreatDoor.V
