/-
Parts of the proof of one law, put together by program: part 6.
-/
import Derived.Test.YtcgmhnlmgomlgaaGreatDoorKC5
set_option linter.unusedSimpArgs false
set_option linter.unusedVariables false
set_option maxRecDepth 100000
namespace Go.Proofs.YtcgmhnlmgomlgaaGreatDoor.V
open Go Go.Proofs
def z25 : List Cell := [.int .i64 0, .slice .full 2 []]
def i57 (t : Ty) (k : Int) (l : List Ty) (σ : List Frm) (j : Nat) : St → Prop
  | ⟨env, loc, σ', live⟩ => ∃ ow, env 2 = .one (.box σ.length 2 0 0) ∧ env 3 = .one (.box σ.length 3 0 0) ∧ env 10 = .one (.slice .no 2 (l.map enc)) ∧ env 11 = .one (.int .i64 l.length) ∧ env 12 = .one (.int .i64 j) ∧
    loc 2 = [z25] ∧ loc 3 = [[.int .i64 k, .slice ow 2 ((l.take j).map enc)]] ∧ σ' = σ ∧ okOwn live ow
theorem c57 (t : Ty) : t.size ≤ 1099511627776 → ∀ (σ : List Frm), CallsV cfg 57 [.agg (enc t)] σ (.val (.agg (enc t))) σ := by
  induction t using Ty.ind with
  | _ k l ih =>
  intro hsz σ
  simp at hsz
  have hlen := Ty.length_le l
  refine w57 (by simp) ?_
  rw [s57]
  simp
  refine wpP_range l.length (i57 (.mk k l) k l σ) (by omega) ⟨.full, by simp, by simp, by simp, by simp, by simp, by simp [z25], by simp, rfl, by simp⟩ ?_ ?_ (hend := ?_)
  · rintro j ⟨env, loc, σ', live⟩ ⟨ow, e2, e3, e10, e11, e12, h2, h3, rfl, how⟩
    exact ⟨e12, e11⟩
  · rintro j ⟨env, loc, σ', live⟩ hj ⟨ow, e2, e3, e10, e11, e12, h2, h3, rfl, how⟩
    obtain ⟨x, hx, hd, hm⟩ := drop_cons hj
    have := Ty.sizes_mem hm
    simp [e2, e3, e10, e11, e12, hx]
    refine wpP_draw (fun _ _ _ => false) ?_
    simp [e2, e3, e10, e11, e12, h3]
    refine stepD_call (ih x hm (by omega) _) (by simp) ?_
    simp [how, e2, e3, e10, e11, e12, h3]
    exact ⟨by omega, by omega, .tip live.nx, by simp, by simp, by simp, by simp, by simp, by simp [h2], by simp [List.take_add_one, hx], rfl, grown_on⟩
  · rintro ⟨env, loc, σ', live⟩ ⟨ow, e2, e3, e10, e11, e12, h2, h3, rfl, how⟩
    simp [e2, e3, h2, h3, z25]
def i143 (k' : Int) (l m : List Ty) (σ : List Frm) (j : Nat) : St → Prop
  | ⟨env, loc, σ', _⟩ => env 3 = .one (.box σ.length 3 0 0) ∧ env 22 = .one (.slice .no 2 (l.map enc)) ∧ env 23 = .one (.int .i64 l.length) ∧ env 24 = .one (.int .i64 j) ∧
    loc 3 = [enc (.mk k' m)] ∧ σ' = σ ∧ Ty.sames l m = Ty.sames (l.drop j) (m.drop j)
theorem c143 (a : Ty) : ∀ (b : Ty), a.size ≤ 1099511627776 → ∀ (σ : List Frm), CallsV cfg 143 [.agg (enc a), .agg (enc b)] σ (.val (.one (.bool (Ty.same a b)))) σ := by
  induction a using Ty.ind with
  | _ k l ih =>
  rintro ⟨k', m⟩ hsz σ
  simp at hsz
  have hlen := Ty.length_le l
  refine w143 (by simp) ?_
  rw [s143]
  by_cases hk : k = k'
  rotate_left
  · simp [hk]
  subst hk
  by_cases hl : l.length = m.length
  rotate_left
  · have : Ty.sames l m = false := by
      cases h : Ty.sames l m with
      | false => rfl
      | true => exact absurd (Ty.sames_length h) hl
    have hl' : ((l.length : Int) == (m.length : Int)) = false := by simpa using (by omega : ¬ (l.length : Int) = m.length)
    simp [hl', this, bne]
  have hl' : ((l.length : Int) == (m.length : Int)) = true := by rw [hl]; simp
  simp [hl', bne]
  refine wpP_range l.length (i143 k l m σ) (by omega) ⟨by simp, by simp, by simp, by simp, by simp, rfl, by simp⟩ ?_ ?_ (hend := ?_)
  · rintro j ⟨env, loc, σ', live⟩ ⟨e3, e22, e23, e24, h3, rfl, hs⟩
    exact ⟨e24, e23⟩
  · rintro j ⟨env, loc, σ', live⟩ hj ⟨e3, e22, e23, e24, h3, rfl, hs⟩
    obtain ⟨x, hx, hd, hmx⟩ := drop_cons hj
    obtain ⟨y, hy, hd', _⟩ := drop_cons (hl ▸ hj)
    have := Ty.sizes_mem hmx
    simp [e3, e22, e23, e24, hx]
    refine wpP_draw (fun _ _ _ => false) ?_
    simp [e3, e22, e23, e24, h3, hy]
    refine stepD_call (ih x hmx y (by omega) _) (by simp) ?_
    rw [hd, hd', Ty.sames_cons] at hs
    cases hxy : Ty.same x y with
    | false =>
      rw [hxy] at hs
      simp [hs]
    | true =>
      rw [hxy] at hs
      simp [e3, e22, e23, e24]
      exact ⟨by simp, by simp, by simp, by simp, by simp [h3], rfl, by simpa using hs⟩
  · rintro ⟨env, loc, σ', live⟩ ⟨e3, e22, e23, e24, h3, rfl, hs⟩
    rw [List.drop_length, hl, List.drop_length] at hs
    simp [hs]
def i144 (b : Tm) (l m : List Tm) (σ : List Frm) (j : Nat) : St → Prop
  | ⟨env, loc, σ', _⟩ => env 3 = .one (.box σ.length 3 0 0) ∧ env 37 = .one (.slice .no 5 (l.map encT)) ∧ env 38 = .one (.int .i64 l.length) ∧ env 39 = .one (.int .i64 j) ∧
    loc 3 = [encT b] ∧ σ' = σ ∧ Tm.sames l m = Tm.sames (l.drop j) (m.drop j)
theorem c144 (a : Tm) : ∀ (b : Tm), a.size ≤ 1099511627776 → ∀ (σ : List Frm), CallsV cfg 144 [.agg (encT a), .agg (encT b)] σ (.val (.one (.bool (a.same b)))) σ := by
  induction a using Tm.ind with
  | _ k i t l ih =>
  rintro ⟨k', i', t', m⟩ hsz σ
  simp at hsz
  have hlen := Tm.length_le l
  have hsp := t.size_pos
  refine w144 (by simp) ?_
  rw [s144, Tm.same_mk]
  by_cases hk : k = k'
  rotate_left
  · simp [hk]
  subst hk
  by_cases hi : i = i'
  rotate_left
  · simp [hi]
  subst hi
  simp
  refine opV_call (c143 t t' (by omega) _) (by simp) ?_
  cases ht : Ty.same t t' with
  | false => simp
  | true =>
    by_cases hl : l.length = m.length
    rotate_left
    · have : Tm.sames l m = false := by
        cases h : Tm.sames l m with
        | false => rfl
        | true => exact absurd (Tm.sames_length h) hl
      have hl' : ¬ (l.length : Int) = m.length := by omega
      simp [hl', this]
    have hl' : ((l.length : Int) = (m.length : Int)) = True := by simp [hl]
    simp [hl']
    refine wpP_range l.length (i144 (.mk k i t' m) l m σ) (by omega) ⟨by simp, by simp, by simp, by simp, by simp, rfl, by simp⟩ ?_ ?_ (hend := ?_)
    · rintro j ⟨env, loc, σ', live⟩ ⟨e3, e37, e38, e39, h3, rfl, hs⟩
      exact ⟨e39, e38⟩
    · rintro j ⟨env, loc, σ', live⟩ hj ⟨e3, e37, e38, e39, h3, rfl, hs⟩
      obtain ⟨x, hx, hd, hmx⟩ := drop_cons hj
      obtain ⟨y, hy, hd', _⟩ := drop_cons (hl ▸ hj)
      have := Tm.sizes_mem hmx
      simp [e3, e37, e38, e39, hx]
      refine wpP_draw (fun _ _ _ => false) ?_
      simp [e3, e37, e38, e39, h3, hy]
      refine stepD_call (ih x hmx y (by omega) _) (by simp) ?_
      rw [hd, hd', Tm.sames_cons] at hs
      cases hxy : x.same y with
      | false =>
        rw [hxy] at hs
        simp [hs]
      | true =>
        rw [hxy] at hs
        simp [e3, e37, e38, e39]
        exact ⟨by simp, by simp, by simp, by simp, by simp [h3], rfl, by simpa using hs⟩
    · rintro ⟨env, loc, σ', live⟩ ⟨e3, e37, e38, e39, h3, rfl, hs⟩
      rw [List.drop_length, hl, List.drop_length] at hs
      simp [hs]
def i121a (a b : Fm) (l m : List Tm) (σ : List Frm) (j : Nat) : St → Prop
  | ⟨env, loc, σ', _⟩ => env 2 = .one (.box σ.length 2 0 0) ∧ env 3 = .one (.box σ.length 3 0 0) ∧ env 41 = .one (.slice .no 5 (l.map encT)) ∧ env 42 = .one (.int .i64 l.length) ∧ env 43 = .one (.int .i64 j) ∧
    loc 2 = [encF a] ∧ loc 3 = [encF b] ∧ σ' = σ ∧ Tm.sames l m = Tm.sames (l.drop j) (m.drop j)
def i121b (b : Fm) (l m : List Fm) (σ : List Frm) (j : Nat) : St → Prop
  | ⟨env, loc, σ', _⟩ => env 3 = .one (.box σ.length 3 0 0) ∧ env 58 = .one (.slice .no 5 (l.map encF)) ∧ env 59 = .one (.int .i64 l.length) ∧ env 60 = .one (.int .i64 j) ∧
    loc 3 = [encF b] ∧ σ' = σ ∧ Fm.sames l m = Fm.sames (l.drop j) (m.drop j)
theorem c121 (a : Fm) : ∀ (b : Fm), a.size ≤ 1099511627776 → ∀ (σ : List Frm), CallsV cfg 121 [.agg (encF a), .agg (encF b)] σ (.val (.one (.bool (a.same b)))) σ := by
  induction a using Fm.ind with
  | _ k t n l ih =>
  rintro ⟨k', t', n', m⟩ hsz σ
  simp at hsz
  have hlen := Fm.length_le l
  have hlen2 := Tm.length_le n
  refine w121 (by simp) ?_
  rw [s121, Fm.same_mk]
  by_cases hk : k = k'
  rotate_left
  · simp [hk]
  subst hk
  simp
  refine opV_call (c143 t t' (by omega) _) (by simp) ?_
  cases ht : Ty.same t t' with
  | false => simp
  | true =>
    by_cases hl2 : n.length = n'.length
    rotate_left
    · have : Tm.sames n n' = false := by
        cases h : Tm.sames n n' with
        | false => rfl
        | true => exact absurd (Tm.sames_length h) hl2
      have hl' : ¬ (n.length : Int) = n'.length := by omega
      simp [hl', this]
    have hl2' : ((n.length : Int) = (n'.length : Int)) = True := by simp [hl2]
    by_cases hl : l.length = m.length
    rotate_left
    · have : Fm.sames l m = false := by
        cases h : Fm.sames l m with
        | false => rfl
        | true => exact absurd (Fm.sames_length h) hl
      have hl' : ¬ (l.length : Int) = m.length := by omega
      simp [hl2', hl', this]
    have hl' : ((l.length : Int) = (m.length : Int)) = True := by simp [hl]
    simp [hl2', hl']
    refine wpP_range n.length (i121a (.mk k t n l) (.mk k t' n' m) n n' σ) (by omega) ⟨by simp, by simp, by simp, by simp, by simp, by simp, by simp, rfl, by simp⟩ ?_ ?_ (hend := ?_)
    · rintro j ⟨env, loc, σ', live⟩ ⟨e2, e3, e41, e42, e43, h2, h3, rfl, hs⟩
      exact ⟨e43, e42⟩
    · rintro j ⟨env, loc, σ', live⟩ hj ⟨e2, e3, e41, e42, e43, h2, h3, rfl, hs⟩
      obtain ⟨x, hx, hd, hmx⟩ := drop_cons hj
      obtain ⟨y, hy, hd', _⟩ := drop_cons (hl2 ▸ hj)
      have := Tm.sizes_mem hmx
      simp [e2, e3, e41, e42, e43, hx]
      refine wpP_draw (fun _ _ _ => false) ?_
      simp [e2, e3, e41, e42, e43, h2, h3, hy]
      refine stepD_call (c144 x y (by omega) _) (by simp) ?_
      rw [hd, hd', Tm.sames_cons] at hs
      cases hxy : x.same y with
      | false =>
        rw [hxy] at hs
        simp [hs]
      | true =>
        rw [hxy] at hs
        simp [e2, e3, e41, e42, e43]
        exact ⟨by simp, by simp, by simp, by simp, by simp, by simp [h2], by simp [h3], rfl, by simpa using hs⟩
    · rintro ⟨env, loc, σ', live⟩ ⟨e2, e3, e41, e42, e43, h2, h3, rfl, hs⟩
      rw [List.drop_length, hl2, List.drop_length] at hs
      simp [hs, e2, e3, h2, h3]
      refine wpP_range l.length (i121b (.mk k t' n' m) l m σ') (by omega) ⟨by simp, by simp, by simp, by simp, by simp [h3], rfl, by simp⟩ ?_ ?_ (hend := ?_)
      · rintro j ⟨env, loc, σ', live⟩ ⟨e3, e58, e59, e60, h3, rfl, hs⟩
        exact ⟨e60, e59⟩
      · rintro j ⟨env, loc, σ', live⟩ hj ⟨e3, e58, e59, e60, h3, rfl, hs⟩
        obtain ⟨x, hx, hd, hmx⟩ := drop_cons hj
        obtain ⟨y, hy, hd', _⟩ := drop_cons (hl ▸ hj)
        have := Fm.sizes_mem hmx
        simp [e3, e58, e59, e60, hx]
        refine wpP_draw (fun _ _ _ => false) ?_
        simp [e3, e58, e59, e60, h3, hy]
        refine stepD_call (ih x hmx y (by omega) _) (by simp) ?_
        rw [hd, hd', Fm.sames_cons] at hs
        cases hxy : x.same y with
        | false =>
          rw [hxy] at hs
          simp [hs]
        | true =>
          rw [hxy] at hs
          simp [e3, e58, e59, e60]
          exact ⟨by simp, by simp, by simp, by simp, by simp [h3], rfl, by simpa using hs⟩
      · rintro ⟨env, loc, σ', live⟩ ⟨e3, e58, e59, e60, h3, rfl, hs⟩
        rw [List.drop_length, hl, List.drop_length] at hs
        simp [hs]
def i97 (k i : Int) (s : Ty) (l : List Tm) (σ : List Frm) (j : Nat) : St → Prop
  | ⟨env, loc, σ', live⟩ => ∃ ow, env 2 = .one (.box σ.length 2 0 0) ∧ env 3 = .one (.box σ.length 3 0 0) ∧ env 15 = .one (.slice .no 5 (l.map encT)) ∧ env 16 = .one (.int .i64 l.length) ∧ env 17 = .one (.int .i64 j) ∧
    loc 2 = [z62] ∧ loc 3 = [.int .i64 k :: .int .i64 i :: (enc s ++ [.slice ow 5 ((l.take j).map encT)])] ∧ σ' = σ ∧ okOwn live ow
theorem c97 (t : Tm) : t.size ≤ 1099511627776 → ∀ (σ : List Frm), CallsV cfg 97 [.agg (encT t)] σ (.val (.agg (encT t))) σ := by
  induction t using Tm.ind with
  | _ k i s l ih =>
  intro hsz σ
  simp at hsz
  have hlen := Tm.length_le l
  refine w97 (by simp) ?_
  rw [s97]
  simp
  refine wpP_draw (fun _ _ _ => false) ?_
  simp
  refine stepD_call (c57 s (by omega) _) (by simp) ?_
  simp
  refine wpP_range l.length (i97 k i s l σ) (by omega) ⟨.full, by simp, by simp, by simp, by simp, by simp, by simp [z62], by simp, rfl, by simp⟩ ?_ ?_ (hend := ?_)
  · rintro j ⟨env, loc, σ', live⟩ ⟨ow, e2, e3, e15, e16, e17, h2, h3, rfl, how⟩
    exact ⟨e17, e16⟩
  · rintro j ⟨env, loc, σ', live⟩ hj ⟨ow, e2, e3, e15, e16, e17, h2, h3, rfl, how⟩
    obtain ⟨x, hx, hd, hm⟩ := drop_cons hj
    have := Tm.sizes_mem hm
    simp [e2, e3, e15, e16, e17, hx]
    refine wpP_draw (fun _ _ _ => false) ?_
    simp [e2, e3, e15, e16, e17, h3]
    refine stepD_call (ih x hm (by omega) _) (by simp) ?_
    simp [how, e2, e3, e15, e16, e17, h3]
    exact ⟨by omega, by omega, .tip live.nx, by simp, by simp, by simp, by simp, by simp, by simp [h2], by simp [List.take_add_one, hx], rfl, grown_on⟩
  · rintro ⟨env, loc, σ', live⟩ ⟨ow, e2, e3, e15, e16, e17, h2, h3, rfl, how⟩
    simp [e2, e3, h2, h3, z62]
theorem c102 (t : Tm) (hsz : t.size ≤ 1099511627776) (d : Int) (σ : List Frm) : CallsV cfg 102 [.agg (encT t), .one (.int .i64 d)] σ (.val (.agg (encT t))) σ := by
  refine w102 (by simp) ?_
  rw [s102]
  simp
  refine opV_call (c97 t hsz _) (by simp) ?_
  simp
theorem c130 (k : Int) (σ : List Frm) : CallsV cfg 130 [.one (.int .i64 k)] σ (.val (.one (.bool (decide (4 ≤ k ∧ k ≤ 7))))) σ := by
  refine w130 (by simp) ?_
  rw [s130]
  by_cases h4 : 4 ≤ k <;> by_cases h7 : k ≤ 7 <;> simp [h4, h7]
end Go.Proofs.YtcgmhnlmgomlgaaGreatDoor.V

set_option maxRecDepth 100000
namespace Go.Proofs.YtcgmhnlmgomlgaaGreatDoor.V
open Go Go.Proofs
theorem c116 (s t : Tm) (σ : List Frm) : CallsV cfg 116 [.agg (encT s), .agg (encT t)] σ (.val (.agg (encF (.eq s t)))) σ := by
  refine w116 (by simp) ?_
  rw [s116]
  simp [Fm.eq, Ty.zero]
theorem c119 (k : Int) (l : List Tm) (σ : List Frm) : CallsV cfg 119 [.one (.int .i64 k), .one (.slice .no 5 (l.map encT))] σ (.val (.agg (encT (.node k l)))) σ := by
  refine w119 (by simp) ?_
  rw [s119]
  simp [Tm.node, Ty.zero]
theorem c84 (i : Int) (σ : List Frm) : CallsV cfg 84 [.one (.int .i64 i)] σ (.val (.agg (encT (.var i)))) σ := by
  refine w84 (by simp) ?_
  rw [s84]
  simp [Tm.var, Ty.zero]
theorem c81 (σ : List Frm) : CallsV cfg 81 [] σ (.val (.agg (enc .nat))) σ := by
  refine w81 (by simp) ?_
  rw [s81]
  simp [Ty.nat]
def i117 (f : Tm) (l : List Tm) (σ : List Frm) (j : Nat) : St → Prop
  | ⟨env, loc, σ', _⟩ => env 2 = .one (.box σ.length 2 0 0) ∧ env 4 = .one (.box σ.length 4 0 0) ∧ env 7 = .one (.slice .no 5 (l.map encT)) ∧ env 8 = .one (.int .i64 l.length) ∧ env 9 = .one (.int .i64 j) ∧
    loc 2 = [encT ((l.take j).foldl Tm.app f)] ∧ loc 4 = [z62] ∧ σ' = σ
theorem c117 (f : Tm) (l : List Tm) (hl : l.length ≤ 1099511627776) (σ : List Frm) : CallsV cfg 117 [.agg (encT f), .one (.slice .no 5 (l.map encT))] σ (.val (.agg (encT (l.foldl Tm.app f)))) σ := by
  refine w117 (by simp) ?_
  rw [s117]
  simp
  refine wpP_range l.length (i117 f l σ) (by omega) ⟨by simp, by simp, by simp, by simp, by simp, by simp, by simp [z62], rfl⟩ ?_ ?_ (hend := ?_)
  · rintro j ⟨env, loc, σ', live⟩ ⟨e2, e4, e7, e8, e9, h2, h4, rfl⟩
    exact ⟨e9, e8⟩
  · rintro j ⟨env, loc, σ', live⟩ hj ⟨e2, e4, e7, e8, e9, h2, h4, rfl⟩
    obtain ⟨x, hx, hd, hm⟩ := drop_cons hj
    simp [e2, e4, e7, e8, e9, hx, h2]
    refine opV_call (c119 3 [(l.take j).foldl Tm.app f, x] _) (by simp) ?_
    simp [e2, e4, e7, e8, e9, hx, h2]
    exact ⟨by simp, by simp, by simp, by simp, by simp, by simp [List.take_add_one, hx, Tm.app], by simp [h4], rfl⟩
  · rintro ⟨env, loc, σ', live⟩ ⟨e2, e4, e7, e8, e9, h2, h4, rfl⟩
    simp [e2, e4, h2, h4, z62]
def lams (l : List Ty) (t : Tm) : Tm := l.foldr (fun s t => .tnode 2 s [t]) t
def i152 (t : Tm) (l : List Ty) (σ : List Frm) (m : Nat) : St → Prop
  | ⟨env, loc, σ', _⟩ => ∃ cs, m ≤ l.length ∧ env 1 = .one (.slice .no 2 (l.map enc)) ∧ env 2 = .one (.box σ.length 2 0 0) ∧ env 4 = .one (.box σ.length 4 0 0) ∧ env 5 = .one (.int .i64 ((m : Int) - 1)) ∧
    loc 2 = [cs] ∧ cs.length = 5 ∧ flatL cs = true ∧ cs.map erC = encT (lams (l.drop m) t) ∧ loc 4 = [z62] ∧ σ' = σ
theorem c152 (t : Tm) (l : List Ty) (hl : l.length ≤ 1099511627776) (σ : List Frm) : CallsV cfg 152 [.agg (encT t), .one (.slice .no 2 (l.map enc))] σ (.val (.agg (encT (lams l t)))) σ := by
  refine w152 (by simp) ?_
  rw [s152]
  simp
  rw [wrap_id (by omega) (by omega)]
  refine wpP_loop (i152 t l σ) l.length ⟨encT t, by omega, by simp, by simp, by simp, by simp, by simp, by simp, by simp, by simp [lams], by simp [z62], rfl⟩ ?_
  rintro m ⟨env, loc, σ', live⟩ ⟨cs, hm, e1, e2, e4, e5, h2, hc1, hc2, hc3, h4, rfl⟩
  have htk : cs.take 5 = cs := List.take_of_length_le (by omega)
  have hdk : cs.drop 5 = [] := List.drop_eq_nil_of_le (by omega)
  cases m with
  | zero =>
    simp [e1, e2, e4, e5, h2, h4, z62, hc1, hc2, hc3, htk, hdk]
  | succ m =>
    obtain ⟨x, hx, hd, hmx⟩ := drop_cons (show m < l.length by omega)
    have e5' : env 5 = .one (.int .i64 (m : Int)) := by
      rw [e5]
      congr 2
      omega
    clear e5
    simp [e1, e2, e4, e5']
    refine wpP_draw (fun _ _ _ => false) ?_
    simp [e1, e2, e4, e5', h2, hx, hc1, hc2, hc3, htk, hdk]
    rw [wrap_id (by omega) (by omega)]
    refine loopK_normal m (by omega) ⟨.int .i64 2 :: .int .i64 0 :: (enc x ++ [.slice .full 5 [encT (lams (l.drop (m + 1)) t)]]), by omega, by simp, by simp, by simp, by simp, by simp, ?_, ?_, ?_, by simp [h4], rfl⟩
    · simp
    · simp
    · simp [hd, lams, Tm.tnode]
theorem c139 (t : Tm) (σ : List Frm) : CallsV cfg 139 [.agg (encT t)] σ (.val (.agg (encT (.lamN (.lamN t))))) σ := by
  refine w139 (by simp) ?_
  rw [s139]
  simp
  refine wpP_draw (fun _ _ _ => false) ?_
  simp
  refine stepD_call (c81 _) (by simp) ?_
  simp
  refine stepD_call (c81 _) (by simp) ?_
  simp
  refine stepD_call (c152 t [.nat, .nat] (by simp) _) (by simp) ?_
  simp [lams, Tm.lamN]
theorem c153 (k : Int) (s : Ty) (a b c : Tm) (σ : List Frm) : CallsV cfg 153 [.one (.int .i64 k), .agg (enc s), .agg (encT a), .agg (encT b), .agg (encT c)] σ (.val (.agg (encT (.tnode k s [a, b, c])))) σ := by
  refine w153 (by simp) ?_
  rw [s153]
  simp [Tm.tnode]
theorem c140 (a b c : Tm) (σ : List Frm) : CallsV cfg 140 [.agg (encT a), .agg (encT b), .agg (encT c)] σ (.val (.agg (encT (.recN a (.lamN (.lamN b)) c)))) σ := by
  refine w140 (by simp) ?_
  rw [s140]
  simp
  refine wpP_draw (fun _ _ _ => false) ?_
  simp
  refine stepD_call (c81 _) (by simp) ?_
  simp
  refine stepD_call (c81 _) (by simp) ?_
  simp
  refine stepD_call (c81 _) (by simp) ?_
  simp
  refine stepD_call (c152 b [.nat, .nat] (by simp) _) (by simp) ?_
  simp [lams]
  refine stepD_call (c153 6 .nat a (.lamN (.lamN b)) c _) (by simp [Tm.lamN]) ?_
  simp [Tm.recN]
theorem c141 (σ : List Frm) : CallsV cfg 141 [] σ (.val (.agg (encT .pred))) σ := by
  refine w141 (by simp) ?_
  rw [s141]
  simp
  refine opV_call (c119 4 [] _) (by simp) ?_
  simp
  refine opV_call (c84 1 _) (by simp) ?_
  simp
  refine opV_call (c84 0 _) (by simp) ?_
  simp
  refine opV_call (c140 (.node 4 []) (.var 1) (.var 0) _) (by simp) ?_
  simp
  refine opV_call (c81 _) (by simp) ?_
  simp
  refine opV_call (c152 (.recN (.node 4 []) (.lamN (.lamN (.var 1))) (.var 0)) [.nat] (by simp) _) (by simp) ?_
  simp [lams, Tm.pred, Tm.lamN]
theorem c118 (σ : List Frm) : CallsV cfg 118 [] σ (.val (.agg (encT .sub))) σ := by
  refine w118 (by simp) ?_
  rw [s118]
  simp
  refine opV_call (c84 1 _) (by simp) ?_
  simp
  refine opV_call (c141 _) (by simp) ?_
  simp
  refine opV_call (c84 0 _) (by simp) ?_
  simp
  refine opV_call (c117 .pred [.var 0] (by simp) _) (by simp) ?_
  simp
  refine opV_call (c84 0 _) (by simp) ?_
  simp
  refine opV_call (c140 (.var 1) (.app .pred (.var 0)) (.var 0) _) (by simp) ?_
  simp
  refine opV_call (c139 (.recN (.var 1) (.lamN (.lamN (.app .pred (.var 0)))) (.var 0)) _) (by simp) ?_
  simp [Tm.sub]
theorem c83 (s t : Tm) (σ : List Frm) : CallsV cfg 83 [.agg (encT s), .agg (encT t)] σ (.val (.agg (encF (less s t)))) σ := by
  refine w83 (by simp) ?_
  rw [s83]
  simp
  refine wpP_draw (fun _ _ _ => false) ?_
  simp
  refine stepD_call (c118 _) (by simp) ?_
  simp
  refine stepD_call (c119 5 [s] _) (by simp) ?_
  simp
  refine stepD_call (c117 .sub [.node 5 [s], t] (by simp) _) (by simp) ?_
  simp
  refine stepD_call (c119 4 [] _) (by simp) ?_
  simp
  refine stepD_call (c116 (.app (.app .sub (.node 5 [s])) t) (.node 4 []) _) (by simp) ?_
  simp [less, Tm.app2]
theorem c79 (b : Bool) (σ : List Frm) : CallsV cfg 79 [.one (.bool b)] σ (.val (.tup [.one (.int .i64 (if b = true then 4 else 5)), .one (.int .i64 (if b = true then 3 else 2))])) σ := by
  refine w79 (by simp) ?_
  rw [s79]
  cases b <;> simp
end Go.Proofs.YtcgmhnlmgomlgaaGreatDoor.V

set_option maxRecDepth 100000
namespace Go.Proofs.YtcgmhnlmgomlgaaGreatDoor.V
open Go Go.Proofs
def Pl.cell (p : Pl) : Cell := .box p.d p.t p.v 0
@[simp] theorem erC_cell (p : Pl) : erC p.cell = p.cell := rfl
def Pl.apart (p q : Pl) : Prop := p.d ≠ q.d ∨ p.t ≠ q.t
theorem cellsAt_apart {σ : List Frm} {p q : Pl} {cs : List Cell} (h : p.apart q) : cellsAt (setC σ q cs) p = cellsAt σ p := by
  unfold cellsAt
  simp only [setC, List.getElem?_modify]
  cases σ[p.d]? with
  | none => rfl
  | some f =>
    by_cases e : q.d = p.d
    · have h' : ¬ p.t = q.t := by
        rcases h with h | h
        · exact absurd e.symm h
        · exact h
      simp [e, setLoc, upd, h']
    · simp [e]
theorem readBox_at {env : Nat → PV} {loc : Frm} {σ : List Frm} {live : Live} {p : Pl} {cs : List Cell} (h : cellsAt σ p = some cs) : readBox ⟨env, loc, σ, live⟩ p.d p.t p.v = some cs := by
  have e : ¬ p.d = σ.length := by have := cellsAt_lt h; omega
  simp only [readBox, if_neg e]
  exact h
theorem readBox_set {env : Nat → PV} {loc : Frm} {σ : List Frm} {live : Live} {p q : Pl} {cs c : List Cell} (h : cellsAt σ p = some cs) (ha : p.apart q) : readBox ⟨env, loc, setC σ q c, live⟩ p.d p.t p.v = some cs := readBox_at (by rw [cellsAt_apart ha]; exact h)
theorem opV_atF {C : Cfg} {K : St → Prop} {dst : Option Nat} {ty : TypeId} {f : Nat} {x : Operand} {xs : Array Operand} {ts : Array TypeId} {p : String} {af : Array Edge} {g : Option (Nat × Bool)} {v : PV} {ps : List PV} {env : Nat → PV} {loc : Frm} {σ : List Frm} {live : Live} {q : Pl} {cs cs' caps : List Cell}
    (ho : oper C env x = .one (.func f caps)) (h : CallsV C f (ps ++ caps.map fun c => .one (erC c)) (setC (σ ++ [loc]) q cs) (.val v) (setC (σ ++ [loc]) q cs')) (hH : q.d < σ.length) (ha : argsT C env ts.toList xs.toList = ps) (hk : K (put ⟨env, loc, setC σ q cs', live⟩ dst v)) :
    opV C ⟨dst, .call ⟨.value x, xs, ts⟩, ty, p, af, g⟩ K ⟨env, loc, setC σ q cs, live⟩ := by
  simp only [opV, CallV]
  rw [setC_append hH, setC_append hH] at h
  refine ⟨f, caps, .val v, _, setC σ q cs', loc, ho, ?_, rfl, by simp, hk⟩
  rw [ha]
  exact h
theorem opV_own2 {C : Cfg} {K : St → Prop} {dst : Option Nat} {ty : TypeId} {f : Nat} {xs : Array Operand} {ts : Array TypeId} {p : String} {af : Array Edge} {g : Option (Nat × Bool)} {v : PV} {ps : List PV} {env : Nat → PV} {loc : Frm} {σ : List Frm} {live : Live} {t w : Nat} {cs cs' : List Cell}
    (h : CallsV C f ps (setC (σ ++ [loc]) ⟨σ.length, t, w⟩ cs) (.val v) (setC (σ ++ [loc]) ⟨σ.length, t, w⟩ cs')) (hH : (loc t)[w]? = some cs) (ha : argsT C env ts.toList xs.toList = ps) (hk : K (put ⟨env, setLoc loc ⟨σ.length, t, w⟩ cs', σ, live⟩ dst v)) :
    opV C ⟨dst, .call ⟨.value (.func f), xs, ts⟩, ty, p, af, g⟩ K ⟨env, loc, σ, live⟩ := by
  simp only [opV, CallV]
  have e : setLoc loc ⟨σ.length, t, w⟩ cs = loc := setLoc_self hH
  rw [setC_own, setC_own, e] at h
  refine ⟨f, [], .val v, _, σ, setLoc loc ⟨σ.length, t, w⟩ cs', rfl, ?_, rfl, rfl, hk⟩
  rw [ha]
  simpa using h
@[simp] theorem opP_makeFunc {C : Cfg} {dst : Option Nat} {ty : TypeId} {k : St → Prop} {st : St} {f : Nat} {captured : Array Operand} : opP C dst (.makeFunc (.func f) #[] captured) ty k st = match onesOf (captured.toList.map (oper C st.env)) with
    | some caps => k (put st dst (.one (.func f caps)))
    | none => False := by
  have e : opP C dst (.makeFunc (.func f) #[] captured) ty k st = opV C ⟨dst, .makeFunc (.func f) #[] captured, ty, "", #[], none⟩ k st := rfl
  rw [e]
  simp only [opV, opR]
  cases h : onesOf (captured.toList.map (oper C st.env)) with
  | none => simp
  | some caps => simp
structure CX (σ : List Frm) (pc pn pf ps : Pl) (n : Int) : Prop where
  has : Has σ pc
  num : cellsAt σ pn = some [.int .i64 n]
  fn : cellsAt σ pf = some [.func 142 [pn.cell, pc.cell]]
  self : cellsAt σ ps = some [.func 151 [pf.cell, ps.cell]]
  an : pn.apart pc
  af : pf.apart pc
  ap : ps.apart pc
theorem CX.app {σ : List Frm} {pc pn pf ps : Pl} {n : Int} (h : CX σ pc pn pf ps n) (τ : List Frm) : CX (σ ++ τ) pc pn pf ps n :=
  ⟨h.has.app τ, by rw [cellsAt_append (cellsAt_lt h.num)]; exact h.num, by rw [cellsAt_append (cellsAt_lt h.fn)]; exact h.fn, by rw [cellsAt_append (cellsAt_lt h.self)]; exact h.self, h.an, h.af, h.ap⟩
theorem c142 {σ : List Frm} {pc pn : Pl} {n : Int} (hH : Has σ pc) (hn : cellsAt σ pn = some [.int .i64 n]) (ha : pn.apart pc) (i d c : Int) (hi : 0 ≤ i ∧ i ≤ 9223372036854775807) (hd : 0 ≤ d ∧ d ≤ 4398046511104) (hc : 0 ≤ c ∧ c ≤ 1099511627776) :
    CallsV cfg 142 [.one (.int .i64 i), .one (.int .i64 d), .one pn.cell, .one pc.cell] (setC σ pc [.int .i64 c]) (.val (.tup [])) (setC σ pc [.int .i64 (c + if i - d = n then 1 else 0)]) := by
  have hne : ¬ pc.d = σ.length := by have := hH.lt; omega
  have hne2 : ¬ pn.d = σ.length := by have := cellsAt_lt hn; omega
  refine w142 (by simp) ?_
  rw [s142]
  simp [Pl.cell, readBox_set hn ha, hne, hne2]
  rw [wrap_id (by omega) (by omega)]
  by_cases h : i - d = n
  · simp [h, readBox_setC hH, hne]
    rw [wrap_id (by omega) (by omega), writeBox_setC hH]
    simp [resPV, splice]
  · simp [h, resPV]
def i151a (pc ps : Pl) (t : Tm) (c d : Int) (σ : List Frm) : St → Prop
  | ⟨env, loc, σ', _⟩ => env 1 = .one (.int .i64 d) ∧ env 3 = .one ps.cell ∧ env 4 = .one (.box σ.length 4 0 0) ∧ loc 4 = [encT t] ∧ σ' = setC σ pc [.int .i64 c]
def i151 (pc pf ps : Pl) (l : List Tm) (n c d : Int) (σ : List Frm) (j : Nat) : St → Prop
  | ⟨env, _, σ', _⟩ => env 1 = .one (.int .i64 d) ∧ env 3 = .one ps.cell ∧ env 22 = .one (.slice .no 5 (l.map encT)) ∧ env 23 = .one (.int .i64 l.length) ∧ env 24 = .one (.int .i64 j) ∧
    σ' = setC σ pc [.int .i64 (c + Tm.timess (l.take j) (n + d))]
theorem c151 (t : Tm) : ∀ {σ : List Frm} {pc pn pf ps : Pl} {n : Int}, CX σ pc pn pf ps n → t.ok = true → t.least 9223372036854775807 = true → ∀ (d c : Int), 0 ≤ d → d + t.size ≤ 4398046511104 → 0 ≤ c → c + t.count ≤ 1099511627776 →
    CallsV cfg 151 [.agg (encT t), .one (.int .i64 d), .one pf.cell, .one ps.cell] (setC σ pc [.int .i64 c]) (.val (.tup [])) (setC σ pc [.int .i64 (c + t.times (n + d))]) := by
  induction t using Tm.ind with
  | _ k i s l ih =>
  intro σ pc pn pf ps n hX hok hle d c hd0 hd1 hc0 hc1
  simp at hd1 hc1
  have hlen := Tm.length_le l
  have hsp := s.size_pos
  have hcl := Tm.counts_le l
  obtain ⟨hi0, hpo⟩ := Tm.ok_parts hok
  obtain ⟨hi1, hpl⟩ := Tm.least_parts hle
  have hne : ¬ pc.d = σ.length := by have := hX.has.lt; omega
  have hne2 : ¬ pf.d = σ.length := by have := cellsAt_lt hX.fn; omega
  have hne3 : ¬ ps.d = σ.length := by have := cellsAt_lt hX.self; omega
  refine w151 (by simp) ?_
  rw [s151, Tm.times_mk, bump_eq]
  obtain ⟨hb0, hb1⟩ := bump_le k
  refine cut3 (i151a pc ps (.mk k i s l) (c + if k = 1 ∧ i = n + d then 1 else 0) (d + bump k) σ) ?_ ?_
  · by_cases hk : k = 1
    · subst hk
      simp [Pl.cell, readBox_set hX.fn hX.af, hne, hne2]
      refine opV_atF (f := 142) (caps := [pn.cell, pc.cell]) (ps := [.one (.int .i64 i), .one (.int .i64 d)]) (by simp [Pl.cell]) (c142 (hX.app _).has (hX.app _).num hX.an i d c ⟨hi0, hi1⟩ ⟨hd0, by omega⟩ ⟨hc0, by omega⟩) hX.has.lt (by simp) ?_
      simp
      have e : (if i - d = n then (1 : Int) else 0) = if i = n + d then 1 else 0 := by split <;> split <;> omega
      rw [e]
      exact ⟨by simp [bump], by simp [Pl.cell], by simp, by simp, by simp⟩
    · by_cases hk2 : k = 2
      · subst hk2
        simp
        rw [wrap_id (by omega) (by omega)]
        exact ⟨by simp [bump], by simp, by simp, by simp, by simp⟩
      · simp [hk, hk2]
        exact ⟨by simp [bump, hk2], by simp, by simp, by simp, by simp⟩
  · rintro ⟨env, loc, σ', live⟩ ⟨e1, e3, e4, h4, rfl⟩
    have hcc : 0 ≤ (if k = 1 ∧ i = n + d then (1 : Int) else 0) ∧ (if k = 1 ∧ i = n + d then (1 : Int) else 0) ≤ 1 := by split <;> omega
    generalize hc' : c + (if k = 1 ∧ i = n + d then (1 : Int) else 0) = c'
    have hc2 : 0 ≤ c' ∧ c' + Tm.counts l ≤ 1099511627776 := by omega
    rw [← Int.add_assoc, hc']
    simp [e1, e3, e4, h4]
    refine wpP_range l.length (i151 pc pf ps l n c' (d + bump k) σ) (by omega) ⟨by simp, by simp, by simp, by simp, by simp, by simp [Tm.timess]⟩ ?_ ?_ (hend := ?_)
    · rintro j ⟨env, loc, σ', live⟩ ⟨e1, e3, e22, e23, e24, rfl⟩
      exact ⟨e24, e23⟩
    · rintro j ⟨env, loc, σ', live⟩ hj ⟨e1, e3, e22, e23, e24, rfl⟩
      obtain ⟨x, hx, hdr, hm⟩ := drop_cons hj
      have h1 := Tm.sizes_mem hm
      have ht := Tm.timess_take (n + (d + bump k)) hx
      have hb1 := Tm.timess_le (l.take j) (n + (d + bump k))
      have hb2 := Tm.counts_take hx
      have hb3 := Tm.counts_take_le l (j + 1)
      simp only [Pl.cell] at e3
      simp [e1, e3, e22, e23, e24, hx, readBox_set hX.self hX.ap, hne, hne3]
      refine opV_atF (f := 151) (caps := [pf.cell, ps.cell]) (ps := [.agg (encT x), .one (.int .i64 (d + bump k))]) (by simp [Pl.cell]) (ih x hm (hX.app _) (hpo x hm) (hpl x hm) (d + bump k) (c' + Tm.timess (l.take j) (n + (d + bump k))) (by omega) (by omega) (by omega) (by omega)) hX.has.lt (by simp) ?_
      simp [e1, e3, e22, e23, e24]
      exact ⟨by simp, by simp [Pl.cell], by simp, by simp, by simp, by rw [ht, Int.add_assoc]⟩
    · rintro ⟨env, loc, σ', live⟩ ⟨e1, e3, e22, e23, e24, rfl⟩
      rw [List.take_length]
      simp [resPV, Int.add_assoc]
theorem c136 {σ : List Frm} {pc pn : Pl} {n : Int} (hH : Has σ pc) (hn : cellsAt σ pn = some [.int .i64 n]) (ha : pn.apart pc) (t : Tm) (hsz : t.size ≤ 1099511627776) (hok : t.ok = true) (hle : t.least 9223372036854775807 = true) :
    CallsV cfg 136 [.agg (encT t), .one (.func 142 [pn.cell, pc.cell])] (setC σ pc [.int .i64 0]) (.val (.tup [])) (setC σ pc [.int .i64 (t.times n)]) := by
  have hne : ¬ pc.d = σ.length := by have := hH.lt; omega
  have hcz := t.count_le
  refine w136 (by simp) ?_
  rw [s136]
  simp [onesOf]
  refine opV_atF (f := 151) (caps := [(⟨σ.length, 3, 0⟩ : Pl).cell, (⟨σ.length, 4, 0⟩ : Pl).cell]) (ps := [.agg (encT t), .one (.int .i64 0)]) (by simp [Pl.cell])
    (c151 t (n := n) (pn := pn) ⟨hH.app _, by rw [cellsAt_append (cellsAt_lt hn)]; exact hn, by simp [cellsAt, Pl.cell], by simp [cellsAt, Pl.cell], ha, .inl (fun h => hne h.symm), .inl (fun h => hne h.symm)⟩ hok hle 0 0 (by omega) (by omega) (by omega) (by omega)) hH.lt (by simp) ?_
  simp [resPV]
theorem c120 (t : Tm) (hsz : t.size ≤ 1099511627776) (hok : t.ok = true) (hle : t.least 9223372036854775807 = true) (n : Int) (σ : List Frm) : CallsV cfg 120 [.agg (encT t), .one (.int .i64 n)] σ (.val (.one (.int .i64 (t.times n)))) σ := by
  refine w120 (by simp) ?_
  rw [s120]
  simp [onesOf]
  refine opV_own2 (t := 5) (w := 0) (c136 (pn := ⟨σ.length, 3, 0⟩) (n := n) (Has.own (by simp)) (by simp [cellsAt]) (.inr (by simp)) t hsz hok hle) (by simp) (by simp [Pl.cell]) ?_
  simp
end Go.Proofs.YtcgmhnlmgomlgaaGreatDoor.V

set_option maxRecDepth 100000
namespace Go.Proofs.YtcgmhnlmgomlgaaGreatDoor.V
open Go Go.Proofs
theorem opV_callF {C : Cfg} {K : St → Prop} {st : St} {dst : Option Nat} {ty : TypeId} {f : Nat} {caps : List Cell} {x : Operand} {xs : Array Operand} {ts : Array TypeId} {p : String} {af : Array Edge} {g : Option (Nat × Bool)} {v : PV} {ps : List PV} (ho : oper C st.env x = .one (.func f caps))
    (h : CallsV C f (ps ++ caps.map fun c => .one (erC c)) (st.σ ++ [st.loc]) (.val v) (st.σ ++ [st.loc])) (ha : argsT C st.env ts.toList xs.toList = ps) (hk : K (put st dst v)) : opV C ⟨dst, .call ⟨.value x, xs, ts⟩, ty, p, af, g⟩ K st := by
  simp only [opV, CallV]
  refine ⟨f, caps, .val v, _, st.σ, st.loc, ho, ?_, rfl, rfl, hk⟩
  rw [ha]
  exact h
theorem stepD_callF {C : Cfg} {W : Nat → Nat → Nat → Bool} {vs : Nat → Nat} {fr : Bool} {K : St → Prop} {st : St} {dst : Option Nat} {ty : TypeId} {f : Nat} {caps : List Cell} {x : Operand} {xs : Array Operand} {ts : Array TypeId} {p : String} {af : Array Edge} {g : Option (Nat × Bool)} {v : PV} {ps : List PV} (ho : oper C st.env x = .one (.func f caps))
    (h : CallsV C f (ps ++ caps.map fun c => .one (erC c)) (st.σ ++ [st.loc]) (.val v) (st.σ ++ [st.loc])) (ha : argsT C st.env ts.toList xs.toList = ps) (hk : K (put st dst v)) : stepD C W vs fr ⟨dst, .call ⟨.value x, xs, ts⟩, ty, p, af, g⟩ K st := by
  simp only [stepD]
  exact opV_callF ho h ha ⟨fun _ => ⟨by simp, fun d t v _ => by simp [readBox]⟩, hk⟩
def i101a (f : Fm) (k : Int) (t : Ty) (m : List Tm) (d : Int) (σ : List Frm) (j : Nat) : St → Prop
  | ⟨env, loc, σ', live⟩ => ∃ ow, env 1 = .one (.int .i64 d) ∧ env 2 = .one (.func 102 []) ∧ env 3 = .one (.box σ.length 3 0 0) ∧ env 6 = .one (.box σ.length 6 0 0) ∧ env 7 = .one (.box σ.length 7 0 0) ∧ env 19 = .one (.slice .no 5 (m.map encT)) ∧ env 20 = .one (.int .i64 m.length) ∧ env 21 = .one (.int .i64 j) ∧
    loc 3 = [encF f] ∧ loc 6 = [z29] ∧ loc 7 = [.int .i64 k :: (enc t ++ [.slice ow 5 ((m.take j).map encT), .slice .full 5 []])] ∧ σ' = σ ∧ okOwn live ow
def i101m (f : Fm) (k : Int) (t : Ty) (m : List Tm) (d : Int) (σ : List Frm) : St → Prop
  | ⟨env, loc, σ', live⟩ => ∃ ow, env 1 = .one (.int .i64 d) ∧ env 2 = .one (.func 102 []) ∧ env 3 = .one (.box σ.length 3 0 0) ∧ env 6 = .one (.box σ.length 6 0 0) ∧ env 7 = .one (.box σ.length 7 0 0) ∧
    loc 3 = [encF f] ∧ loc 6 = [z29] ∧ loc 7 = [.int .i64 k :: (enc t ++ [.slice ow 5 (m.map encT), .slice .full 5 []])] ∧ σ' = σ
def i101b (k : Int) (t : Ty) (m : List Tm) (l : List Fm) (d : Int) (σ : List Frm) (j : Nat) : St → Prop
  | ⟨env, loc, σ', live⟩ => ∃ ow o, env 1 = .one (.int .i64 d) ∧ env 2 = .one (.func 102 []) ∧ env 6 = .one (.box σ.length 6 0 0) ∧ env 7 = .one (.box σ.length 7 0 0) ∧ env 41 = .one (.slice .no 5 (l.map encF)) ∧ env 42 = .one (.int .i64 l.length) ∧ env 43 = .one (.int .i64 j) ∧
    loc 6 = [z29] ∧ loc 7 = [.int .i64 k :: (enc t ++ [.slice o 5 (m.map encT), .slice ow 5 ((l.take j).map encF)])] ∧ σ' = σ ∧ okOwn live ow
theorem c101 (f : Fm) : f.size ≤ 1099511627776 → ∀ (d : Int), 0 ≤ d → d + f.size ≤ 4398046511104 → ∀ (σ : List Frm), CallsV cfg 101 [.agg (encF f), .one (.int .i64 d), .one (.func 102 [])] σ (.val (.agg (encF f))) σ := by
  induction f using Fm.ind with
  | _ k t m l ih =>
  intro hsz d hd0 hd1 σ
  simp at hsz hd1
  have hlm := Tm.length_le m
  have hll := Fm.length_le l
  have hsp := t.size_pos
  refine w101 (by simp) ?_
  rw [s101]
  simp
  refine wpP_draw (fun _ _ _ => false) ?_
  simp
  refine stepD_call (c57 t (by omega) _) (by simp) ?_
  simp
  refine wpP_range m.length (i101a (.mk k t m l) k t m d σ) (by omega) ⟨.full, by simp, by simp, by simp, by simp, by simp, by simp, by simp, by simp, by simp, by simp [z29], by simp, rfl, by simp⟩ ?_ ?_ (hend := ?_)
  · rintro j ⟨env, loc, σ', live⟩ ⟨ow, e1, e2, e3, e6, e7, e19, e20, e21, h3, h6, h7, rfl, how⟩
    exact ⟨e21, e20⟩
  · rintro j ⟨env, loc, σ', live⟩ hj ⟨ow, e1, e2, e3, e6, e7, e19, e20, e21, h3, h6, h7, rfl, how⟩
    obtain ⟨x, hx, hdr, hm⟩ := drop_cons hj
    have := Tm.sizes_mem hm
    simp [e1, e2, e3, e6, e7, e19, e20, e21, hx]
    refine wpP_draw (fun _ _ _ => false) ?_
    simp [e1, e2, e3, e6, e7, h3, h7]
    refine stepD_callF (f := 102) (caps := []) (ps := [.agg (encT x), .one (.int .i64 d)]) (by simp) (c102 x (by omega) d _) (by simp) ?_
    simp [how, e1, e2, e3, e6, e7, h3, h7]
    exact ⟨by omega, by omega, .tip live.nx, by simp, by simp, by simp, by simp, by simp, by simp, by simp, by simp, by simp [h3], by simp [h6], by simp [List.take_add_one, hx], rfl, grown_on⟩
  · rintro ⟨env, loc, σ', live⟩ ⟨ow, e1, e2, e3, e6, e7, e19, e20, e21, h3, h6, h7, rfl, how⟩
    rw [List.take_length] at h7
    obtain ⟨d', hd', hd2, hd3⟩ : ∃ d' : Int, (if 4 ≤ k ∧ k ≤ 7 then d + 1 else d) = d' ∧ 0 ≤ d' ∧ d' ≤ d + 1 := ⟨_, rfl, by split <;> omega, by split <;> omega⟩
    refine cut (i101m (.mk k t m l) k t m d' σ') ?_ ?_
    · simp [e1, e2, e3, e6, e7, h3, h6, h7]
      refine opV_call (c130 k _) (by simp) ?_
      by_cases hk : 4 ≤ k ∧ k ≤ 7
      · rw [if_pos hk] at hd'
        simp [hk, e1, e2, e3, e6, e7]
        rw [wrap_id (by omega) (by omega), hd']
        exact ⟨ow, by simp, by simp, by simp, by simp, by simp, by simp [h3], by simp [h6], by simp [h7], rfl⟩
      · rw [if_neg hk] at hd'
        have hk' : decide (4 ≤ k ∧ k ≤ 7) = false := by simpa using hk
        simp [hk', e1, e2, e3, e6, e7, hd']
        exact ⟨ow, by simp, by simp, by simp, by simp, by simp, by simp [h3], by simp [h6], by simp [h7], rfl⟩
    · rintro ⟨env, loc, σ', live⟩ ⟨ow, e1, e2, e3, e6, e7, h3, h6, h7, rfl⟩
      simp [e1, e2, e3, e6, e7, h3, h6, h7]
      refine wpP_range l.length (i101b k t m l d' σ') (by omega) ⟨.full, ow, by simp, by simp, by simp, by simp, by simp, by simp, by simp, by simp [h6], by simp [h7], rfl, by simp⟩ ?_ ?_ (hend := ?_)
      · rintro j ⟨env, loc, σ', live⟩ ⟨ow, o, e1, e2, e6, e7, e41, e42, e43, h6, h7, rfl, how⟩
        exact ⟨e43, e42⟩
      · rintro j ⟨env, loc, σ', live⟩ hj ⟨ow, o, e1, e2, e6, e7, e41, e42, e43, h6, h7, rfl, how⟩
        obtain ⟨x, hx, hdr, hm⟩ := drop_cons hj
        have := Fm.sizes_mem hm
        simp [e1, e2, e6, e7, e41, e42, e43, hx]
        refine wpP_draw (fun _ _ _ => false) ?_
        simp [e1, e2, e6, e7, h6, h7]
        refine stepD_call (ih x hm (by omega) d' (by omega) (by omega) _) (by simp) ?_
        simp [how, e1, e2, e6, e7, h6, h7]
        exact ⟨by omega, by omega, .tip live.nx, o, by simp, by simp, by simp, by simp, by simp, by simp, by simp, by simp [h6], by simp [List.take_add_one, hx], rfl, grown_on⟩
      · rintro ⟨env, loc, σ', live⟩ ⟨ow, o, e1, e2, e6, e7, e41, e42, e43, h6, h7, rfl, how⟩
        simp [e6, e7, h6, h7, z29]
theorem c58 (f : Fm) (hsz : f.size ≤ 1099511627776) (σ : List Frm) : CallsV cfg 58 [.agg (encF f)] σ (.val (.agg (encF f))) σ := by
  refine w58 (by simp) ?_
  rw [s58]
  simp
  refine opV_call (c101 f hsz 0 (by omega) (by omega) _) (by simp) ?_
  simp
end Go.Proofs.YtcgmhnlmgomlgaaGreatDoor.V

set_option maxRecDepth 100000
namespace Go.Proofs.YtcgmhnlmgomlgaaGreatDoor.V
open Go Go.Proofs
def encB (r : Bool × Tm × Fm × Bool) : PV := .tup [.one (.bool r.1), .agg (encT r.2.1), .agg (encF r.2.2.1), .one (.bool r.2.2.2)]
theorem c85 (f : Fm) (hsz : f.size ≤ 549755813888) (hok : f.ok = true) (hle : f.least 9223372036854775807 = true) (σ : List Frm) : CallsV cfg 85 [.agg (encF f)] σ (.val (encB f.bound)) σ := by
  obtain ⟨k, t, m, l⟩ := f
  refine w85 (by simp [encB]) ?_
  have hno : k ≠ 4 → k ≠ 5 → wpP cfg s85 (QEndP cfg [.tmp 2, .cell 3 51, .cell 4 35, .tmp 5] σ (.val (encB (Fm.mk k t m l).bound))) ⟨initEnv [.agg (encF (.mk k t m l))], fun _ => [], σ, ⟨fun _ => false, 0⟩⟩ := by
    intro h4 h5
    rw [bound_no h4 h5, s85]
    simp [h4]
    refine opV_call (c79 false _) (by simp [h4]) ?_
    have h5' : (k == 5) = false := by simpa using h5
    simp [h5, h5', bne]
    simp [encB, Tm.zeroT, Fm.zeroF, Ty.zero, resPV]
  rcases Fm.shape hok with ⟨rfl, rfl⟩ | ⟨hk, y, x, rfl, hy, hx⟩ | ⟨hk, ht, x, rfl, hx⟩
  · exact hno (by omega) (by omega)
  · exact hno (by omega) (by omega)
  by_cases hk2 : k = 4 ∨ k = 5
  rotate_left
  · exact hno (by omega) (by omega)
  obtain ⟨all, j, hkj⟩ : ∃ (all : Bool) (j : Int), (k = 4 ∧ all = true ∧ j = 3) ∨ (k = 5 ∧ all = false ∧ j = 2) := by
    rcases hk2 with rfl | rfl
    · exact ⟨true, 3, .inl ⟨rfl, rfl, rfl⟩⟩
    · exact ⟨false, 2, .inr ⟨rfl, rfl, rfl⟩⟩
  have e1 : (k == 4) = all := by rcases hkj with ⟨rfl, rfl, rfl⟩ | ⟨rfl, rfl, rfl⟩ <;> simp
  have e2 : (if all = true then (4 : Int) else 5) = k := by rcases hkj with ⟨rfl, rfl, rfl⟩ | ⟨rfl, rfl, rfl⟩ <;> simp
  have e3 : (if all = true then (3 : Int) else 2) = j := by rcases hkj with ⟨rfl, rfl, rfl⟩ | ⟨rfl, rfl, rfl⟩ <;> simp
  have hj : j = 2 ∨ j = 3 := by omega
  rw [bound_q hkj, s85]
  clear hno
  simp at hsz
  obtain ⟨hpl, hql⟩ := Fm.least_parts hle
  have hxl := hql x (by simp)
  simp [e1]
  refine opV_call (c79 all _) (by simp) ?_
  rw [e2, e3]
  by_cases htk : t.kind = 1
  rotate_left
  · simp [htk, bne]
    simp [encB, Tm.zeroT, Fm.zeroF, Ty.zero, resPV]
  obtain ⟨k2, t2, m2, l2⟩ := x
  by_cases hk2 : k2 = j
  rotate_left
  · have hk2' : (k2 == j) = false := by simpa using hk2
    simp [htk, hk2, hk2', bne, Fm.kind]
    simp [encB, Tm.zeroT, Fm.zeroF, Ty.zero, resPV]
  subst hk2
  obtain ⟨y, z, rfl, hy, hz⟩ : ∃ y z, l2 = [y, z] ∧ y.ok = true ∧ z.ok = true := by
    rcases Fm.shape hx with ⟨rfl, rfl⟩ | ⟨hk, y, x, rfl, hy, hx⟩ | ⟨hk, ht, x, rfl, hx⟩
    · omega
    · exact ⟨y, x, rfl, hy, hx⟩
    · omega
  obtain ⟨k3, t3, m3, l3⟩ := y
  simp [htk, Fm.kid, Fm.kids, Fm.kind]
  by_cases hk3 : k3 = 1
  rotate_left
  · have hk3' : (k3 == 1) = false := by simpa using hk3
    simp [hk3, hk3', bne]
    simp [encB, Tm.zeroT, Fm.zeroF, Ty.zero, resPV]
  subst hk3
  obtain ⟨a, b, rfl, rfl, ha, hb⟩ := Fm.shape1 hy
  obtain ⟨k4, i4, t4, l4⟩ := a
  simp [Fm.tms]
  refine wpP_draw (fun _ _ _ => false) ?_
  by_cases hk4 : k4 = 3
  rotate_left
  · have hk4' : (k4 == 3) = false := by simpa using hk4
    simp [hk4, hk4', bne]
    simp [encB, Tm.zeroT, Fm.zeroF, Ty.zero, resPV]
  subst hk4
  obtain ⟨p, q, rfl, hp, hq⟩ := Tm.shape3 ha
  obtain ⟨hxm, hxk⟩ := Fm.least_parts hxl
  obtain ⟨hym, _⟩ := Fm.least_parts (hxk _ (List.mem_cons_self ..))
  have hal := hym _ (List.mem_cons_self ..)
  obtain ⟨_, hkl⟩ := Tm.least_parts hal
  have hql2 := hkl q (by simp)
  simp at hsz
  simp [Tm.kid, Tm.kids]
  refine stepD_call (c120 q (by omega) hq hql2 0 _) (by simp) ?_
  by_cases hc : 0 < q.times 0
  · simp [hc]
    simp [encB, Tm.zeroT, Fm.zeroF, Ty.zero, resPV]
  simp [hc]
  refine stepD_call (c84 0 _) (by simp) ?_
  simp
  refine stepD_call (c83 (.var 0) q _) (by simp) ?_
  simp
  refine stepD_call (c121 (.mk 1 t3 [.mk 3 i4 t4 [p, q], b] []) (less (.var 0) q) (by simp; omega) _) (by simp) ?_
  cases hs : (Fm.mk 1 t3 [.mk 3 i4 t4 [p, q], b] []).same (less (.var 0) q) with
  | false =>
    simp [encB, Tm.zeroT, Fm.zeroF, Ty.zero, resPV]
  | true =>
    simp
    refine wpP_draw (fun _ t _ => decide (t = 3)) ?_
    simp [encB, resPV]
end Go.Proofs.YtcgmhnlmgomlgaaGreatDoor.V

set_option maxRecDepth 100000
namespace Go.Proofs.YtcgmhnlmgomlgaaGreatDoor.V
open Go Go.Proofs
def uand (a b : Int) : Int := IntKind.u8.wrap (BitVec.ofInt 8 a &&& BitVec.ofInt 8 b).toNat
def uor (a b : Int) : Int := IntKind.u8.wrap (BitVec.ofInt 8 a ||| BitVec.ofInt 8 b).toNat
@[simp] theorem intC_uand (a b : Int) : intC .and .u8 a b = some (.int .u8 (uand a b)) := rfl
@[simp] theorem intC_uor (a b : Int) : intC .or .u8 a b = some (.int .u8 (uor a b)) := rfl
theorem uand_n (x y : Cls) : uand x.n y.n = Cls.n ⟨x.c && y.c, x.q && y.q, x.d && y.d⟩ := by
  obtain ⟨a, b, c⟩ := x
  obtain ⟨d, e, f⟩ := y
  cases a <;> cases b <;> cases c <;> cases d <;> cases e <;> cases f <;> rfl
theorem uor_n (x y : Cls) : uor x.n y.n = Cls.n ⟨x.c || y.c, x.q || y.q, x.d || y.d⟩ := by
  obtain ⟨a, b, c⟩ := x
  obtain ⟨d, e, f⟩ := y
  cases a <;> cases b <;> cases c <;> cases d <;> cases e <;> cases f <;> rfl
theorem uand6 (x : Cls) : uand x.n 6 = Cls.n ⟨false, x.q, x.d⟩ := by have := uand_n x ⟨false, true, true⟩; simpa [Cls.n] using this
theorem uand1 (x : Cls) : uand x.n 1 = Cls.n ⟨x.c, false, false⟩ := by have := uand_n x ⟨true, false, false⟩; simpa [Cls.n] using this
theorem uand4 (x : Cls) : uand x.n 4 = Cls.n ⟨false, false, x.d⟩ := by have := uand_n x ⟨false, false, true⟩; simpa [Cls.n] using this
theorem uor1 (x : Cls) : uor x.n 1 = Cls.n ⟨true, x.q, x.d⟩ := by have := uor_n x ⟨true, false, false⟩; simpa [Cls.n] using this
theorem bound_body {k : Int} {t : Ty} {m : List Tm} {x : Fm} (hx : x.ok = true) (h : (Fm.mk k t m [x]).bound.2.2.2 = true) :
    ∃ y z t2 m2 k2, x = .mk k2 t2 m2 [y, z] ∧ y.ok = true ∧ z.ok = true ∧ (Fm.mk k t m [x]).bound.2.2.1 = z := by
  by_cases h4 : k = 4 ∨ k = 5
  rotate_left
  · rw [bound_no (by omega) (by omega)] at h; cases h
  obtain ⟨all, j, hkj⟩ : ∃ (all : Bool) (j : Int), (k = 4 ∧ all = true ∧ j = 3) ∨ (k = 5 ∧ all = false ∧ j = 2) := by
    rcases h4 with rfl | rfl
    · exact ⟨true, 3, .inl ⟨rfl, rfl, rfl⟩⟩
    · exact ⟨false, 2, .inr ⟨rfl, rfl, rfl⟩⟩
  rw [bound_q hkj] at h ⊢
  split at h
  · cases h
  rename_i h1
  split at h
  · cases h
  rename_i h2
  rw [if_neg h1, if_neg h2]
  obtain ⟨k2, t2, m2, l2⟩ := x
  have hk2 : k2 = j := Decidable.byContradiction fun hn => h1 (.inr (.inl hn))
  rcases Fm.shape hx with ⟨rfl, rfl⟩ | ⟨hk, y, x, rfl, hy, hz⟩ | ⟨hk, ht, x, rfl, hx⟩
  · omega
  · exact ⟨y, x, t2, m2, k2, rfl, hy, hz, by simp [Fm.kid, Fm.kids]⟩
  · omega
theorem c56 (N : Nat) : ∀ f : Fm, f.size ≤ N → f.size ≤ 549755813888 → f.ok = true → f.least 9223372036854775807 = true → ∀ (σ : List Frm), CallsV cfg 56 [.agg (encF f)] σ (.val (.one (.int .u8 f.cls.n))) σ := by
  induction N with
  | zero => intro f h; have := f.size_pos; omega
  | succ N ih =>
  rintro ⟨k, t, m, l⟩ hN hsz hok hle σ
  refine w56 (by simp) ?_
  rw [s56]
  obtain ⟨hml, hll⟩ := Fm.least_parts hle
  rcases Fm.shape hok with ⟨rfl, rfl⟩ | ⟨hk, y, x, rfl, hy, hx⟩ | ⟨hk, ht, x, rfl, hx⟩
  · rw [cls_eq]
    simp [Cls.n]
  · rw [cls_two hk]
    have hyl := hll y (by simp)
    have hxl := hll x (by simp)
    simp at hN hsz
    have h2 : ¬ k = 1 := by omega
    simp [wrap_id, h2]
    refine opV_call (ih x (by omega) (by omega) hx hxl _) (by simp) ?_
    rcases hk with rfl | rfl
    · simp
      refine opV_call (ih y (by omega) (by omega) hy hyl _) (by simp) ?_
      simp [uand_n, uand6, uor_n, uand1]
    · simp
      refine opV_call (ih y (by omega) (by omega) hy hyl _) (by simp) ?_
      simp [uand_n, uand6, uor_n, uand1]
  · rw [cls_q hk]
    generalize hc5 : (if k = 5 then true else x.cls.c) = c5
    have hxl := hll x (by simp)
    have hb := c85 (.mk k t m [x]) hsz hok hle
    simp at hN hsz
    have hbb := bound_body (k := k) (t := t) (m := m) hx
    generalize hbd : (Fm.mk k t m [x]).bound = B at hb hbb
    have h1 : ¬ k = 1 := by omega
    have h2 : ¬ k = 2 := by omega
    have h3 : ¬ k = 3 := by omega
    simp [wrap_id, h1, h2, h3]
    refine opV_call (ih x (by omega) (by omega) hx hxl _) (by simp) ?_
    have fin : B.2.2.2 = true → ∃ y z t2 m2 k2, x = .mk k2 t2 m2 [y, z] ∧ B.2.2.1 = z ∧ ∀ (σ : List Frm), CallsV cfg 56 [.agg (encF z)] σ (.val (.one (.int .u8 z.cls.n))) σ := by
      intro hB
      obtain ⟨y, z, t2, m2, k2, rfl, hy, hz, he⟩ := hbb hB
      obtain ⟨_, hxk⟩ := Fm.least_parts hxl
      simp at hN hsz
      exact ⟨y, z, t2, m2, k2, rfl, he, ih z (by omega) (by omega) hz (hxk z (by simp))⟩
    by_cases h5 : k = 5
    · subst h5
      simp at hc5
      simp [uor1, uand1]
      refine opV_call (hb _) (by simp) ?_
      simp [encB]
      cases hB : B.2.2.2 with
      | false => simp [← hc5]
      | true =>
        obtain ⟨y, z, t2, m2, k2, rfl, he, hz⟩ := fin hB
        simp [he]
        refine opV_call (hz _) (by simp) ?_
        simp [uand4, uor_n, ← hc5, Fm.kids]
    · have h5' : (k == 5) = false := by simpa using h5
      rw [if_neg h5] at hc5
      simp [h1, h2, h3, h5, h5', uand1]
      refine opV_call (hb _) (by simp) ?_
      simp [encB]
      cases hB : B.2.2.2 with
      | false => simp [← hc5]
      | true =>
        obtain ⟨y, z, t2, m2, k2, rfl, he, hz⟩ := fin hB
        simp [he]
        refine opV_call (hz _) (by simp) ?_
        simp [uand4, uor_n, ← hc5, Fm.kids]
theorem c56' (f : Fm) (hsz : f.size ≤ 549755813888) (hok : f.ok = true) (hle : f.least 9223372036854775807 = true) (σ : List Frm) : CallsV cfg 56 [.agg (encF f)] σ (.val (.one (.int .u8 f.cls.n))) σ := c56 f.size f (Nat.le_refl _) hsz hok hle σ
def i55 (f : Fm) (σ : List Frm) (n : Nat) : St → Prop
  | ⟨env, loc, σ', live⟩ => ∃ g ts ow, g.size ≤ n ∧ g.ok = true ∧ g.size ≤ 549755813888 ∧ ts.length + g.size ≤ f.size ∧ (ts ++ (stripA g).1, (stripA g).2) = stripA f ∧ env 1 = .one (.box σ.length 1 0 0) ∧ env 3 = .one (.box σ.length 3 0 0) ∧ env 4 = .one (.slice ow 2 (ts.map enc)) ∧
    loc 1 = [encF g] ∧ loc 3 = [z29] ∧ σ' = σ ∧ okOwn live ow
theorem c55 (f : Fm) (hsz : f.size ≤ 549755813888) (hok : f.ok = true) (σ : List Frm) : CallsV cfg 55 [.agg (encF f)] σ (.val (.tup [.one (.slice .no 2 ((stripA f).1.map enc)), .agg (encF (stripA f).2)])) σ := by
  refine w55 (by simp) ?_
  rw [s55]
  simp
  refine wpP_loop (i55 f σ) f.size ⟨f, [], .full, by omega, hok, hsz, by simp, by simp, by simp, by simp, by simp, by simp, by simp [z29], rfl, by simp⟩ ?_
  rintro n ⟨env, loc, σ', live⟩ ⟨g, ts, ow, hn, hgo, hgs, hlen, he, e1, e3, e4, l1, l3, rfl, how⟩
  obtain ⟨k, t, m, l⟩ := g
  by_cases hk : k = 4
  · subst hk
    obtain ⟨x, rfl, hx⟩ : ∃ x, l = [x] ∧ x.ok = true := by
      rcases Fm.shape hgo with ⟨h, _⟩ | ⟨h, _⟩ | ⟨_, _, x, h, hx⟩
      · omega
      · omega
      · exact ⟨x, h, hx⟩
    rw [stripA_4] at he
    simp at hn hgs hlen
    have hts := t.size_pos
    simp [e1, e3, e4, l1]
    refine wpP_draw (fun _ _ _ => false) ?_
    simp [e1, e3, e4, l1]
    refine stepD_call (c57 t (by omega) _) (by simp) ?_
    simp [e1, e3, e4, l1, how]
    refine ⟨by omega, by omega, loopK_normal x.size (by omega) ⟨x, ts ++ [t], .tip live.nx, by omega, hx, by omega, by simp; omega, ?_, by simp, by simp, by simp, by simp, by simp [l3], rfl, grown_on⟩⟩
    rw [← he]
    simp
  · rw [stripA_no hk] at he
    simp [e1, e3, e4, l1, l3, hk]
    refine wpP_draw (fun _ _ _ => false) ?_
    rw [← he]
    simp [e1, e3, e4, l1, l3, z29]
end Go.Proofs.YtcgmhnlmgomlgaaGreatDoor.V

set_option maxRecDepth 100000
namespace Go.Proofs.YtcgmhnlmgomlgaaGreatDoor.V
open Go Go.Proofs
theorem uand4' (x : Cls) : uand x.n 4 = if x.d = true then 4 else 0 := by
  obtain ⟨a, b, c⟩ := x
  cases a <;> cases b <;> cases c <;> rfl
def encK (r : List Ty × Ty × Fm × Bool) : PV := .tup [.one (.slice .no 2 (r.1.map enc)), .agg (enc r.2.1), .agg (encF r.2.2.1), .one (.bool r.2.2.2)]
theorem c14 (f : Fm) (hsz : f.size ≤ 549755813888) (hle : f.least 9223372036854775807 = true) (σ : List Frm) : CallsV cfg 14 [.agg (encF f)] σ (.val (encK f.task)) σ := by
  refine w14 (by simp [encK]) ?_
  rw [s14]
  simp
  refine opV_call (c54 f (by omega) _) (by simp) ?_
  by_cases hc : f.check = 0
  rotate_left
  · have hc' : (f.check == 0) = false := by simpa using hc
    simp [hc, hc', bne, Fm.task, encK, Fm.zeroF, Ty.zero, resPV]
  obtain ⟨hok, _⟩ := Fm.check_ok2 hc
  obtain ⟨g1, g2, g3⟩ := stripA_facts f
  have hgo := g1 hok
  have hgl := g2 _ hle
  simp [hc]
  refine opV_call (c55 f hsz hok _) (by simp) ?_
  simp [Fm.task, hc]
  generalize (stripA f).1 = ts
  generalize (stripA f).2 = g at g3 hgo hgl
  obtain ⟨k, t, m, l⟩ := g
  by_cases hk : k = 5
  rotate_left
  · have hk' : (k == 5) = false := by simpa using hk
    simp [hk, hk', bne, Fm.kind]
    simp [encK, Fm.zeroF, Ty.zero, resPV]
  subst hk
  obtain ⟨x, rfl, hx⟩ : ∃ x, l = [x] ∧ x.ok = true := by
    rcases Fm.shape hgo with ⟨h, _⟩ | ⟨h, _⟩ | ⟨_, _, x, h, hx⟩
    · omega
    · omega
    · exact ⟨x, h, hx⟩
  obtain ⟨_, hxl⟩ := Fm.least_parts hgl
  simp at g3
  have hts := t.size_pos
  simp [Fm.kind, Fm.kid, Fm.kids, Fm.ty]
  refine opV_call (c56' x (by omega) hx (hxl x (by simp)) _) (by simp) ?_
  cases hd : x.cls.d with
  | false =>
    simp [uand4', hd]
    simp [encK, Fm.zeroF, Ty.zero, resPV]
  | true =>
    simp [uand4', hd]
    refine wpP_draw (fun _ t _ => decide (t = 3 ∨ t = 4)) ?_
    simp
    refine stepD_call (c57 t (by omega) _) (by simp) ?_
    simp
    refine stepD_call (c58 x (by omega) _) (by simp) ?_
    simp [encK, resPV]
theorem c76 (f : Fm) (hsz : f.size ≤ 549755813888) (hle : f.least 9223372036854775807 = true) (b : Int) (σ : List Frm) : CallsV cfg 76 [.agg (encF f), .one (.int .u8 b)] σ (.val (.tup [.one (.bool (if f.check = 0 then (uand f.cls.n b != 0) else false)), .one (.int .i64 f.check)])) σ := by
  refine w76 (by simp) ?_
  rw [s76]
  simp
  refine opV_call (c54 f (by omega) _) (by simp) ?_
  by_cases hc : f.check = 0
  rotate_left
  · have hc' : (f.check == 0) = false := by simpa using hc
    simp [hc, hc', bne]
  obtain ⟨hok, _⟩ := Fm.check_ok2 hc
  simp [hc]
  refine opV_call (c56' f hsz hok hle _) (by simp) ?_
  simp
def sane0 : Fm := .q 4 .nat (.q 5 .nat (.eq (.var 0) (.var 1)))
theorem sane0_ok : sane0.ok = true := Fm.q_ok (.inl rfl) Ty.nat_check (Fm.q_ok (.inr (.inl rfl)) Ty.nat_check (Fm.eq_ok (Tm.var_ok (by omega)) (Tm.var_ok (by omega))))
theorem sane0_size : sane0.size ≤ 64 := by simp [sane0, Fm.eq, Tm.var, Ty.zero]
theorem sane0_least : sane0.least 9223372036854775807 = true := Fm.q_least (Fm.q_least (Fm.eq_least (Tm.var_least (by omega)) (Tm.var_least (by omega))))
theorem sane0_task : sane0.task = ([.nat], .nat, .eq (.var 0) (.var 1), true) := by
  have hc : sane0.check = 0 := Fm.check_lt sane0_ok (by have := sane0_size; omega)
  have hs : stripA sane0 = ([.nat], .q 5 .nat (.eq (.var 0) (.var 1))) := by simp [sane0, Fm.q, stripA, Fm.eq]
  simp [Fm.task, hc, hs, Fm.q, Fm.kind, Fm.kid, Fm.kids, Fm.ty, Fm.eq, cls_eq]
theorem c7 (σ : List Frm) : CallsV cfg 7 [] σ (.val (.one (.bool true))) σ := by
  refine w7 (by simp) ?_
  rw [s7]
  simp
  refine opV_call (c27 _) (by simp) ?_
  simp
  refine wpP_draw (fun _ _ _ => false) ?_
  simp
  refine stepD_call (c46 0 _) (by simp) ?_
  simp
  refine stepD_call (c46 1 _) (by simp) ?_
  simp
  refine stepD_call (c45 (.var 0) (.var 1) (by simp [Tm.var, Ty.zero]) (by simp [Tm.var, Ty.zero]) _) (by simp) ?_
  simp
  refine stepD_call (c13 5 .nat (.eq (.var 0) (.var 1)) (by simp) (by simp [Fm.eq, Tm.var, Ty.zero]) _) (by simp [Ty.nat]) ?_
  simp
  refine stepD_call (c13 4 .nat (.q 5 .nat (.eq (.var 0) (.var 1))) (by simp) (by simp [Fm.eq, Tm.var, Ty.zero]) _) (by simp [Ty.nat]) ?_
  simp
  have h := c14 sane0 (by have := sane0_size; omega) sane0_least
  rw [sane0_task] at h
  refine stepD_call (h _) (by simp [sane0]) ?_
  simp [encK]
  refine opV_call (c16 .nat .nat (by simp) _) (by simp [Ty.nat]) ?_
  simp [Ty.same_refl, Fm.eq]
@[simp] theorem binF_neq4 (a b : Bool) : binF cfg .neq 4 (.one (.bool a)) (.one (.bool b)) = some (.one (.bool (!(a == b)))) := by simp [binF]
@[simp] theorem binF_eql4 (a b : Bool) : binF cfg .eql 4 (.one (.bool a)) (.one (.bool b)) = some (.one (.bool (a == b))) := by simp [binF]
end Go.Proofs.YtcgmhnlmgomlgaaGreatDoor.V

set_option maxRecDepth 100000
namespace Go.Proofs.YtcgmhnlmgomlgaaGreatDoor.V
open Go Go.Proofs
def i31 (a b : Tm) (l m : List Tm) (σ : List Frm) (j : Nat) : St → Prop
  | ⟨env, loc, σ', _⟩ => env 2 = .one (.box σ.length 2 0 0) ∧ env 3 = .one (.box σ.length 3 0 0) ∧ env 37 = .one (.int .i64 l.length) ∧ env 38 = .one (.int .i64 j) ∧
    loc 2 = [encT a] ∧ loc 3 = [encT b] ∧ σ' = σ ∧ Tm.sames l m = Tm.sames (l.drop j) (m.drop j)
theorem c31 (a : Tm) : ∀ (b : Tm), a.size ≤ 1099511627776 → ∀ (σ : List Frm), CallsV cfg 31 [.agg (encT a), .agg (encT b)] σ (.val (.one (.bool (a.same b)))) σ := by
  induction a using Tm.ind with
  | _ k i t l ih =>
  rintro ⟨k', i', t', m⟩ hsz σ
  simp at hsz
  have hlen := Tm.length_le l
  have hsp := t.size_pos
  refine w31 (by simp) ?_
  rw [s31, Tm.same_mk]
  by_cases hk : k = k'
  rotate_left
  · simp [hk]
  subst hk
  by_cases hi : i = i'
  rotate_left
  · simp [hi]
  subst hi
  simp
  refine opV_call (c16 t t' (by omega) _) (by simp) ?_
  cases ht : Ty.same t t' with
  | false => simp
  | true =>
    by_cases hl : l.length = m.length
    rotate_left
    · have : Tm.sames l m = false := by
        cases h : Tm.sames l m with
        | false => rfl
        | true => exact absurd (Tm.sames_length h) hl
      have hl' : ¬ (l.length : Int) = m.length := by omega
      simp [hl', this]
    have hl' : ((l.length : Int) = (m.length : Int)) = True := by simp [hl]
    simp [hl']
    refine wpP_range l.length (i31 (.mk k i t l) (.mk k i t' m) l m σ) (by omega) ⟨by simp, by simp, by simp, by simp, by simp, by simp, rfl, by simp⟩ ?_ ?_ (hend := ?_)
    · rintro j ⟨env, loc, σ', live⟩ ⟨e2, e3, e37, e38, h2, h3, rfl, hs⟩
      exact ⟨e38, e37⟩
    · rintro j ⟨env, loc, σ', live⟩ hj ⟨e2, e3, e37, e38, h2, h3, rfl, hs⟩
      obtain ⟨x, hx, hd, hmx⟩ := drop_cons hj
      obtain ⟨y, hy, hd', _⟩ := drop_cons (hl ▸ hj)
      have := Tm.sizes_mem hmx
      simp [e2, e3, e37, e38]
      refine wpP_draw (fun _ _ _ => false) ?_
      simp [e2, e3, e37, e38, h2, h3, hx, hy]
      refine stepD_call (ih x hmx y (by omega) _) (by simp) ?_
      rw [hd, hd', Tm.sames_cons] at hs
      cases hxy : x.same y with
      | false =>
        rw [hxy] at hs
        simp [hs]
      | true =>
        rw [hxy] at hs
        simp [e2, e3, e37, e38]
        exact ⟨by simp, by simp, by simp, by simp, by simp [h2], by simp [h3], rfl, by simpa using hs⟩
    · rintro ⟨env, loc, σ', live⟩ ⟨e2, e3, e37, e38, h2, h3, rfl, hs⟩
      rw [List.drop_length, hl, List.drop_length] at hs
      simp [hs]
def i59 (l m : List Tm) (σ : List Frm) (j : Nat) : St → Prop
  | ⟨env, loc, σ', _⟩ => env 0 = .one (.slice .no 5 (l.map encT)) ∧ env 1 = .one (.slice .no 5 (m.map encT)) ∧ env 12 = .one (.int .i64 l.length) ∧ env 13 = .one (.int .i64 j) ∧ σ' = σ ∧ Tm.sames l m = Tm.sames (l.drop j) (m.drop j)
theorem c59 (l m : List Tm) (hsz : Tm.sizes l ≤ 1099511627776) (σ : List Frm) : CallsV cfg 59 [.one (.slice .no 5 (l.map encT)), .one (.slice .no 5 (m.map encT))] σ (.val (.one (.bool (Tm.sames l m)))) σ := by
  have hlen := Tm.length_le l
  refine w59 (by simp) ?_
  rw [s59]
  by_cases hl : l.length = m.length
  rotate_left
  · have : Tm.sames l m = false := by
      cases h : Tm.sames l m with
      | false => rfl
      | true => exact absurd (Tm.sames_length h) hl
    have hl' : ((l.length : Int) == (m.length : Int)) = false := by simpa using (by omega : ¬ (l.length : Int) = m.length)
    simp [hl', this, bne]
  have hl' : ((l.length : Int) == (m.length : Int)) = true := by rw [hl]; simp
  simp [hl', bne]
  refine wpP_range l.length (i59 l m σ) (by omega) ⟨by simp, by simp, by simp, by simp, rfl, by simp⟩ ?_ ?_ (hend := ?_)
  · rintro j ⟨env, loc, σ', live⟩ ⟨e0, e1, e12, e13, rfl, hs⟩
    exact ⟨e13, e12⟩
  · rintro j ⟨env, loc, σ', live⟩ hj ⟨e0, e1, e12, e13, rfl, hs⟩
    obtain ⟨x, hx, hd, hmx⟩ := drop_cons hj
    obtain ⟨y, hy, hd', _⟩ := drop_cons (hl ▸ hj)
    have := Tm.sizes_mem hmx
    simp [e0, e1, e12, e13]
    refine wpP_draw (fun _ _ _ => false) ?_
    simp [e0, e1, e12, e13, hx, hy]
    refine stepD_call (c31 x y (by omega) _) (by simp) ?_
    rw [hd, hd', Tm.sames_cons] at hs
    cases hxy : x.same y with
    | false =>
      rw [hxy] at hs
      simp [hs]
    | true =>
      rw [hxy] at hs
      simp [e0, e1, e12, e13]
      exact ⟨by simp, by simp, by simp, by simp, rfl, by simpa using hs⟩
  · rintro ⟨env, loc, σ', live⟩ ⟨e0, e1, e12, e13, rfl, hs⟩
    rw [List.drop_length, hl, List.drop_length] at hs
    simp [hs]
def i17 (a b : Fm) (l m : List Fm) (σ : List Frm) (j : Nat) : St → Prop
  | ⟨env, loc, σ', _⟩ => env 2 = .one (.box σ.length 2 0 0) ∧ env 3 = .one (.box σ.length 3 0 0) ∧ env 38 = .one (.int .i64 l.length) ∧ env 39 = .one (.int .i64 j) ∧
    loc 2 = [encF a] ∧ loc 3 = [encF b] ∧ σ' = σ ∧ Fm.sames l m = Fm.sames (l.drop j) (m.drop j)
theorem c17 (a : Fm) : ∀ (b : Fm), a.size ≤ 1099511627776 → ∀ (σ : List Frm), CallsV cfg 17 [.agg (encF a), .agg (encF b)] σ (.val (.one (.bool (a.same b)))) σ := by
  induction a using Fm.ind with
  | _ k t n l ih =>
  rintro ⟨k', t', n', m⟩ hsz σ
  simp at hsz
  have hlen := Fm.length_le l
  refine w17 (by simp) ?_
  rw [s17, Fm.same_mk]
  by_cases hk : k = k'
  rotate_left
  · simp [hk]
  subst hk
  simp
  refine opV_call (c16 t t' (by omega) _) (by simp) ?_
  cases ht : Ty.same t t' with
  | false => simp
  | true =>
    simp
    refine opV_call (c59 n n' (by omega) _) (by simp) ?_
    cases hn : Tm.sames n n' with
    | false => simp
    | true =>
      by_cases hl : l.length = m.length
      rotate_left
      · have : Fm.sames l m = false := by
          cases h : Fm.sames l m with
          | false => rfl
          | true => exact absurd (Fm.sames_length h) hl
        have hl' : ¬ (l.length : Int) = m.length := by omega
        simp [hl', this]
      have hl' : ((l.length : Int) = (m.length : Int)) = True := by simp [hl]
      simp [hl']
      refine wpP_range l.length (i17 (.mk k t n l) (.mk k t' n' m) l m σ) (by omega) ⟨by simp, by simp, by simp, by simp, by simp, by simp, rfl, by simp⟩ ?_ ?_ (hend := ?_)
      · rintro j ⟨env, loc, σ', live⟩ ⟨e2, e3, e38, e39, h2, h3, rfl, hs⟩
        exact ⟨e39, e38⟩
      · rintro j ⟨env, loc, σ', live⟩ hj ⟨e2, e3, e38, e39, h2, h3, rfl, hs⟩
        obtain ⟨x, hx, hd, hmx⟩ := drop_cons hj
        obtain ⟨y, hy, hd', _⟩ := drop_cons (hl ▸ hj)
        have := Fm.sizes_mem hmx
        simp [e2, e3, e38, e39]
        refine wpP_draw (fun _ _ _ => false) ?_
        simp [e2, e3, e38, e39, h2, h3, hx, hy]
        refine stepD_call (ih x hmx y (by omega) _) (by simp) ?_
        rw [hd, hd', Fm.sames_cons] at hs
        cases hxy : x.same y with
        | false =>
          rw [hxy] at hs
          simp [hs]
        | true =>
          rw [hxy] at hs
          simp [e2, e3, e38, e39]
          exact ⟨by simp, by simp, by simp, by simp, by simp [h2], by simp [h3], rfl, by simpa using hs⟩
      · rintro ⟨env, loc, σ', live⟩ ⟨e2, e3, e38, e39, h2, h3, rfl, hs⟩
        rw [List.drop_length, hl, List.drop_length] at hs
        simp [hs]
theorem c98 (s t : Tm) (hs : s.size ≤ 274877906944) (ht : t.size ≤ 274877906944) (σ : List Frm) : CallsV cfg 98 [.agg (encT s), .agg (encT t)] σ (.val (.agg (encF (less s t)))) σ := by
  refine w98 (by simp) ?_
  rw [s98]
  simp
  refine wpP_draw (fun _ _ _ => false) ?_
  simp
  refine stepD_call (c75 _) (by simp) ?_
  simp
  refine stepD_call (c70 5 [s] (by simp; omega) _) (by simp) ?_
  simp
  refine stepD_call (c70 3 [.sub, .node 5 [s]] (by simp [Tm.node, Ty.zero]; omega) _) (by simp) ?_
  simp
  refine stepD_call (c70 3 [.node 3 [.sub, .node 5 [s]], t] (by simp [Tm.node, Ty.zero]; omega) _) (by simp) ?_
  simp
  refine stepD_call (c70 4 [] (by simp) _) (by simp) ?_
  simp
  refine stepD_call (c45 (.node 3 [.node 3 [.sub, .node 5 [s]], t]) (.node 4 []) (by simp [Tm.node, Ty.zero]; omega) (by simp [Tm.node, Ty.zero]) _) (by simp) ?_
  simp [less, Tm.app2, Tm.app]
theorem c95 (t : Tm) (hsz : t.size ≤ 549755813888) (fr b : Int) (σ : List Frm) : CallsV cfg 95 [.agg (encT t), .one (.int .i64 fr), .one (.int .i64 b)] σ (.val (.tup [.agg (encT (t.liftT fr b).1), .one (.int .i64 (t.liftT fr b).2)])) σ := by
  refine w95 (by simp) ?_
  rw [s95]
  simp
  refine opV_call (c63 t (by omega) _) (by simp) ?_
  by_cases hc : t.check = 0
  rotate_left
  · have hc' : (t.check == 0) = false := by simpa using hc
    simp [hc, hc', bne, Tm.liftT, Tm.zeroT, Ty.zero]
  obtain ⟨hok, hcnt⟩ := Tm.check_ok hc
  by_cases h1 : fr < 0
  · simp [hc, h1, Tm.liftT, Tm.zeroT, Ty.zero]
  by_cases h2 : 4096 < fr
  · simp [hc, h1, h2, Tm.liftT, Tm.zeroT, Ty.zero]
  by_cases h3 : b < 0
  · simp [hc, h1, h2, h3, Tm.liftT, Tm.zeroT, Ty.zero]
  by_cases h4 : 4096 < b
  · simp [hc, h1, h2, h3, h4, Tm.liftT, Tm.zeroT, Ty.zero]
  simp [hc, h1, h2, h3, h4, Tm.liftT]
  refine opV_call (c64 536870912 t (by omega) _) (by simp) ?_
  cases hl : t.least 536870912 with
  | false => simp [Tm.zeroT, Ty.zero]
  | true =>
    simp
    refine opV_call (c104 t (by omega) hok hl fr b (by omega) (by omega) (by omega) (by omega) _) (by simp) ?_
    simp
    refine opV_call (c99 (t.up fr b) (by rw [Tm.up_size]; omega) _) (by simp) ?_
    simp
end Go.Proofs.YtcgmhnlmgomlgaaGreatDoor.V

set_option maxRecDepth 100000
namespace Go.Proofs.YtcgmhnlmgomlgaaGreatDoor.V
open Go Go.Proofs
def lessE (s t : Tm) : Fm × Int := if s.check ≠ 0 then (.zeroF, s.check) else if t.check ≠ 0 then (.zeroF, t.check) else if 4096 < (less s t).count then (.zeroF, 4) else (less s t, 0)
theorem c44 (s t : Tm) (hs : s.size ≤ 137438953472) (ht : t.size ≤ 137438953472) (σ : List Frm) : CallsV cfg 44 [.agg (encT s), .agg (encT t)] σ (.val (.tup [.agg (encF (lessE s t).1), .one (.int .i64 (lessE s t).2)])) σ := by
  refine w44 (by simp) ?_
  rw [s44]
  simp
  refine opV_call (c63 s (by omega) _) (by simp) ?_
  by_cases hc : s.check = 0
  rotate_left
  · have hc' : (s.check == 0) = false := by simpa using hc
    simp [hc, hc', bne, lessE, Fm.zeroF, Ty.zero]
  simp [hc]
  refine opV_call (c63 t (by omega) _) (by simp) ?_
  by_cases hd : t.check = 0
  rotate_left
  · have hd' : (t.check == 0) = false := by simpa using hd
    simp [hc, hd, hd', bne, lessE, Fm.zeroF, Ty.zero]
  simp [hd]
  refine opV_call (c98 s t (by omega) (by omega) _) (by simp) ?_
  have hz := less_size' s t
  have hless : less s t = .mk 1 .zero [.app2 .sub (.node 5 [s]) t, .node 4 []] [] := rfl
  have hcount : (less s t).count = 1 + ((Tm.app2 .sub (.node 5 [s]) t).count + (Tm.node 4 []).count) := by rw [hless]; simp
  have hsz : (Tm.app2 .sub (.node 5 [s]) t).size ≤ (less s t).size := by rw [hless]; simp; omega
  have c67' := c67 (.app2 .sub (.node 5 [s]) t) (by omega)
  have c65' := c65 (less s t) (by omega)
  rw [hless] at c65' ⊢
  generalize Tm.app2 .sub (.node 5 [s]) t = a at *
  simp
  refine opV_call (c67' _) (by simp) ?_
  by_cases h1 : 4096 < a.count
  · have h1' : (4096 : Int) < a.count := by omega
    have h2 : 4096 < (less s t).count := by omega
    simp [h1', lessE, hc, hd, h2, Fm.zeroF, Ty.zero]
  · have h1' : ¬ (4096 : Int) < a.count := by omega
    simp [h1']
    refine opV_call (c65' _) (by simp) ?_
    rw [← hless]
    by_cases h2 : 4096 < (less s t).count
    · have h2' : (4096 : Int) < (less s t).count := by omega
      simp [h2', lessE, hc, hd, h2, Fm.zeroF, Ty.zero]
    · have h2' : ¬ (4096 : Int) < (less s t).count := by omega
      have q1 : ¬ 4096 < 1 + (a.count + (Tm.node 4 []).count) := by omega
      have q2 : ¬ (4096 : Int) < 1 + ((a.count : Int) + ((Tm.node 4 []).count : Int)) := by omega
      simp [h2', lessE, hc, hd, h2, hless, q1, q2]
theorem Fm.check_iff {f : Fm} (h : f.ok = true) : f.check = 0 ↔ f.count ≤ 4096 := by
  unfold Fm.check
  rw [if_pos h]
  split
  · rename_i h1; exact ⟨fun _ => h1, fun _ => rfl⟩
  · rename_i h1; exact ⟨fun h => by simp at h, fun h => absurd h h1⟩
theorem c42 (all : Bool) (t : Tm) (f : Fm) (ht : t.size ≤ 17179869184) (hf : f.size ≤ 17179869184) (σ : List Frm) : CallsV cfg 42 [.one (.bool all), .agg (encT t), .agg (encF f)] σ (.val (.tup [.agg (encF (bounded all t f).1), .one (.int .i64 (bounded all t f).2)])) σ := by
  refine w42 (by simp) ?_
  rw [s42]
  simp
  refine opV_call (c95 t (by omega) 0 1 _) (by simp) ?_
  unfold bounded
  by_cases hl : (t.liftT 0 1).2 = 0
  rotate_left
  · have hl' : ((t.liftT 0 1).2 == 0) = false := by simpa using hl
    simp [hl, hl', bne, Fm.zeroF, Ty.zero]
  have hcl : t.check = 0 ∧ t.liftT 0 1 = (t.up 0 1, 0) := by
    unfold Tm.liftT at hl ⊢
    by_cases h1 : t.check = 0
    · rw [if_neg (by simpa using h1)] at hl ⊢
      split at hl
      · cases hl
      · rename_i h; rw [if_neg h]; exact ⟨h1, rfl⟩
    · rw [if_pos h1] at hl; exact absurd hl h1
  obtain ⟨hc, he⟩ := hcl
  rw [he]
  simp
  refine opV_call (c60 f (by omega) _) (by simp) ?_
  by_cases hd : f.check = 0
  rotate_left
  · have hd' : (f.check == 0) = false := by simpa using hd
    simp [hd, hd', bne, Fm.zeroF, Ty.zero]
  obtain ⟨hok, hcnt⟩ := Tm.check_ok hc
  obtain ⟨hfo, hfc⟩ := Fm.check_ok2 hd
  have huo := Tm.up_ok t 0 1 (by omega) hok
  have huc := Tm.up_count t 0 1
  have hus := Tm.up_size t 0 1
  have hucheck : (t.up 0 1).check = 0 := by unfold Tm.check; rw [if_pos huo, if_pos (by omega)]
  have hv : (Tm.var 0).check = 0 := by unfold Tm.check; rw [if_pos (Tm.var_ok (by omega)), if_pos (by simp [Tm.var])]
  generalize t.up 0 1 = u at *
  have hb := bform_ok (all := all) huo hfo
  have hbc : (bform all u f).count = 2 + (less (.var 0) u).count + f.count := by simp [bform, Fm.q, Fm.two]; omega
  have hlz := less_size' (.var 0) u
  have hvz : (Tm.var 0).size = 2 := by simp [Tm.var, Ty.zero]
  have hE : lessE (.var 0) u = if 4096 < (less (.var 0) u).count then (.zeroF, 4) else (less (.var 0) u, 0) := by unfold lessE; rw [if_neg (by simpa using hv), if_neg (by simpa using hucheck)]
  simp [hd]
  refine wpP_draw (fun _ _ _ => false) ?_
  simp
  refine stepD_call (c46 0 _) (by simp) ?_
  simp
  refine stepD_call (c44 (.var 0) u (by omega) (by omega) _) (by simp) ?_
  rw [hE]
  by_cases h1 : 4096 < (less (.var 0) u).count
  · have h2 : ¬ (bform all u f).check = 0 := by rw [Fm.check_iff hb]; omega
    simp [h1, h2, Fm.zeroF, Ty.zero]
  simp [h1]
  generalize hw : less (.var 0) u = w at *
  refine wpP_draw (fun _ _ _ => false) ?_
  simp
  refine stepD_call (c27 _) (by simp) ?_
  simp
  refine stepD_call (c19 2 w f (by omega) (by omega) _) (by simp) ?_
  simp
  refine stepD_call (c13 5 .nat (.two 2 w f) (by simp) (by simp; omega) _) (by simp [Ty.nat]) ?_
  simp
  have hbz := bform_size all u f
  have c65' := c65 (bform all u f) (by omega)
  cases all with
  | false =>
    simp
    have e : Fm.q 5 .nat (.two 2 w f) = bform false u f := by simp [bform, hw]
    rw [e]
    refine opV_call (c65' _) (by simp) ?_
    by_cases h3 : (bform false u f).count ≤ 4096
    · have h4 := (Fm.check_iff hb).2 h3
      have h3' : ¬ (4096 : Int) < (bform false u f).count := by omega
      simp [h3', h4]
    · have h4 : ¬ (bform false u f).check = 0 := fun h => h3 ((Fm.check_iff hb).1 h)
      have h3' : (4096 : Int) < (bform false u f).count := by omega
      simp [h3', h4, Fm.zeroF, Ty.zero]
  | true =>
    simp
    refine wpP_draw (fun _ _ _ => false) ?_
    simp
    refine stepD_call (c27 _) (by simp) ?_
    simp
    refine stepD_call (c19 3 w f (by omega) (by omega) _) (by simp) ?_
    simp
    refine stepD_call (c13 4 .nat (.two 3 w f) (by simp) (by simp; omega) _) (by simp [Ty.nat]) ?_
    have e : Fm.q 4 .nat (.two 3 w f) = bform true u f := by simp [bform, hw]
    simp
    rw [e]
    refine opV_call (c65' _) (by simp) ?_
    by_cases h3 : (bform true u f).count ≤ 4096
    · have h4 := (Fm.check_iff hb).2 h3
      have h3' : ¬ (4096 : Int) < (bform true u f).count := by omega
      simp [h3', h4]
    · have h4 : ¬ (bform true u f).check = 0 := fun h => h3 ((Fm.check_iff hb).1 h)
      have h3' : (4096 : Int) < (bform true u f).count := by omega
      simp [h3', h4, Fm.zeroF, Ty.zero]
end Go.Proofs.YtcgmhnlmgomlgaaGreatDoor.V

set_option maxRecDepth 100000
namespace Go.Proofs.YtcgmhnlmgomlgaaGreatDoor.V
open Go Go.Proofs
theorem dB_small : ∀ d, d ≤ 4 → dB 64 d ≤ 200000 := by decide
def r12 (l : List Int) (p : Pl) (g : List Ty) (σ : List Frm) (Ok : List Int → Prop) : St → Prop
  | ⟨env, loc, σ', _⟩ => ∃ r, r <:+ l ∧ Ok r ∧ env 0 = p.ptr ∧ env 1 = .one (.slice .no 2 (g.map enc)) ∧ env 6 = .one (.box σ.length 6 0 0) ∧ env 7 = .one (.box σ.length 7 0 0) ∧ loc 6 = [z29] ∧ loc 7 = [enc .nat] ∧ σ' = setC σ p (deckC l r)
theorem d12 {l : List Int} (hd : Dk l) (p : Pl) (d : Nat) : d ≤ 4 → ∀ (g : List Ty), Good 64 g → g.length + d + 70 ≤ 1000 → ∀ {r : List Int}, r <:+ l →
    DkV l p 12 [p.ptr, .one (.slice .no 2 (g.map enc)), .one (.int .i64 d)] r (.agg (encF (mkDec d g r).1)) (mkDec d g r).2 := by
  have hnat : Ty.nat.ok = true ∧ Ty.nat.size ≤ 64 := ⟨Ty.nat_ok, by simp⟩
  have tm : ∀ g r, Good 64 g → (mkTerm 1 g .nat r).1.size ≤ 100000 := fun g r hg => Nat.le_trans (mkTerm_fine (by omega) 1 g .nat r hg hnat).2 (tmB_small 1 (by omega))
  have fine : ∀ d g r, d ≤ 4 → Good 64 g → (mkDec d g r).1.size ≤ 200000 := fun d g r hd hg => Nat.le_trans (mkDec_fine (m := 64) (by omega) (by omega) d g r hg).2.1 (dB_small d hd)
  induction d using Nat.strongRecOn with
  | _ d ih =>
  intro hd4 g hg hlen r hr σ hH
  have hne : ¬ p.d = σ.length := by have := hH.lt; omega
  have hne' : ¬ σ.length = p.d := fun h => hne h.symm
  refine w12 (by simp) ?_
  rw [s12]
  refine cut3 (r12 l p g σ fun r' => mkDec d g r = mkEq g r') ?_ ?_
  · simp [Pl.ptr]
    refine opV_call (c27 _) (by simp) ?_
    cases d with
    | zero =>
      simp
      exact ⟨r, hr, by rw [mkDec], by simp [Pl.ptr], by simp, by simp, by simp, by simp [z29], by simp [Ty.nat], rfl⟩
    | succ d =>
      have hpos1 : (0 : Int) < (d : Int) + 1 := by omega
      have hw : IntKind.i64.wrap (d : Int) = d := wrap_id (by omega) (by omega)
      have s1 := (next_suf 6 r).trans hr
      have hc := next_range (n := 6) (by omega) r
      have hcase : (next 6 r).1 = 0 ∨ (next 6 r).1 = 1 ∨ ((next 6 r).1 = 2 ∨ (next 6 r).1 = 3) ∨ (next 6 r).1 = 4 ∨ (next 6 r).1 = 5 := by omega
      simp [hpos1]
      refine opV_at (dNext hd hr p (n := 6) (by omega)) hH (by simp [Pl.ptr]) ?_
      rcases hcase with h | h | h | h | h
      · have e : mkDec (d + 1) g r = (.two 2 (mkDec d g (next 6 r).2).1 (mkDec d g (mkDec d g (next 6 r).2).2).1, (mkDec d g (mkDec d g (next 6 r).2).2).2) := by simp [mkDec, h]
        rw [e]
        have fx := fine d g (next 6 r).2 (by omega) hg
        have fy := fine d g (mkDec d g (next 6 r).2).2 (by omega) hg
        simp [h, hw]
        refine opV_at (ih d (by omega) (by omega) g hg (by omega) s1) hH (by simp [Pl.ptr]) ?_
        simp [hw]
        refine opV_at (ih d (by omega) (by omega) g hg (by omega) ((mkDec_suf d g (next 6 r).2).trans s1)) hH (by simp [Pl.ptr]) ?_
        simp
        refine opV_call (c19 2 (mkDec d g (next 6 r).2).1 (mkDec d g (mkDec d g (next 6 r).2).2).1 (by omega) (by omega) _) (by simp) ?_
        simp
      · have e : mkDec (d + 1) g r = (.two 3 (mkDec d g (next 6 r).2).1 (mkDec d g (mkDec d g (next 6 r).2).2).1, (mkDec d g (mkDec d g (next 6 r).2).2).2) := by simp [mkDec, h]
        rw [e]
        have fx := fine d g (next 6 r).2 (by omega) hg
        have fy := fine d g (mkDec d g (next 6 r).2).2 (by omega) hg
        simp [h, hw]
        refine opV_at (ih d (by omega) (by omega) g hg (by omega) s1) hH (by simp [Pl.ptr]) ?_
        simp [hw]
        refine opV_at (ih d (by omega) (by omega) g hg (by omega) ((mkDec_suf d g (next 6 r).2).trans s1)) hH (by simp [Pl.ptr]) ?_
        simp
        refine opV_call (c19 3 (mkDec d g (next 6 r).2).1 (mkDec d g (mkDec d g (next 6 r).2).2).1 (by omega) (by omega) _) (by simp) ?_
        simp
      · have e : mkDec (d + 1) g r = (if (bounded ((next 2 (next 6 r).2).1 == 0) (mkTerm 1 g .nat (next 2 (next 6 r).2).2).1 (mkDec d (g ++ [.nat]) (mkTerm 1 g .nat (next 2 (next 6 r).2).2).2).1).2 = 0 then ((bounded ((next 2 (next 6 r).2).1 == 0) (mkTerm 1 g .nat (next 2 (next 6 r).2).2).1 (mkDec d (g ++ [.nat]) (mkTerm 1 g .nat (next 2 (next 6 r).2).2).2).1).1, (mkDec d (g ++ [.nat]) (mkTerm 1 g .nat (next 2 (next 6 r).2).2).2).2) else mkEq g (mkDec d (g ++ [.nat]) (mkTerm 1 g .nat (next 2 (next 6 r).2).2).2).2) := by
          rw [mkDec]
          simp only
          rw [if_neg (by omega), if_neg (by omega), if_pos h]
        rw [e]
        have hgn : Good 64 (g ++ [Ty.nat]) := hg.app (Good.one hnat)
        have s2 := (next_suf 2 (next 6 r).2).trans s1
        have fx := tm g (next 2 (next 6 r).2).2 hg
        have s3 := (mkTerm_suf 1 g .nat (next 2 (next 6 r).2).2).trans s2
        have fy := fine d (g ++ [.nat]) (mkTerm 1 g .nat (next 2 (next 6 r).2).2).2 (by omega) hgn
        have s4 := (mkDec_suf d (g ++ [.nat]) (mkTerm 1 g .nat (next 2 (next 6 r).2).2).2).trans s3
        have hsz := hg.sizes
        have h01 : ¬ (next 6 r).1 = 0 ∧ ¬ (next 6 r).1 = 1 := by omega
        rcases h with h | h
        all_goals
          simp [h, hw]
          refine wpP_draw (atPl p) ?_
          simp [hne']
          refine stepD_at (dNext hd s1 p (n := 2) (by omega)) hH (by simp [Pl.ptr]) ?_
          simp [hne']
          refine stepD_at (d23 hd p 1 (by omega) g .nat hg hnat (by omega) s2) hH (by simp [Pl.ptr, Ty.nat]) ?_
          simp [hne']
          refine stepD_call (c51 g [.nat] (by simp; omega) _) (by simp [Ty.nat]) ?_
          simp [hne', hw]
          refine stepD_at (ih d (by omega) (by omega) (g ++ [.nat]) hgn (by simp; omega) s3) hH (by simp [Pl.ptr]) ?_
          simp [hne']
          refine stepD_call (c42 ((next 2 (next 6 r).2).1 == 0) (mkTerm 1 g .nat (next 2 (next 6 r).2).2).1 (mkDec d (g ++ [.nat]) (mkTerm 1 g .nat (next 2 (next 6 r).2).2).2).1 (by omega) (by omega) _) (by simp) ?_
          by_cases hb : (bounded ((next 2 (next 6 r).2).1 == 0) (mkTerm 1 g .nat (next 2 (next 6 r).2).2).1 (mkDec d (g ++ [.nat]) (mkTerm 1 g .nat (next 2 (next 6 r).2).2).2).1).2 = 0
          · simp [hne', hb]
          · have hb' : ((bounded ((next 2 (next 6 r).2).1 == 0) (mkTerm 1 g .nat (next 2 (next 6 r).2).2).1 (mkDec d (g ++ [.nat]) (mkTerm 1 g .nat (next 2 (next 6 r).2).2).2).1).2 == 0) = false := by simpa using hb
            simp [hne', hb, hb']
            exact ⟨_, s4, rfl, by simp [Pl.ptr], by simp, by simp, by simp, by simp [z29], by simp [Ty.nat], rfl⟩
      · have e : mkDec (d + 1) g r = mkEq g (next 6 r).2 := by simp [mkDec, h]
        simp [h]
        exact ⟨_, s1, e, by simp [Pl.ptr], by simp, by simp, by simp, by simp [z29], by simp [Ty.nat], rfl⟩
      · have e : mkDec (d + 1) g r = mkEq g (next 6 r).2 := by simp [mkDec, h]
        simp [h]
        exact ⟨_, s1, e, by simp [Pl.ptr], by simp, by simp, by simp, by simp [z29], by simp [Ty.nat], rfl⟩
  · rintro ⟨env, loc, σ', live⟩ ⟨r', hr', he, e0, e1, e6, e7, l6, l7, rfl⟩
    simp only [Pl.ptr] at e0
    rw [he]
    have fx := tm g r' hg
    have fy := tm g (mkTerm 1 g .nat r').2 hg
    refine wpP_draw (atPl p) ?_
    simp [e0, e1, e6, e7, l6, l7, hne']
    refine stepD_at (d23 hd p 1 (by omega) g .nat hg hnat (by omega) hr') hH (by simp [Pl.ptr, Ty.nat]) ?_
    simp [e0, e1, e6, e7, l6, l7, hne']
    refine stepD_at (d23 hd p 1 (by omega) g .nat hg hnat (by omega) ((mkTerm_suf 1 g .nat r').trans hr')) hH (by simp [Pl.ptr, Ty.nat]) ?_
    simp [e0, e1, e6, e7, l6, l7, hne']
    refine stepD_call (c45 (mkTerm 1 g .nat r').1 (mkTerm 1 g .nat (mkTerm 1 g .nat r').2).1 (by omega) (by omega) _) (by simp) ?_
    simp [e0, e1, e6, e7, l6, l7, mkEq, z29]
end Go.Proofs.YtcgmhnlmgomlgaaGreatDoor.V

set_option maxRecDepth 100000
namespace Go.Proofs.YtcgmhnlmgomlgaaGreatDoor.V
open Go Go.Proofs
end Go.Proofs.YtcgmhnlmgomlgaaGreatDoor.V

namespace Go.Proofs.YtcgmhnlmgomlgaaGreatDoor.V
open Go
theorem Tm.sub_count : Tm.sub.count = 16 := by decide +kernel
theorem Tm.plus_count : Tm.plus.count = 9 := by decide +kernel
theorem Tm.num_count (n : Nat) : (Tm.num n).count = n + 1 := by
  induction n with
  | zero => simp [Tm.num, Tm.node]
  | succ n ih => simp [Tm.num, Tm.node, ih]; omega
theorem Tm.num_times (n : Nat) (c : Int) : (Tm.num n).times c = 0 := by
  induction n generalizing c with
  | zero => simp [Tm.num, Tm.node, Tm.times_mk, Tm.timess]
  | succ n ih => simp [Tm.num, Tm.node, Tm.times_mk, Tm.timess, ih]
theorem Tm.plus_times {c : Int} (h : 0 ≤ c) : Tm.plus.times c = 0 := by
  simp [Tm.plus, Tm.lamN, Tm.recN, Tm.tnode, Tm.node, Tm.var, Tm.times_mk, Tm.timess]
  omega
theorem Tm.sub_times {c : Int} (h : 0 ≤ c) : Tm.sub.times c = 0 := by
  simp [Tm.sub, Tm.pred, Tm.app, Tm.lamN, Tm.recN, Tm.tnode, Tm.node, Tm.var, Tm.times_mk, Tm.timess]
  omega
def Cnt (B : Nat) (V : Int) (t : Tm) : Prop := t.count ≤ B ∧ ∀ c, 0 ≤ c → t.times c ≤ V
theorem Cnt.mono {B B' : Nat} {V V' : Int} {t : Tm} (h : Cnt B V t) (hB : B ≤ B') (hV : V ≤ V') : Cnt B' V' t := ⟨Nat.le_trans h.1 hB, fun c hc => Int.le_trans (h.2 c hc) hV⟩
theorem cnt_var (i : Int) : Cnt 1 1 (.var i) := ⟨by simp [Tm.var], fun c _ => by simp [Tm.var, Tm.times_mk, Tm.timess]; split <;> omega⟩
theorem cnt_num (n : Nat) : Cnt (n + 1) 0 (.num n) := ⟨by rw [Tm.num_count]; omega, fun c _ => by rw [Tm.num_times]; omega⟩
theorem cnt_node0 {k : Int} (h : k ≠ 1) : Cnt 1 0 (.node k []) := ⟨by simp [Tm.node], fun c _ => by simp [Tm.node, Tm.times_mk, Tm.timess, h]⟩
theorem cnt_node1 {k : Int} (h : k ≠ 1) (h2 : k ≠ 2) {B : Nat} {V : Int} {x : Tm} (hx : Cnt B V x) : Cnt (1 + B) V (.node k [x]) :=
  ⟨by have := hx.1; simp [Tm.node]; omega, fun c hc => by have := hx.2 c hc; simp [Tm.node, Tm.times_mk, Tm.timess, h, h2]; omega⟩
theorem cnt_node2 {k : Int} (h : k ≠ 1) (h2 : k ≠ 2) {B B' : Nat} {V V' : Int} {x y : Tm} (hx : Cnt B V x) (hy : Cnt B' V' y) : Cnt (1 + B + B') (V + V') (.node k [x, y]) :=
  ⟨by have := hx.1; have := hy.1; simp [Tm.node]; omega, fun c hc => by have := hx.2 c hc; have := hy.2 c hc; simp [Tm.node, Tm.times_mk, Tm.timess, h, h2]; omega⟩
theorem cnt_tnode3 {k : Int} (h : k ≠ 1) (h2 : k ≠ 2) {s : Ty} {B B' B'' : Nat} {V V' V'' : Int} {x y z : Tm} (hx : Cnt B V x) (hy : Cnt B' V' y) (hz : Cnt B'' V'' z) : Cnt (1 + B + B' + B'') (V + V' + V'') (.tnode k s [x, y, z]) :=
  ⟨by have := hx.1; have := hy.1; have := hz.1; simp [Tm.tnode]; omega, fun c hc => by have := hx.2 c hc; have := hy.2 c hc; have := hz.2 c hc; simp [Tm.tnode, Tm.times_mk, Tm.timess, h, h2]; omega⟩
theorem cnt_lam {s : Ty} {B : Nat} {V : Int} {x : Tm} (hx : Cnt B V x) : Cnt (1 + B) V (.tnode 2 s [x]) :=
  ⟨by have := hx.1; simp [Tm.tnode]; omega, fun c hc => by have := hx.2 (c + 1) (by omega); simp [Tm.tnode, Tm.times_mk, Tm.timess]; omega⟩
theorem cnt_plus : Cnt 9 0 .plus := ⟨by rw [Tm.plus_count]; omega, fun c hc => by rw [Tm.plus_times hc]; omega⟩
theorem cnt_sub : Cnt 16 0 .sub := ⟨by rw [Tm.sub_count]; omega, fun c hc => by rw [Tm.sub_times hc]; omega⟩
theorem mkTerm0_cnt (t : Ty) : ∀ (g : List Ty) (r : List Int), (t.size ≤ 1 → Cnt 3 1 (mkTerm0 g t r).1) ∧ (t.size ≤ 3 → Cnt 7 2 (mkTerm0 g t r).1) := by
  induction t using Ty.ind with
  | _ k l ih =>
  intro g r
  unfold mkTerm0
  rcases hv : pickVar (vars g (.mk k l)) r with ⟨_ | i, r'⟩ <;> simp only
  rotate_left
  · exact ⟨fun _ => (cnt_var i).mono (by omega) (by omega), fun _ => (cnt_var i).mono (by omega) (by omega)⟩
  · split
    · have hn := next_range (n := 3) (by omega) r'
      have h := cnt_num (next 3 r').1.toNat
      exact ⟨fun _ => h.mono (by omega) (by omega), fun _ => h.mono (by omega) (by omega)⟩
    · split
      · exact ⟨fun _ => (cnt_node0 (by omega)).mono (by omega) (by omega), fun _ => (cnt_node0 (by omega)).mono (by omega) (by omega)⟩
      · split
        · rename_i a b
          have ha := a.size_pos
          have hb := b.size_pos
          split
          · refine ⟨fun h => by simp at h; omega, fun h => ?_⟩
            simp at h
            exact (cnt_node2 (by omega) (by omega) ((ih a (by simp) _ _).1 (by omega)) ((ih b (by simp) _ _).1 (by omega))).mono (by omega) (by omega)
          · split
            · refine ⟨fun h => by simp at h; omega, fun h => ?_⟩
              simp at h
              exact (cnt_lam ((ih b (by simp) _ _).1 (by omega))).mono (by omega) (by omega)
            · exact ⟨fun _ => (cnt_node0 (by omega)).mono (by omega) (by omega), fun _ => (cnt_node0 (by omega)).mono (by omega) (by omega)⟩
        · exact ⟨fun _ => (cnt_node0 (by omega)).mono (by omega) (by omega), fun _ => (cnt_node0 (by omega)).mono (by omega) (by omega)⟩
theorem cnt_plain {b bt S : Nat} {v vt W : Int} {F : List Ty → Ty → List Int → Tm × List Int} (t : Ty) (ht : t.ok = true ∧ t.size ≤ 3) (hv0 : 0 ≤ v) (hvt : 0 ≤ vt) (hb0 : 3 ≤ b)
    (h1 : ∀ g s r, Good 3 g → s.ok = true ∧ s.size ≤ 1 → Cnt b v (F g s r).1) (h2 : ∀ g r, Good 3 g → Cnt bt vt (F g t r).1)
    (hS : 18 + 2 * b ≤ S ∧ 4 + 2 * bt + b ≤ S) (hW : 2 * vt + v ≤ W ∧ 2 * v ≤ W) (g : List Ty) (r : List Int) (hg : Good 3 g) : Cnt S W (mkPlain F g t r).1 := by
  obtain ⟨k, l⟩ := t
  have hnat : Ty.nat.ok = true ∧ Ty.nat.size ≤ 1 := ⟨Ty.nat_ok, by simp⟩
  unfold mkPlain
  simp only
  split
  · rename_i hk
    have hsz : (Ty.mk k l).size ≤ 1 := by
      have h := ht.1
      subst hk
      simp [Ty.ok_mk, tyArity] at h
      have hl : l = [] := List.length_eq_zero_iff.1 h.1.symm
      simp [hl]
    have go : ∀ r, Cnt b v (F g (.mk k l) r).1 := fun r => h1 _ _ _ hg ⟨ht.1, hsz⟩
    split
    · exact (cnt_node1 (by omega) (by omega) (go _)).mono (by omega) (by omega)
    · split
      · exact (cnt_node2 (by omega) (by omega) (cnt_node2 (by omega) (by omega) cnt_plus (go _)) (go _)).mono (by omega) (by omega)
      · split
        · exact (cnt_node2 (by omega) (by omega) (cnt_node2 (by omega) (by omega) cnt_sub (go _)) (go _)).mono (by omega) (by omega)
        · have hn := next_range (n := 3) (by omega) (next 5 r).2
          exact (cnt_num _).mono (by omega) (by omega)
  · split
    · split
      · exact (cnt_node2 (by omega) (by omega) (h1 _ _ _ hg hnat) (h2 _ _ hg)).mono (by omega) (by omega)
      · exact (cnt_node0 (by omega)).mono (by omega) (by omega)
    · split
      · rename_i a c
        have hab := Ty.parts2 ht
        have hsz := ht.2
        have ha := a.size_pos
        have hc := c.size_pos
        simp at hsz
        split
        · exact (cnt_node2 (by omega) (by omega) (h1 _ _ _ hg ⟨hab.1.1, by omega⟩) (h1 _ _ _ hg ⟨hab.2.1, by omega⟩)).mono (by omega) (by omega)
        · split
          · exact (cnt_lam (h1 _ _ _ (hg.app (Good.one hab.1)) ⟨hab.2.1, by omega⟩)).mono (by omega) (by omega)
          · exact (cnt_node0 (by omega)).mono (by omega) (by omega)
      · exact (cnt_node0 (by omega)).mono (by omega) (by omega)
theorem mkTerm_step {d b bt S : Nat} {v vt W : Int} (t : Ty) (ht : t.ok = true ∧ t.size ≤ 3) (hv0 : 0 ≤ v) (hvt : 0 ≤ vt) (hb0 : 3 ≤ b)
    (h1 : ∀ g s r, Good 3 g → s.ok = true ∧ s.size ≤ 1 → Cnt b v (mkTerm d g s r).1) (h2 : ∀ g r, Good 3 g → Cnt bt vt (mkTerm d g t r).1)
    (hS : 18 + 2 * b ≤ S ∧ 4 + 2 * bt + b ≤ S ∧ 6 + 2 * bt ≤ S) (hW : 2 * vt + v ≤ W ∧ 1 + v ≤ W ∧ 2 * v ≤ W) (g : List Ty) (r : List Int) (hg : Good 3 g) : Cnt S W (mkTerm (d + 1) g t r).1 := by
  have hnat : Ty.nat.ok = true ∧ Ty.nat.size ≤ 1 := ⟨Ty.nat_ok, by simp⟩
  have hlist : Ty.list.ok = true ∧ Ty.list.size ≤ 1 := ⟨Ty.list_ok, by simp⟩
  have up3 : ∀ {s : Ty}, s.ok = true ∧ s.size ≤ 1 → s.ok = true ∧ s.size ≤ 3 := fun h => ⟨h.1, by have := h.2; omega⟩
  have plain : ∀ r, Cnt S W (mkPlain (mkTerm d) g t r).1 := fun r => cnt_plain t ht hv0 hvt hb0 h1 h2 ⟨hS.1, hS.2.1⟩ ⟨hW.1, hW.2.2⟩ g r hg
  unfold mkTerm
  split
  · rename_i i r' hv
    exact (cnt_var i).mono (by omega) (by omega)
  · rename_i r' hv
    simp only
    split
    · exact (cnt_node2 (by omega) (by omega) (cnt_lam (h2 _ _ (hg.app (Good.one (up3 (mkType0 _)))))) (h1 _ _ _ hg (mkType0 _))).mono (by omega) (by omega)
    · split
      · exact (cnt_node1 (by omega) (by omega) (cnt_node2 (by omega) (by omega) (h2 _ _ hg) (h1 _ _ _ hg (mkType0 _)))).mono (by omega) (by omega)
      · split
        · refine Cnt.mono (cnt_tnode3 (by omega) (by omega) (h2 _ _ hg) (cnt_lam (cnt_lam (h2 _ _ (hg.app (Good.cons (up3 hnat) (Good.one ht)))))) (cnt_num _)) ?_ (by omega)
          have hn := next_range (n := 3) (by omega) (mkTerm d g t (mkTerm d (g ++ [.nat, t]) t (next 8 r').2).2).2
          omega
        · split
          · exact (cnt_tnode3 (by omega) (by omega) (h2 _ _ hg) (cnt_lam (cnt_lam (cnt_lam (h2 _ _ (hg.app (Good.cons (up3 hnat) (Good.cons (up3 hlist) (Good.one ht)))))))) (h1 _ _ _ hg hlist)).mono (by omega) (by omega)
          · split
            · exact (cnt_node1 (by omega) (by omega) (cnt_node2 (by omega) (by omega) (h1 _ _ _ hg (mkType0 _)) (h2 _ _ hg))).mono (by omega) (by omega)
            · split
              · split
                · rename_i i a hf
                  obtain ⟨j, e1, e2, e3⟩ := funFrom_mem t _ _ _ _ hf
                  have hga := hg (.fn a t) (by have := List.mem_of_getElem? e3; simpa using this)
                  have ha := (Ty.parts2 hga).1
                  have hsz := hga.2
                  have htp := t.size_pos
                  simp [Ty.fn] at hsz
                  exact (cnt_node2 (by omega) (by omega) (cnt_var i) (h1 _ _ _ hg ⟨ha.1, by omega⟩)).mono (by omega) (by omega)
                · exact plain _
              · exact plain _
theorem mkTerm1_cnt (g : List Ty) (t : Ty) (r : List Int) (hg : Good 3 g) (ht : t.ok = true ∧ t.size ≤ 3) : Cnt 24 5 (mkTerm 1 g t r).1 :=
  mkTerm_step (d := 0) (b := 3) (bt := 7) (v := 1) (vt := 2) t ht (by omega) (by omega) (by omega) (fun g s r _ hs => (mkTerm0_cnt s g r).1 hs.2) (fun g r _ => (mkTerm0_cnt t g r).2 ht.2) (by omega) (by omega) g r hg
theorem mkTerm1_nat (g : List Ty) (r : List Int) (hg : Good 3 g) : Cnt 24 3 (mkTerm 1 g .nat r).1 :=
  mkTerm_step (d := 0) (b := 3) (bt := 3) (v := 1) (vt := 1) .nat ⟨Ty.nat_ok, by simp⟩ (by omega) (by omega) (by omega) (fun g s r _ hs => (mkTerm0_cnt s g r).1 hs.2) (fun g r _ => (mkTerm0_cnt .nat g r).1 (by simp)) (by omega) (by omega) g r hg
theorem mkTerm2_cnt (g : List Ty) (t : Ty) (r : List Int) (hg : Good 3 g) (ht : t.ok = true ∧ t.size ≤ 3) : (mkTerm 2 g t r).1.count ≤ 76 :=
  (mkTerm_step (d := 1) (b := 24) (bt := 24) (v := 5) (vt := 5) (S := 76) (W := 15) t ht (by omega) (by omega) (by omega) (fun g s r hg hs => mkTerm1_cnt g s r hg ⟨hs.1, by have := hs.2; omega⟩) (fun g r hg => mkTerm1_cnt g t r hg ht) (by omega) (by omega) g r hg).1
end Go.Proofs.YtcgmhnlmgomlgaaGreatDoor.V

namespace Go.Proofs.YtcgmhnlmgomlgaaGreatDoor.V
open Go
theorem Tm.sames_eq {l : List Tm} (h : ∀ x ∈ l, ∀ y, x.same y = true → x = y) : ∀ m, Tm.sames l m = true → l = m := by
  induction l with
  | nil => intro m hm; cases m with
    | nil => rfl
    | cons y m => simp [Tm.sames] at hm
  | cons x l ih =>
    intro m hm
    cases m with
    | nil => simp [Tm.sames] at hm
    | cons y m =>
      simp only [Tm.sames_cons, Bool.and_eq_true] at hm
      rw [h x (by simp) y hm.1, ih (fun z hz => h z (by simp [hz])) m hm.2]
theorem Tm.same_eq (a : Tm) : ∀ b, a.same b = true → a = b := by
  induction a using Tm.ind with
  | _ k i s l ih =>
    rintro ⟨k', i', s', l'⟩ h
    rw [Tm.same_mk] at h
    simp only [Bool.and_eq_true, beq_iff_eq] at h
    rw [h.1, h.2.1, (Ty.same_iff _ _).1 h.2.2.1, Tm.sames_eq ih _ h.2.2.2]
theorem Fm.sames_eq {l : List Fm} (h : ∀ x ∈ l, ∀ y, x.same y = true → x = y) : ∀ m, Fm.sames l m = true → l = m := by
  induction l with
  | nil => intro m hm; cases m with
    | nil => rfl
    | cons y m => simp [Fm.sames] at hm
  | cons x l ih =>
    intro m hm
    cases m with
    | nil => simp [Fm.sames] at hm
    | cons y m =>
      simp only [Fm.sames_cons, Bool.and_eq_true] at hm
      rw [h x (by simp) y hm.1, ih (fun z hz => h z (by simp [hz])) m hm.2]
theorem Fm.same_eq (a : Fm) : ∀ b, a.same b = true → a = b := by
  induction a using Fm.ind with
  | _ k s m l ih =>
    rintro ⟨k', s', m', l'⟩ h
    rw [Fm.same_mk] at h
    simp only [Bool.and_eq_true, beq_iff_eq] at h
    rw [h.1, (Ty.same_iff _ _).1 h.2.1, Tm.sames_eq (fun x _ => x.same_eq) _ h.2.2.1, Fm.sames_eq ih _ h.2.2.2]
theorem Tm.timess_congr {l : List Tm} {F : Tm → Tm} {a c : Int} (h : ∀ x ∈ l, (F x).times a = x.times c) : Tm.timess (l.map F) a = Tm.timess l c := by
  induction l with
  | nil => simp [Tm.timess]
  | cons x l ih => simp [Tm.timess, h x (by simp), ih fun y hy => h y (by simp [hy])]
theorem Tm.times_up_ge (t : Tm) : ∀ a b c : Int, 0 ≤ b → a ≤ c → (t.up a b).times (c + b) = t.times c := by
  induction t using Tm.ind with
  | _ k i s l ih =>
    intro a b c hb h
    rw [Tm.up_mk, Tm.times_mk, Tm.times_mk]
    congr 1
    · by_cases hk : k = 1
      · simp only [hk, true_and]
        by_cases h1 : a ≤ i
        · rw [if_pos h1]
          by_cases h2 : i = c
          · rw [if_pos (by omega), if_pos h2]
          · rw [if_neg (by omega), if_neg h2]
        · rw [if_neg h1, if_neg (by omega), if_neg (by omega)]
      · simp [hk]
    · exact Tm.timess_congr fun x hx => by
        split
        · rw [show c + b + 1 = (c + 1) + b by omega]; exact ih x hx _ _ _ hb (by omega)
        · exact ih x hx _ _ _ hb (by omega)
def IsB (k : Int) (t : Ty) (x : Fm) (z : Fm) : Prop := ∃ (j : Int) (t2 : Ty) (m2 : List Tm) (u : Tm), ((k = 4 ∧ j = 3) ∨ (k = 5 ∧ j = 2)) ∧ t.kind = 1 ∧ x = .mk j t2 m2 [less (.var 0) u, z] ∧ u.times 0 ≤ 0
theorem bound_isB {k : Int} {t : Ty} {m : List Tm} {x : Fm} (hx : x.ok = true) (h : (Fm.mk k t m [x]).bound.2.2.2 = true) : ∃ z, IsB k t x z := by
  by_cases hk : k = 4 ∨ k = 5
  rotate_left
  · rw [bound_no (by omega) (by omega)] at h; cases h
  obtain ⟨all, j, hkj⟩ : ∃ (all : Bool) (j : Int), (k = 4 ∧ all = true ∧ j = 3) ∨ (k = 5 ∧ all = false ∧ j = 2) := by
    rcases hk with rfl | rfl
    · exact ⟨true, 3, .inl ⟨rfl, rfl, rfl⟩⟩
    · exact ⟨false, 2, .inr ⟨rfl, rfl, rfl⟩⟩
  rw [bound_q hkj] at h
  split at h
  · cases h
  rename_i h1
  split at h
  · cases h
  rename_i h2
  obtain ⟨k2, t2, m2, l2⟩ := x
  have q1 : t.kind = 1 := Decidable.byContradiction fun hn => h1 (.inl hn)
  have q2 : k2 = j := Decidable.byContradiction fun hn => h1 (.inr (.inl hn))
  have q3 : ((Fm.mk k2 t2 m2 l2).kid 0).same (less (.var 0) ((((Fm.mk k2 t2 m2 l2).kid 0).tms.getD 0 .zeroT).kid 1)) = true := by
    cases hs : ((Fm.mk k2 t2 m2 l2).kid 0).same (less (.var 0) ((((Fm.mk k2 t2 m2 l2).kid 0).tms.getD 0 .zeroT).kid 1)) with
    | true => rfl
    | false => exact absurd (.inr (.inr hs)) h2
  have q4 : ¬ 0 < ((((Fm.mk k2 t2 m2 l2).kid 0).tms.getD 0 .zeroT).kid 1).times 0 := fun hn => h2 (.inr (.inl hn))
  have e := Fm.same_eq _ _ q3
  obtain ⟨y, z, rfl⟩ : ∃ y z, l2 = [y, z] := by
    rcases Fm.shape hx with ⟨rfl, rfl⟩ | ⟨_, y, z, rfl, _, _⟩ | ⟨hk, _⟩
    · omega
    · exact ⟨y, z, rfl⟩
    · omega
  have e' : y = less (.var 0) (((y.tms.getD 0 .zeroT)).kid 1) := e
  refine ⟨z, k2, t2, m2, ((y.tms.getD 0 .zeroT)).kid 1, by omega, q1, by rw [← e'], ?_⟩
  have : ¬ 0 < (((y.tms.getD 0 .zeroT)).kid 1).times 0 := q4
  omega
theorem fmQ_iff {k : Int} : fmQ k = true ↔ k = 4 ∨ k = 5 ∨ k = 6 ∨ k = 7 := by simp [fmQ]; omega
end Go.Proofs.YtcgmhnlmgomlgaaGreatDoor.V

namespace Go.Proofs.YtcgmhnlmgomlgaaGreatDoor.V
open Go
def CntF (B : Nat) (V : Int) (f : Fm) : Prop := f.count ≤ B ∧ ∀ c, 0 ≤ c → f.times c ≤ V
theorem CntF.mono {B B' : Nat} {V V' : Int} {t : Fm} (h : CntF B V t) (hB : B ≤ B') (hV : V ≤ V') : CntF B' V' t := ⟨Nat.le_trans h.1 hB, fun c hc => Int.le_trans (h.2 c hc) hV⟩
theorem cnt_eqF {B B' : Nat} {V V' : Int} {s t : Tm} (hs : Cnt B V s) (ht : Cnt B' V' t) : CntF (1 + B + B') (V + V') (.eq s t) :=
  ⟨by have := hs.1; have := ht.1; simp [Fm.eq]; omega, fun c hc => by have := hs.2 c hc; have := ht.2 c hc; simp [Fm.eq, Fm.times_mk, Tm.timess, Fm.timess]; omega⟩
theorem cnt_twoF {k : Int} (hk : k = 2 ∨ k = 3) {B B' : Nat} {V V' : Int} {f g : Fm} (hf : CntF B V f) (hg : CntF B' V' g) : CntF (1 + B + B') (V + V') (.two k f g) := by
  have hq : fmQ k = false := by rcases hk with rfl | rfl <;> rfl
  exact ⟨by have := hf.1; have := hg.1; simp [Fm.two]; omega, fun c hc => by have := hf.2 c hc; have := hg.2 c hc; simp [Fm.two, Fm.times_mk, Tm.timess, Fm.timess, hq]; omega⟩
theorem cnt_qF {k : Int} (hk : k = 4 ∨ k = 5 ∨ k = 6 ∨ k = 7) {s : Ty} {B : Nat} {V : Int} {f : Fm} (hf : CntF B V f) : CntF (1 + B) V (.q k s f) := by
  have hq : fmQ k = true := fmQ_iff.2 hk
  exact ⟨by have := hf.1; simp [Fm.q]; omega, fun c hc => by have := hf.2 (c + 1) (by omega); simp [Fm.q, Fm.times_mk, Tm.timess, Fm.timess, hq]; omega⟩
theorem cnt_less {B : Nat} {V : Int} {t : Tm} (ht : Cnt B V t) : (less (.var 0) t).count ≤ 22 + B ∧ ∀ c, 0 < c → (less (.var 0) t).times c ≤ V := by
  refine ⟨?_, fun c hc => ?_⟩
  · have := ht.1
    simp [less, Fm.eq, Tm.app2, Tm.app, Tm.node, Tm.sub_count, Tm.var]
    omega
  · have := ht.2 c (by omega)
    have hs := Tm.sub_times (c := c) (by omega)
    have h0 : ¬ (0 : Int) = c := by omega
    simp [less, Fm.eq, Tm.app2, Tm.app, Tm.node, Tm.var, Fm.times_mk, Tm.times_mk, Tm.timess, Fm.timess, hs, h0]
    omega
def fcB : Nat → Nat
  | 0 => 49
  | d + 1 => 2 * fcB d + 1
def fvB : Nat → Int
  | 0 => 6
  | d + 1 => 2 * fvB d
theorem fcB_ge (d : Nat) : 49 ≤ fcB d := by induction d with
  | zero => simp [fcB]
  | succ d ih => simp only [fcB]; omega
theorem fvB_ge (d : Nat) : 6 ≤ fvB d := by induction d with
  | zero => simp [fvB]
  | succ d ih => simp only [fvB]; omega
theorem eqn_cnt (g : List Ty) (r : List Int) (hg : Good 3 g) (d : Nat) : CntF (fcB d) (fvB d) (.eq (mkTerm 1 g .nat r).1 (mkTerm 1 g .nat (mkTerm 1 g .nat r).2).1) :=
  (cnt_eqF (mkTerm1_nat g r hg) (mkTerm1_nat g _ hg)).mono (by have := fcB_ge d; omega) (by have := fvB_ge d; omega)
theorem mkFormula_cnt (d : Nat) : ∀ (g : List Ty) (r : List Int), Good 3 g → CntF (fcB d) (fvB d) (mkFormula d g r).1 := by
  induction d with
  | zero => exact fun g r hg => eqn_cnt g r hg 0
  | succ d ih =>
    intro g r hg
    have h49 := fcB_ge d
    have h6 := fvB_ge d
    have two : ∀ k, k = 2 ∨ k = 3 → CntF (fcB (d + 1)) (fvB (d + 1)) (.two k (mkFormula d g (next 9 r).2).1 (mkFormula d g (mkFormula d g (next 9 r).2).2).1) := fun k hk => (cnt_twoF hk (ih _ _ hg) (ih _ _ hg)).mono (by simp only [fcB]; omega) (by simp only [fvB]; omega)
    have q : ∀ k s r', k = 4 ∨ k = 5 ∨ k = 6 ∨ k = 7 → s.ok = true ∧ s.size ≤ 3 → CntF (fcB (d + 1)) (fvB (d + 1)) (.q k s (mkFormula d (g ++ [s]) r').1) := fun k s r' hk hs => (cnt_qF hk (ih _ _ (hg.app (Good.one hs)))).mono (by simp only [fcB]; omega) (by simp only [fvB]; omega)
    unfold mkFormula
    simp only
    split
    · exact two 2 (.inl rfl)
    · split
      · exact two 3 (.inr rfl)
      · split
        · exact q 4 _ _ (by simp) (mkType1 _)
        · split
          · exact q 5 _ _ (by simp) (mkType1 _)
          · split
            · refine q _ _ _ ?_ ⟨(mkType0 _).1, by have := (mkType0 (next 9 r).2).2; omega⟩
              have := next_range (n := 2) (by omega) (mkType 0 (next 9 r).2).2
              omega
            · exact eqn_cnt g _ hg (d + 1)
theorem mkDec_cnt (d : Nat) : ∀ (g : List Ty) (r : List Int), Good 3 g → CntF (fcB d) (fvB d) (mkDec d g r).1 := by
  induction d with
  | zero => exact fun g r hg => eqn_cnt g r hg 0
  | succ d ih =>
    intro g r hg
    have h49 := fcB_ge d
    have h6 := fvB_ge d
    have two : ∀ k, k = 2 ∨ k = 3 → CntF (fcB (d + 1)) (fvB (d + 1)) (.two k (mkDec d g (next 6 r).2).1 (mkDec d g (mkDec d g (next 6 r).2).2).1) := fun k hk => (cnt_twoF hk (ih _ _ hg) (ih _ _ hg)).mono (by simp only [fcB]; omega) (by simp only [fvB]; omega)
    have eqn : ∀ r', CntF (fcB (d + 1)) (fvB (d + 1)) (mkEq g r').1 := fun r' => eqn_cnt g r' hg (d + 1)
    unfold mkDec
    simp only
    split
    · exact two 2 (.inl rfl)
    · split
      · exact two 3 (.inr rfl)
      · split
        · split
          · rename_i hb
            obtain ⟨b1, b2, b3, b4⟩ := bounded_ok hb
            simp only
            rw [b3]
            have ht := mkTerm1_nat g (next 2 (next 6 r).2).2 hg
            have hf := ih (g ++ [.nat]) (mkTerm 1 g .nat (next 2 (next 6 r).2).2).2 (hg.app (Good.one ⟨Ty.nat_ok, by simp⟩))
            generalize (mkTerm 1 g .nat (next 2 (next 6 r).2).2).1 = t at ht
            generalize (mkDec d (g ++ [.nat]) (mkTerm 1 g .nat (next 2 (next 6 r).2).2).2).1 = f at hf
            generalize ((next 2 (next 6 r).2).1 == 0) = all
            obtain ⟨l1, l2⟩ := cnt_less (B := 24) (V := 1000) (t := t.up 0 1) ⟨by rw [Tm.up_count]; exact ht.1, fun c hc => by
              by_cases h : c = 0
              · rw [h, Tm.times_up t 0 1 0 (by omega) (by omega)]; omega
              · have := Tm.times_up_ge t 0 1 (c - 1) (by omega) (by omega)
                rw [show c - 1 + 1 = c by omega] at this
                rw [this]
                have := ht.2 (c - 1) (by omega)
                omega⟩
            have l3 : ∀ c, 0 < c → (less (.var 0) (t.up 0 1)).times c ≤ 3 := fun c hc => by
              have h1 := Tm.times_up_ge t 0 1 (c - 1) (by omega) (by omega)
              rw [show c - 1 + 1 = c by omega] at h1
              have h2 := ht.2 (c - 1) (by omega)
              have hs := Tm.sub_times (c := c) (by omega)
              have h0 : ¬ (0 : Int) = c := by omega
              simp [less, Fm.eq, Tm.app2, Tm.app, Tm.node, Tm.var, Fm.times_mk, Tm.times_mk, Tm.timess, Fm.timess, hs, h0]
              omega
            refine ⟨?_, fun c hc => ?_⟩
            · have := hf.1
              simp [bform, Fm.q, Fm.two]
              simp only [fcB]
              omega
            · have h1 := hf.2 (c + 1) (by omega)
              have h2 := l3 (c + 1) (by omega)
              have q1 : fmQ (if all = true then 4 else 5) = true := by cases all <;> rfl
              have q2 : fmQ (if all = true then 3 else 2) = false := by cases all <;> rfl
              simp [bform, Fm.q, Fm.two, Fm.times_mk, Tm.timess, Fm.timess, q1, q2]
              simp only [fvB]
              omega
          · exact eqn _
        · exact eqn _
end Go.Proofs.YtcgmhnlmgomlgaaGreatDoor.V

namespace Go.Proofs.YtcgmhnlmgomlgaaGreatDoor.V
open Go
theorem Tm.least_mono {m M : Int} (h : m ≤ M) (t : Tm) : t.least m = true → t.least M = true := by
  induction t using Tm.ind with
  | _ k i s l ih =>
    rw [Tm.least, Tm.least]
    simp only [Bool.and_eq_true, decide_eq_true_eq, Tm.leasts_iff]
    exact fun ⟨h1, h2⟩ => ⟨by omega, fun x hx => ih x hx (h2 x hx)⟩
theorem Fm.up_least {m b : Int} (hb : 0 ≤ b) (f : Fm) : ∀ a, f.least m = true → (f.up a b).least (m + b) = true := by
  induction f using Fm.ind with
  | _ k t n l ih =>
    intro a h
    rw [Fm.up_mk, Fm.least]
    rw [Fm.least] at h
    simp only [Bool.and_eq_true, Tm.leasts_iff, Fm.leasts_iff] at h ⊢
    refine ⟨fun x hx => ?_, fun x hx => ?_⟩
    · obtain ⟨y, hy, rfl⟩ := List.mem_map.1 hx
      exact Tm.up_least hb y _ (h.1 y hy)
    · obtain ⟨y, hy, rfl⟩ := List.mem_map.1 hx
      exact ih y hy _ (h.2 y hy)
theorem Fm.least_mono {m M : Int} (h : m ≤ M) (t : Fm) : t.least m = true → t.least M = true := by
  induction t using Fm.ind with
  | _ k s n l ih =>
    rw [Fm.least, Fm.least]
    simp only [Bool.and_eq_true, Tm.leasts_iff, Fm.leasts_iff]
    exact fun ⟨h1, h2⟩ => ⟨fun x hx => Tm.least_mono h x (h1 x hx), fun x hx => ih x hx (h2 x hx)⟩
structure Stays (f : Fm) : Prop where
  ok : f.ok = true
  cnt : CntF 399 48 f
  size : f.size ≤ 3000
  least : f.least 536870912 = true
theorem Stays.check {f : Fm} (h : Stays f) : f.check = 0 := Fm.check_small h.ok (Nat.le_trans h.cnt.1 (by omega))
end Go.Proofs.YtcgmhnlmgomlgaaGreatDoor.V

set_option maxRecDepth 100000
namespace Go.Proofs.YtcgmhnlmgomlgaaGreatDoor.V
open Go Go.Proofs
theorem uand2' (x : Cls) : uand x.n 2 = if x.q = true then 2 else 0 := by
  obtain ⟨a, b, c⟩ := x
  cases a <;> cases b <;> cases c <;> rfl
theorem c25 (f : Fm) (hsz : f.size ≤ 549755813888) (hle : f.least 9223372036854775807 = true) (hc : f.check = 0) (σ : List Frm) : CallsV cfg 25 [.agg (encF f)] σ (.val (.tup [.one (.bool f.cls.q), .one (.int .i64 0)])) σ := by
  refine w25 (by simp) ?_
  rw [s25]
  simp
  refine opV_call (c76 f hsz hle 2 _) (by simp) ?_
  cases hf : f.cls.q <;> simp [hc, uand2', hf]
theorem c26 (f : Fm) (hsz : f.size ≤ 549755813888) (hle : f.least 9223372036854775807 = true) (hc : f.check = 0) (σ : List Frm) : CallsV cfg 26 [.agg (encF f)] σ (.val (.tup [.one (.bool f.cls.d), .one (.int .i64 0)])) σ := by
  refine w26 (by simp) ?_
  rw [s26]
  simp
  refine opV_call (c76 f hsz hle 4 _) (by simp) ?_
  cases hf : f.cls.d <;> simp [hc, uand4', hf]
end Go.Proofs.YtcgmhnlmgomlgaaGreatDoor.V

set_option maxRecDepth 100000
namespace Go.Proofs.YtcgmhnlmgomlgaaGreatDoor.V
open Go Go.Proofs
mutual
def Tm.reb (G : Int → Int → Tm) : Tm → Int → Tm
  | .mk k i t l, d => if k = 1 then G i d else .mk k i t (Tm.rebs G l (if k = 2 then d + 1 else d))
def Tm.rebs (G : Int → Int → Tm) : List Tm → Int → List Tm
  | [], _ => []
  | x :: l, d => x.reb G d :: Tm.rebs G l d
end
theorem Tm.rebs_eq (G : Int → Int → Tm) (l : List Tm) (d : Int) : Tm.rebs G l d = l.map fun x => x.reb G d := by
  induction l with
  | nil => rfl
  | cons x l ih => simp only [Tm.rebs, List.map_cons, ih]
theorem Tm.reb_mk (G : Int → Int → Tm) (k i : Int) (t : Ty) (l : List Tm) (d : Int) : (Tm.mk k i t l).reb G d = if k = 1 then G i d else .mk k i t (l.map fun x => x.reb G (if k = 2 then d + 1 else d)) := by rw [Tm.reb, Tm.rebs_eq]
mutual
def Tm.low : Tm → Bool
  | .mk _ i _ l => decide (0 ≤ i) && Tm.lows l
def Tm.lows : List Tm → Bool
  | [] => true
  | x :: l => x.low && Tm.lows l
end
theorem Tm.lows_iff (l : List Tm) : Tm.lows l = true ↔ ∀ x ∈ l, x.low = true := by
  induction l with
  | nil => simp [Tm.lows]
  | cons x l ih => simp [Tm.lows, ih]
theorem Tm.low_parts {k i : Int} {t : Ty} {l : List Tm} (h : (Tm.mk k i t l).low = true) : 0 ≤ i ∧ ∀ x ∈ l, x.low = true := by
  rw [Tm.low] at h
  simpa [Tm.lows_iff] using h
theorem Tm.low_ok (t : Tm) : t.ok = true → t.low = true := by
  induction t using Tm.ind with
  | _ k i s l ih =>
    intro h
    have h2 := Tm.ok_parts h
    rw [Tm.low]
    simp only [Bool.and_eq_true, decide_eq_true_eq, Tm.lows_iff]
    exact ⟨h2.1, fun x hx => ih x hx (h2.2 x hx)⟩
structure RX (σ : List Frm) (pf ps : Pl) (f : Nat) (caps : List Cell) : Prop where
  fn : cellsAt σ pf = some [.func f caps]
  self : cellsAt σ ps = some [.func 145 [pf.cell, ps.cell]]
theorem RX.app {σ : List Frm} {pf ps : Pl} {f : Nat} {caps : List Cell} (h : RX σ pf ps f caps) (τ : List Frm) : RX (σ ++ τ) pf ps f caps :=
  ⟨by rw [cellsAt_append (cellsAt_lt h.fn)]; exact h.fn, by rw [cellsAt_append (cellsAt_lt h.self)]; exact h.self⟩
def Answers (f : Nat) (caps : List Cell) (G : Int → Int → Tm) (m : Int) (σ : List Frm) : Prop :=
  ∀ τ i d, 0 ≤ i → i ≤ m → 0 ≤ d → d ≤ 549755813888 → CallsV cfg f ([.one (.int .i64 i), .one (.int .i64 d)] ++ caps.map fun c => .one (erC c)) (σ ++ τ) (.val (.agg (encT (G i d)))) (σ ++ τ)
theorem Answers.app {f : Nat} {caps : List Cell} {G : Int → Int → Tm} {m : Int} {σ : List Frm} (h : Answers f caps G m σ) (ρ : List Frm) : Answers f caps G m (σ ++ ρ) := fun τ i d h1 h2 h3 h4 => by
  rw [List.append_assoc]; exact h (ρ ++ τ) i d h1 h2 h3 h4
def i145 (G : Int → Int → Tm) (ps : Pl) (k i : Int) (s : Ty) (l : List Tm) (d : Int) (σ : List Frm) (j : Nat) : St → Prop
  | ⟨env, loc, σ', live⟩ => ∃ ow, env 1 = .one (.int .i64 d) ∧ env 3 = .one ps.cell ∧ env 6 = .one (.box σ.length 6 0 0) ∧ env 7 = .one (.box σ.length 7 0 0) ∧ env 32 = .one (.slice .no 5 (l.map encT)) ∧ env 33 = .one (.int .i64 l.length) ∧ env 34 = .one (.int .i64 j) ∧
    loc 6 = [z62] ∧ loc 7 = [.int .i64 k :: .int .i64 i :: (enc s ++ [.slice ow 5 ((l.take j).map fun x => encT (x.reb G d))])] ∧ σ' = σ ∧ okOwn live ow
theorem c145 (G : Int → Int → Tm) {m : Int} {pf ps : Pl} {f : Nat} {caps : List Cell} (t : Tm) : ∀ {σ : List Frm}, RX σ pf ps f caps → Answers f caps G m σ → t.low = true → t.least m = true → ∀ (d : Int), 0 ≤ d → d + t.size ≤ 549755813888 →
    CallsV cfg 145 [.agg (encT t), .one (.int .i64 d), .one pf.cell, .one ps.cell] σ (.val (.agg (encT (t.reb G d)))) σ := by
  induction t using Tm.ind with
  | _ k i s l ih =>
  intro σ hX hS hlo hle d hd0 hd1
  simp at hd1
  have hlen := Tm.length_le l
  have hsp := s.size_pos
  obtain ⟨hi0, hpo⟩ := Tm.low_parts hlo
  obtain ⟨hi1, hpl⟩ := Tm.least_parts hle
  have hne2 : ¬ pf.d = σ.length := by have := cellsAt_lt hX.fn; omega
  have hne3 : ¬ ps.d = σ.length := by have := cellsAt_lt hX.self; omega
  obtain ⟨hb0, hb1⟩ := bump_le k
  refine w145 (by simp) ?_
  rw [s145, Tm.reb_mk, bump_eq]
  by_cases hk : k = 1
  · subst hk
    simp [Pl.cell, readBox_at hX.fn, hne2]
    refine opV_callF (f := f) (caps := caps) (ps := [.one (.int .i64 i), .one (.int .i64 d)]) (by simp) (hS [_] i d hi0 hi1 hd0 (by omega)) (by simp) ?_
    simp
  · rw [if_neg hk]
    simp [hk]
    refine wpP_draw (fun _ _ _ => false) ?_
    simp
    refine stepD_call (c57 s (by omega) _) (by simp) ?_
    have hd' : (if k = 2 then d + 1 else d) = d + bump k := bump_eq k d
    have hw : k = 2 → IntKind.i64.wrap (d + 1) = d + bump k := fun h => by rw [wrap_id (by omega) (by omega), ← hd', if_pos h]
    have hn : k ≠ 2 → d = d + bump k := fun h => by rw [← hd', if_neg h]
    rcases Decidable.em (k = 2) with hk2 | hk2
    all_goals
      simp [hk2]
      refine wpP_range l.length (i145 G ps k i s l (d + bump k) σ) (by omega) ⟨.full, by first | (simpa using hw hk2) | (simpa using hn hk2), by simp, by simp, by simp, by simp, by simp, by simp, by simp [z62], by simp [hk2], rfl, by simp⟩ ?_ ?_ (hend := ?_)
      · rintro j ⟨env, loc, σ', live⟩ ⟨ow, e1, e3, e6, e7, e32, e33, e34, h6, h7, rfl, how⟩
        exact ⟨e34, e33⟩
      · rintro j ⟨env, loc, σ', live⟩ hj ⟨ow, e1, e3, e6, e7, e32, e33, e34, h6, h7, rfl, how⟩
        obtain ⟨x, hx, hdr, hm⟩ := drop_cons hj
        have := Tm.sizes_mem hm
        simp only [Pl.cell] at e3
        simp [e1, e3, e6, e7, e32, e33, e34, hx]
        refine wpP_draw (fun _ _ _ => false) ?_
        simp [e1, e3, e6, e7, h6, h7, readBox_at hX.self, hne3]
        refine stepD_callF (f := 145) (caps := [pf.cell, ps.cell]) (ps := [.agg (encT x), .one (.int .i64 (d + bump k))]) (by simp [Pl.cell]) (ih x hm (hX.app [_]) (hS.app [_]) (hpo x hm) (hpl x hm) (d + bump k) (by omega) (by omega)) (by simp) ?_
        simp [how, e1, e3, e6, e7, h6, h7]
        exact ⟨by omega, by omega, .tip live.nx, by simp, by simp [Pl.cell], by simp, by simp, by simp, by simp, by simp, by simp [h6], by simp [List.take_add_one, hx], rfl, grown_on⟩
      · rintro ⟨env, loc, σ', live⟩ ⟨ow, e1, e3, e6, e7, e32, e33, e34, h6, h7, rfl, how⟩
        simp [e6, e7, h6, h7, z62, hk2]
end Go.Proofs.YtcgmhnlmgomlgaaGreatDoor.V

set_option maxRecDepth 100000
namespace Go.Proofs.YtcgmhnlmgomlgaaGreatDoor.V
open Go Go.Proofs
theorem c122 (G : Int → Int → Tm) {m : Int} {σ : List Frm} {f : Nat} {caps : List Cell} (hS : Answers f caps G m σ) (t : Tm) (hsz : t.size ≤ 549755813888) (hlo : t.low = true) (hle : t.least m = true) :
    CallsV cfg 122 [.agg (encT t), .one (.func f caps)] σ (.val (.agg (encT (t.reb G 0)))) σ := by
  refine w122 (by simp) ?_
  rw [s122]
  simp [onesOf]
  refine opV_callF (f := 145) (caps := [(⟨σ.length, 3, 0⟩ : Pl).cell, (⟨σ.length, 5, 0⟩ : Pl).cell]) (ps := [.agg (encT t), .one (.int .i64 0)]) (by simp [Pl.cell])
    (c145 G t (f := f) (caps := caps) ⟨by simp [cellsAt], by simp [cellsAt, Pl.cell]⟩ (hS.app [_]) hlo hle 0 (by omega) (by omega)) (by simp) ?_
  simp
def liftG (fr b : Int) (i d : Int) : Tm := .var (if fr ≤ i - d then i + b else i)
theorem c138 {σ : List Frm} {pa pb : Pl} {fr b m : Int} (ha : cellsAt σ pa = some [.int .i64 fr]) (hb : cellsAt σ pb = some [.int .i64 b]) (hb0 : -1099511627776 ≤ b) (hb1 : b ≤ 1099511627776) (hm : m ≤ 1099511627776) : Answers 138 [pa.cell, pb.cell] (liftG fr b) m σ := by
  intro τ i d hi0 hi1 hd0 hd1
  have ha' : cellsAt (σ ++ τ) pa = some [.int .i64 fr] := by rw [cellsAt_append (cellsAt_lt ha)]; exact ha
  have hb' : cellsAt (σ ++ τ) pb = some [.int .i64 b] := by rw [cellsAt_append (cellsAt_lt hb)]; exact hb
  generalize σ ++ τ = ρ at ha' hb'
  have h1 : ¬ pa.d = ρ.length := by have := cellsAt_lt ha'; omega
  have h2 : ¬ pb.d = ρ.length := by have := cellsAt_lt hb'; omega
  refine w138 (by simp) ?_
  rw [s138]
  simp [Pl.cell, readBox_at ha', h1, h2]
  rw [wrap_id (by omega) (by omega)]
  by_cases h : fr ≤ i - d
  · simp [h, readBox_at hb', h2]
    rw [wrap_id (by omega) (by omega)]
    refine opV_call (c84 (i + b) _) (by simp) ?_
    simp [liftG, h]
  · simp [h]
    refine opV_call (c84 i _) (by simp) ?_
    simp [liftG, h]
theorem var_shape {i : Int} {t : Ty} {l : List Tm} (h : (Tm.mk 1 i t l).ok = true) : Tm.mk 1 i t l = .var i := by
  simp only [Tm.ok_mk, Bool.and_eq_true] at h
  have hl : l = [] := List.length_eq_zero_iff.1 (Tm.head_var h.1)
  have h2 := h.1
  simp only [Tm.head, Bool.and_eq_true] at h2
  have h3 := h2.2
  obtain ⟨k, ts⟩ := t
  simp [tmTyped, Ty.none] at h3
  obtain ⟨rfl, rfl⟩ := h3
  rw [hl]
  try rfl
theorem reb_up (fr b : Int) (t : Tm) : t.ok = true → ∀ d, t.reb (liftG fr b) d = t.up (fr + d) b := by
  induction t using Tm.ind with
  | _ k i s l ih =>
    intro hok d
    by_cases hk : k = 1
    · subst hk
      rw [var_shape hok, Tm.var, Tm.reb_mk, Tm.up_mk, if_pos rfl]
      have e : (fr ≤ i - d) = (fr + d ≤ i) := propext (by omega)
      simp [liftG, Tm.var]
      by_cases h : fr + d ≤ i
      · rw [if_pos (by omega), if_pos h]
      · rw [if_neg (by omega), if_neg h]
    · have h2 := hok
      simp only [Tm.ok_mk, Bool.and_eq_true, Tm.oks_iff] at h2
      have hk' : ¬ (k = 1 ∧ fr + d ≤ i) := fun h => hk h.1
      rw [Tm.reb_mk, Tm.up_mk, if_neg hk, if_neg hk']
      have e : (l.map fun x => x.reb (liftG fr b) (if k = 2 then d + 1 else d)) = l.map fun x => x.up (if k = 2 then fr + d + 1 else fr + d) b := List.map_congr_left fun x hx => by
        rw [ih x hx (h2.2 x hx)]
        congr 1
        split <;> omega
      rw [e]
theorem c115 (t : Tm) (hsz : t.size ≤ 549755813888) (hok : t.ok = true) (hle : t.least 536870912 = true) (fr b : Int) (hb0 : -1099511627776 ≤ b) (hb1 : b ≤ 1099511627776) (σ : List Frm) : CallsV cfg 115 [.agg (encT t), .one (.int .i64 fr), .one (.int .i64 b)] σ (.val (.agg (encT (t.up fr b)))) σ := by
  refine w115 (by simp) ?_
  rw [s115]
  simp [onesOf]
  refine opV_call (c122 (liftG fr b) (f := 138) (caps := [(⟨σ.length, 4, 0⟩ : Pl).cell, (⟨σ.length, 5, 0⟩ : Pl).cell]) (c138 (fr := fr) (b := b) (by simp [cellsAt]) (by simp [cellsAt]) hb0 hb1 (by omega)) t hsz (Tm.low_ok t hok) hle) (by simp [Pl.cell]) ?_
  rw [reb_up fr b t hok, Int.add_zero]
  simp
end Go.Proofs.YtcgmhnlmgomlgaaGreatDoor.V
