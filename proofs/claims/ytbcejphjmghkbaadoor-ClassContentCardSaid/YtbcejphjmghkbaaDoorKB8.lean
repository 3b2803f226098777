/-
Parts of the proof of one law, put together by program: part 8.
-/
import Derived.Test.YtbcejphjmghkbaaDoorKB7
import Derived.Carry
import Derived.OpenShut
import Derived.LaidMore
import Derived.LaidLaws
import Derived.ProofKit
import Derived.ChangeShapes
import Derived.JoinedOf
import Derived.Stop.Joined
set_option linter.unusedSimpArgs false
set_option linter.unusedVariables false

set_option maxRecDepth 100000
namespace Go.Proofs.YtbcejphjmghkbaaDoor.V
open Go Go.Proofs
def z25 : List Cell := [.int .i64 0, .slice .full 2 []]
def i144 (t : Ty) (k : Int) (l : List Ty) (σ : List Frm) (j : Nat) : St → Prop
  | ⟨env, loc, σ', live⟩ => ∃ ow, env 2 = .one (.box σ.length 2 0 0) ∧ env 3 = .one (.box σ.length 3 0 0) ∧ env 10 = .one (.slice .no 2 (l.map enc)) ∧ env 11 = .one (.int .i64 l.length) ∧ env 12 = .one (.int .i64 j) ∧
    loc 2 = [z25] ∧ loc 3 = [[.int .i64 k, .slice ow 2 ((l.take j).map enc)]] ∧ σ' = σ ∧ okOwn live ow
theorem c144 (t : Ty) : t.size ≤ 1099511627776 → ∀ (σ : List Frm), CallsV cfg 144 [.agg (enc t)] σ (.val (.agg (enc t))) σ := by
  induction t using Ty.ind with
  | _ k l ih =>
  intro hsz σ
  simp at hsz
  have hlen := Ty.length_le l
  refine w144 (by simp) ?_
  rw [s144]
  simp
  refine wpP_range l.length (i144 (.mk k l) k l σ) (by omega) ⟨.full, by simp, by simp, by simp, by simp, by simp, by simp [z25], by simp, rfl, by simp⟩ ?_ ?_ (hend := ?_)
  · rintro j ⟨env, loc, σ', live⟩ ⟨ow, e2, e3, e10, e11, e12, h2, h3, rfl, how⟩
    exact ⟨e12, e11⟩
  · rintro j ⟨env, loc, σ', live⟩ hj ⟨ow, e2, e3, e10, e11, e12, h2, h3, rfl, how⟩
    obtain ⟨x, hx, hd, hm⟩ := drop_cons hj
    have := Ty.sizes_mem hm
    simp [e2, e3, e10, e11, e12, hx]
    refine wpP_draw (fun _ _ _ => false) ?_
    simp [e2, e3, e10, e11, e12, h3]
    refine stepD_call (ih x hm (by omega) _) (by simp) ?_
    simp [how, e2, e3, e10, e11, e12, h3]
    exact ⟨by omega, by omega, .tip live.nx, by simp, by simp, by simp, by simp, by simp, by simp [h2], by simp [List.take_add_one, hx], rfl, grown_on⟩
  · rintro ⟨env, loc, σ', live⟩ ⟨ow, e2, e3, e10, e11, e12, h2, h3, rfl, how⟩
    simp [e2, e3, h2, h3, z25]
def i175 (k' : Int) (l m : List Ty) (σ : List Frm) (j : Nat) : St → Prop
  | ⟨env, loc, σ', _⟩ => env 3 = .one (.box σ.length 3 0 0) ∧ env 22 = .one (.slice .no 2 (l.map enc)) ∧ env 23 = .one (.int .i64 l.length) ∧ env 24 = .one (.int .i64 j) ∧
    loc 3 = [enc (.mk k' m)] ∧ σ' = σ ∧ Ty.sames l m = Ty.sames (l.drop j) (m.drop j)
theorem c175 (a : Ty) : ∀ (b : Ty), a.size ≤ 1099511627776 → ∀ (σ : List Frm), CallsV cfg 175 [.agg (enc a), .agg (enc b)] σ (.val (.one (.bool (Ty.same a b)))) σ := by
  induction a using Ty.ind with
  | _ k l ih =>
  rintro ⟨k', m⟩ hsz σ
  simp at hsz
  have hlen := Ty.length_le l
  refine w175 (by simp) ?_
  rw [s175]
  by_cases hk : k = k'
  rotate_left
  · simp [hk]
  subst hk
  by_cases hl : l.length = m.length
  rotate_left
  · have : Ty.sames l m = false := by
      cases h : Ty.sames l m with
      | false => rfl
      | true => exact absurd (Ty.sames_length h) hl
    have hl' : ((l.length : Int) == (m.length : Int)) = false := by simpa using (by omega : ¬ (l.length : Int) = m.length)
    simp [hl', this, bne]
  have hl' : ((l.length : Int) == (m.length : Int)) = true := by rw [hl]; simp
  simp [hl', bne]
  refine wpP_range l.length (i175 k l m σ) (by omega) ⟨by simp, by simp, by simp, by simp, by simp, rfl, by simp⟩ ?_ ?_ (hend := ?_)
  · rintro j ⟨env, loc, σ', live⟩ ⟨e3, e22, e23, e24, h3, rfl, hs⟩
    exact ⟨e24, e23⟩
  · rintro j ⟨env, loc, σ', live⟩ hj ⟨e3, e22, e23, e24, h3, rfl, hs⟩
    obtain ⟨x, hx, hd, hmx⟩ := drop_cons hj
    obtain ⟨y, hy, hd', _⟩ := drop_cons (hl ▸ hj)
    have := Ty.sizes_mem hmx
    simp [e3, e22, e23, e24, hx]
    refine wpP_draw (fun _ _ _ => false) ?_
    simp [e3, e22, e23, e24, h3, hy]
    refine stepD_call (ih x hmx y (by omega) _) (by simp) ?_
    rw [hd, hd', Ty.sames_cons] at hs
    cases hxy : Ty.same x y with
    | false =>
      rw [hxy] at hs
      simp [hs]
    | true =>
      rw [hxy] at hs
      simp [e3, e22, e23, e24]
      exact ⟨by simp, by simp, by simp, by simp, by simp [h3], rfl, by simpa using hs⟩
  · rintro ⟨env, loc, σ', live⟩ ⟨e3, e22, e23, e24, h3, rfl, hs⟩
    rw [List.drop_length, hl, List.drop_length] at hs
    simp [hs]
theorem Tm.same_mk (k i k' i' : Int) (t t' : Ty) (l l' : List Tm) : (Tm.mk k i t l).same (.mk k' i' t' l') = ((k == k') && ((i == i') && (Ty.same t t' && Tm.sames l l'))) := by rw [Tm.same]
theorem Fm.same_mk (k k' : Int) (t t' : Ty) (m m' : List Tm) (l l' : List Fm) : (Fm.mk k t m l).same (.mk k' t' m' l') = ((k == k') && (Ty.same t t' && (Tm.sames m m' && Fm.sames l l'))) := by rw [Fm.same]
def i155 (b : Tm) (l m : List Tm) (σ : List Frm) (j : Nat) : St → Prop
  | ⟨env, loc, σ', _⟩ => env 3 = .one (.box σ.length 3 0 0) ∧ env 37 = .one (.slice .no 5 (l.map encT)) ∧ env 38 = .one (.int .i64 l.length) ∧ env 39 = .one (.int .i64 j) ∧
    loc 3 = [encT b] ∧ σ' = σ ∧ Tm.sames l m = Tm.sames (l.drop j) (m.drop j)
theorem c155 (a : Tm) : ∀ (b : Tm), a.size ≤ 1099511627776 → ∀ (σ : List Frm), CallsV cfg 155 [.agg (encT a), .agg (encT b)] σ (.val (.one (.bool (a.same b)))) σ := by
  induction a using Tm.ind with
  | _ k i t l ih =>
  rintro ⟨k', i', t', m⟩ hsz σ
  simp at hsz
  have hlen := Tm.length_le l
  have hsp := t.size_pos
  refine w155 (by simp) ?_
  rw [s155, Tm.same_mk]
  by_cases hk : k = k'
  rotate_left
  · simp [hk]
  subst hk
  by_cases hi : i = i'
  rotate_left
  · simp [hi]
  subst hi
  simp
  refine opV_call (c175 t t' (by omega) _) (by simp) ?_
  cases ht : Ty.same t t' with
  | false => simp
  | true =>
    by_cases hl : l.length = m.length
    rotate_left
    · have : Tm.sames l m = false := by
        cases h : Tm.sames l m with
        | false => rfl
        | true => exact absurd (Tm.sames_length h) hl
      have hl' : ¬ (l.length : Int) = m.length := by omega
      simp [hl', this]
    have hl' : ((l.length : Int) = (m.length : Int)) = True := by simp [hl]
    simp [hl']
    refine wpP_range l.length (i155 (.mk k i t' m) l m σ) (by omega) ⟨by simp, by simp, by simp, by simp, by simp, rfl, by simp⟩ ?_ ?_ (hend := ?_)
    · rintro j ⟨env, loc, σ', live⟩ ⟨e3, e37, e38, e39, h3, rfl, hs⟩
      exact ⟨e39, e38⟩
    · rintro j ⟨env, loc, σ', live⟩ hj ⟨e3, e37, e38, e39, h3, rfl, hs⟩
      obtain ⟨x, hx, hd, hmx⟩ := drop_cons hj
      obtain ⟨y, hy, hd', _⟩ := drop_cons (hl ▸ hj)
      have := Tm.sizes_mem hmx
      simp [e3, e37, e38, e39, hx]
      refine wpP_draw (fun _ _ _ => false) ?_
      simp [e3, e37, e38, e39, h3, hy]
      refine stepD_call (ih x hmx y (by omega) _) (by simp) ?_
      rw [hd, hd', Tm.sames_cons] at hs
      cases hxy : x.same y with
      | false =>
        rw [hxy] at hs
        simp [hs]
      | true =>
        rw [hxy] at hs
        simp [e3, e37, e38, e39]
        exact ⟨by simp, by simp, by simp, by simp, by simp [h3], rfl, by simpa using hs⟩
    · rintro ⟨env, loc, σ', live⟩ ⟨e3, e37, e38, e39, h3, rfl, hs⟩
      rw [List.drop_length, hl, List.drop_length] at hs
      simp [hs]
def i183a (a b : Fm) (l m : List Tm) (σ : List Frm) (j : Nat) : St → Prop
  | ⟨env, loc, σ', _⟩ => env 2 = .one (.box σ.length 2 0 0) ∧ env 3 = .one (.box σ.length 3 0 0) ∧ env 41 = .one (.slice .no 5 (l.map encT)) ∧ env 42 = .one (.int .i64 l.length) ∧ env 43 = .one (.int .i64 j) ∧
    loc 2 = [encF a] ∧ loc 3 = [encF b] ∧ σ' = σ ∧ Tm.sames l m = Tm.sames (l.drop j) (m.drop j)
def i183b (b : Fm) (l m : List Fm) (σ : List Frm) (j : Nat) : St → Prop
  | ⟨env, loc, σ', _⟩ => env 3 = .one (.box σ.length 3 0 0) ∧ env 58 = .one (.slice .no 5 (l.map encF)) ∧ env 59 = .one (.int .i64 l.length) ∧ env 60 = .one (.int .i64 j) ∧
    loc 3 = [encF b] ∧ σ' = σ ∧ Fm.sames l m = Fm.sames (l.drop j) (m.drop j)
theorem c183 (a : Fm) : ∀ (b : Fm), a.size ≤ 1099511627776 → ∀ (σ : List Frm), CallsV cfg 183 [.agg (encF a), .agg (encF b)] σ (.val (.one (.bool (a.same b)))) σ := by
  induction a using Fm.ind with
  | _ k t n l ih =>
  rintro ⟨k', t', n', m⟩ hsz σ
  simp at hsz
  have hlen := Fm.length_le l
  have hlen2 := Tm.length_le n
  refine w183 (by simp) ?_
  rw [s183, Fm.same_mk]
  by_cases hk : k = k'
  rotate_left
  · simp [hk]
  subst hk
  simp
  refine opV_call (c175 t t' (by omega) _) (by simp) ?_
  cases ht : Ty.same t t' with
  | false => simp
  | true =>
    by_cases hl2 : n.length = n'.length
    rotate_left
    · have : Tm.sames n n' = false := by
        cases h : Tm.sames n n' with
        | false => rfl
        | true => exact absurd (Tm.sames_length h) hl2
      have hl' : ¬ (n.length : Int) = n'.length := by omega
      simp [hl', this]
    have hl2' : ((n.length : Int) = (n'.length : Int)) = True := by simp [hl2]
    by_cases hl : l.length = m.length
    rotate_left
    · have : Fm.sames l m = false := by
        cases h : Fm.sames l m with
        | false => rfl
        | true => exact absurd (Fm.sames_length h) hl
      have hl' : ¬ (l.length : Int) = m.length := by omega
      simp [hl2', hl', this]
    have hl' : ((l.length : Int) = (m.length : Int)) = True := by simp [hl]
    simp [hl2', hl']
    refine wpP_range n.length (i183a (.mk k t n l) (.mk k t' n' m) n n' σ) (by omega) ⟨by simp, by simp, by simp, by simp, by simp, by simp, by simp, rfl, by simp⟩ ?_ ?_ (hend := ?_)
    · rintro j ⟨env, loc, σ', live⟩ ⟨e2, e3, e41, e42, e43, h2, h3, rfl, hs⟩
      exact ⟨e43, e42⟩
    · rintro j ⟨env, loc, σ', live⟩ hj ⟨e2, e3, e41, e42, e43, h2, h3, rfl, hs⟩
      obtain ⟨x, hx, hd, hmx⟩ := drop_cons hj
      obtain ⟨y, hy, hd', _⟩ := drop_cons (hl2 ▸ hj)
      have := Tm.sizes_mem hmx
      simp [e2, e3, e41, e42, e43, hx]
      refine wpP_draw (fun _ _ _ => false) ?_
      simp [e2, e3, e41, e42, e43, h2, h3, hy]
      refine stepD_call (c155 x y (by omega) _) (by simp) ?_
      rw [hd, hd', Tm.sames_cons] at hs
      cases hxy : x.same y with
      | false =>
        rw [hxy] at hs
        simp [hs]
      | true =>
        rw [hxy] at hs
        simp [e2, e3, e41, e42, e43]
        exact ⟨by simp, by simp, by simp, by simp, by simp, by simp [h2], by simp [h3], rfl, by simpa using hs⟩
    · rintro ⟨env, loc, σ', live⟩ ⟨e2, e3, e41, e42, e43, h2, h3, rfl, hs⟩
      rw [List.drop_length, hl2, List.drop_length] at hs
      simp [hs, e2, e3, h2, h3]
      refine wpP_range l.length (i183b (.mk k t' n' m) l m σ') (by omega) ⟨by simp, by simp, by simp, by simp, by simp [h3], rfl, by simp⟩ ?_ ?_ (hend := ?_)
      · rintro j ⟨env, loc, σ', live⟩ ⟨e3, e58, e59, e60, h3, rfl, hs⟩
        exact ⟨e60, e59⟩
      · rintro j ⟨env, loc, σ', live⟩ hj ⟨e3, e58, e59, e60, h3, rfl, hs⟩
        obtain ⟨x, hx, hd, hmx⟩ := drop_cons hj
        obtain ⟨y, hy, hd', _⟩ := drop_cons (hl ▸ hj)
        have := Fm.sizes_mem hmx
        simp [e3, e58, e59, e60, hx]
        refine wpP_draw (fun _ _ _ => false) ?_
        simp [e3, e58, e59, e60, h3, hy]
        refine stepD_call (ih x hmx y (by omega) _) (by simp) ?_
        rw [hd, hd', Fm.sames_cons] at hs
        cases hxy : x.same y with
        | false =>
          rw [hxy] at hs
          simp [hs]
        | true =>
          rw [hxy] at hs
          simp [e3, e58, e59, e60]
          exact ⟨by simp, by simp, by simp, by simp, by simp [h3], rfl, by simpa using hs⟩
      · rintro ⟨env, loc, σ', live⟩ ⟨e3, e58, e59, e60, h3, rfl, hs⟩
        rw [List.drop_length, hl, List.drop_length] at hs
        simp [hs]
def i170 (k i : Int) (s : Ty) (l : List Tm) (σ : List Frm) (j : Nat) : St → Prop
  | ⟨env, loc, σ', live⟩ => ∃ ow, env 2 = .one (.box σ.length 2 0 0) ∧ env 3 = .one (.box σ.length 3 0 0) ∧ env 15 = .one (.slice .no 5 (l.map encT)) ∧ env 16 = .one (.int .i64 l.length) ∧ env 17 = .one (.int .i64 j) ∧
    loc 2 = [z62] ∧ loc 3 = [.int .i64 k :: .int .i64 i :: (enc s ++ [.slice ow 5 ((l.take j).map encT)])] ∧ σ' = σ ∧ okOwn live ow
theorem c170 (t : Tm) : t.size ≤ 1099511627776 → ∀ (σ : List Frm), CallsV cfg 170 [.agg (encT t)] σ (.val (.agg (encT t))) σ := by
  induction t using Tm.ind with
  | _ k i s l ih =>
  intro hsz σ
  simp at hsz
  have hlen := Tm.length_le l
  refine w170 (by simp) ?_
  rw [s170]
  simp
  refine wpP_draw (fun _ _ _ => false) ?_
  simp
  refine stepD_call (c144 s (by omega) _) (by simp) ?_
  simp
  refine wpP_range l.length (i170 k i s l σ) (by omega) ⟨.full, by simp, by simp, by simp, by simp, by simp, by simp [z62], by simp, rfl, by simp⟩ ?_ ?_ (hend := ?_)
  · rintro j ⟨env, loc, σ', live⟩ ⟨ow, e2, e3, e15, e16, e17, h2, h3, rfl, how⟩
    exact ⟨e17, e16⟩
  · rintro j ⟨env, loc, σ', live⟩ hj ⟨ow, e2, e3, e15, e16, e17, h2, h3, rfl, how⟩
    obtain ⟨x, hx, hd, hm⟩ := drop_cons hj
    have := Tm.sizes_mem hm
    simp [e2, e3, e15, e16, e17, hx]
    refine wpP_draw (fun _ _ _ => false) ?_
    simp [e2, e3, e15, e16, e17, h3]
    refine stepD_call (ih x hm (by omega) _) (by simp) ?_
    simp [how, e2, e3, e15, e16, e17, h3]
    exact ⟨by omega, by omega, .tip live.nx, by simp, by simp, by simp, by simp, by simp, by simp [h2], by simp [List.take_add_one, hx], rfl, grown_on⟩
  · rintro ⟨env, loc, σ', live⟩ ⟨ow, e2, e3, e15, e16, e17, h2, h3, rfl, how⟩
    simp [e2, e3, h2, h3, z62]
theorem c169 (t : Tm) (hsz : t.size ≤ 1099511627776) (d : Int) (σ : List Frm) : CallsV cfg 169 [.agg (encT t), .one (.int .i64 d)] σ (.val (.agg (encT t))) σ := by
  refine w169 (by simp) ?_
  rw [s169]
  simp
  refine opV_call (c170 t hsz _) (by simp) ?_
  simp
theorem c186 (k : Int) (σ : List Frm) : CallsV cfg 186 [.one (.int .i64 k)] σ (.val (.one (.bool (decide (4 ≤ k ∧ k ≤ 7))))) σ := by
  refine w186 (by simp) ?_
  rw [s186]
  by_cases h4 : 4 ≤ k <;> by_cases h7 : k ≤ 7 <;> simp [h4, h7]
end Go.Proofs.YtbcejphjmghkbaaDoor.V


set_option maxRecDepth 100000
namespace Go.Proofs.YtbcejphjmghkbaaDoor.V
open Go Go.Proofs
theorem c194 (s t : Tm) (σ : List Frm) : CallsV cfg 194 [.agg (encT s), .agg (encT t)] σ (.val (.agg (encF (.eq s t)))) σ := by
  refine w194 (by simp) ?_
  rw [s194]
  simp [Fm.eq, Ty.zero]
theorem c197 (k : Int) (l : List Tm) (σ : List Frm) : CallsV cfg 197 [.one (.int .i64 k), .one (.slice .no 5 (l.map encT))] σ (.val (.agg (encT (.node k l)))) σ := by
  refine w197 (by simp) ?_
  rw [s197]
  simp [Tm.node, Ty.zero]
theorem c185 (i : Int) (σ : List Frm) : CallsV cfg 185 [.one (.int .i64 i)] σ (.val (.agg (encT (.var i)))) σ := by
  refine w185 (by simp) ?_
  rw [s185]
  simp [Tm.var, Ty.zero]
theorem c202 (σ : List Frm) : CallsV cfg 202 [] σ (.val (.agg (enc .nat))) σ := by
  refine w202 (by simp) ?_
  rw [s202]
  simp [Ty.nat]
def i195 (f : Tm) (l : List Tm) (σ : List Frm) (j : Nat) : St → Prop
  | ⟨env, loc, σ', _⟩ => env 2 = .one (.box σ.length 2 0 0) ∧ env 4 = .one (.box σ.length 4 0 0) ∧ env 7 = .one (.slice .no 5 (l.map encT)) ∧ env 8 = .one (.int .i64 l.length) ∧ env 9 = .one (.int .i64 j) ∧
    loc 2 = [encT ((l.take j).foldl Tm.app f)] ∧ loc 4 = [z62] ∧ σ' = σ
theorem c195 (f : Tm) (l : List Tm) (hl : l.length ≤ 1099511627776) (σ : List Frm) : CallsV cfg 195 [.agg (encT f), .one (.slice .no 5 (l.map encT))] σ (.val (.agg (encT (l.foldl Tm.app f)))) σ := by
  refine w195 (by simp) ?_
  rw [s195]
  simp
  refine wpP_range l.length (i195 f l σ) (by omega) ⟨by simp, by simp, by simp, by simp, by simp, by simp, by simp [z62], rfl⟩ ?_ ?_ (hend := ?_)
  · rintro j ⟨env, loc, σ', live⟩ ⟨e2, e4, e7, e8, e9, h2, h4, rfl⟩
    exact ⟨e9, e8⟩
  · rintro j ⟨env, loc, σ', live⟩ hj ⟨e2, e4, e7, e8, e9, h2, h4, rfl⟩
    obtain ⟨x, hx, hd, hm⟩ := drop_cons hj
    simp [e2, e4, e7, e8, e9, hx, h2]
    refine opV_call (c197 3 [(l.take j).foldl Tm.app f, x] _) (by simp) ?_
    simp [e2, e4, e7, e8, e9, hx, h2]
    exact ⟨by simp, by simp, by simp, by simp, by simp, by simp [List.take_add_one, hx, Tm.app], by simp [h4], rfl⟩
  · rintro ⟨env, loc, σ', live⟩ ⟨e2, e4, e7, e8, e9, h2, h4, rfl⟩
    simp [e2, e4, h2, h4, z62]
def lams (l : List Ty) (t : Tm) : Tm := l.foldr (fun s t => .tnode 2 s [t]) t
def i201 (t : Tm) (l : List Ty) (σ : List Frm) (m : Nat) : St → Prop
  | ⟨env, loc, σ', _⟩ => ∃ cs, m ≤ l.length ∧ env 1 = .one (.slice .no 2 (l.map enc)) ∧ env 2 = .one (.box σ.length 2 0 0) ∧ env 4 = .one (.box σ.length 4 0 0) ∧ env 5 = .one (.int .i64 ((m : Int) - 1)) ∧
    loc 2 = [cs] ∧ cs.length = 5 ∧ flatL cs = true ∧ cs.map erC = encT (lams (l.drop m) t) ∧ loc 4 = [z62] ∧ σ' = σ
theorem c201 (t : Tm) (l : List Ty) (hl : l.length ≤ 1099511627776) (σ : List Frm) : CallsV cfg 201 [.agg (encT t), .one (.slice .no 2 (l.map enc))] σ (.val (.agg (encT (lams l t)))) σ := by
  refine w201 (by simp) ?_
  rw [s201]
  simp
  rw [wrap_id (by omega) (by omega)]
  refine wpP_loop (i201 t l σ) l.length ⟨encT t, by omega, by simp, by simp, by simp, by simp, by simp, by simp, by simp, by simp [lams], by simp [z62], rfl⟩ ?_
  rintro m ⟨env, loc, σ', live⟩ ⟨cs, hm, e1, e2, e4, e5, h2, hc1, hc2, hc3, h4, rfl⟩
  have htk : cs.take 5 = cs := List.take_of_length_le (by omega)
  have hdk : cs.drop 5 = [] := List.drop_eq_nil_of_le (by omega)
  cases m with
  | zero =>
    simp [e1, e2, e4, e5, h2, h4, z62, hc1, hc2, hc3, htk, hdk]
  | succ m =>
    obtain ⟨x, hx, hd, hmx⟩ := drop_cons (show m < l.length by omega)
    have e5' : env 5 = .one (.int .i64 (m : Int)) := by
      rw [e5]
      congr 2
      omega
    clear e5
    simp [e1, e2, e4, e5']
    refine wpP_draw (fun _ _ _ => false) ?_
    simp [e1, e2, e4, e5', h2, hx, hc1, hc2, hc3, htk, hdk]
    rw [wrap_id (by omega) (by omega)]
    refine loopK_normal m (by omega) ⟨.int .i64 2 :: .int .i64 0 :: (enc x ++ [.slice .full 5 [encT (lams (l.drop (m + 1)) t)]]), by omega, by simp, by simp, by simp, by simp, by simp, ?_, ?_, ?_, by simp [h4], rfl⟩
    · simp
    · simp
    · simp [hd, lams, Tm.tnode]
theorem c198 (t : Tm) (σ : List Frm) : CallsV cfg 198 [.agg (encT t)] σ (.val (.agg (encT (.lamN (.lamN t))))) σ := by
  refine w198 (by simp) ?_
  rw [s198]
  simp
  refine wpP_draw (fun _ _ _ => false) ?_
  simp
  refine stepD_call (c202 _) (by simp) ?_
  simp
  refine stepD_call (c202 _) (by simp) ?_
  simp
  refine stepD_call (c201 t [.nat, .nat] (by simp) _) (by simp) ?_
  simp [lams, Tm.lamN]
theorem c203 (k : Int) (s : Ty) (a b c : Tm) (σ : List Frm) : CallsV cfg 203 [.one (.int .i64 k), .agg (enc s), .agg (encT a), .agg (encT b), .agg (encT c)] σ (.val (.agg (encT (.tnode k s [a, b, c])))) σ := by
  refine w203 (by simp) ?_
  rw [s203]
  simp [Tm.tnode]
theorem c199 (a b c : Tm) (σ : List Frm) : CallsV cfg 199 [.agg (encT a), .agg (encT b), .agg (encT c)] σ (.val (.agg (encT (.recN a (.lamN (.lamN b)) c)))) σ := by
  refine w199 (by simp) ?_
  rw [s199]
  simp
  refine wpP_draw (fun _ _ _ => false) ?_
  simp
  refine stepD_call (c202 _) (by simp) ?_
  simp
  refine stepD_call (c202 _) (by simp) ?_
  simp
  refine stepD_call (c202 _) (by simp) ?_
  simp
  refine stepD_call (c201 b [.nat, .nat] (by simp) _) (by simp) ?_
  simp [lams]
  refine stepD_call (c203 6 .nat a (.lamN (.lamN b)) c _) (by simp [Tm.lamN]) ?_
  simp [Tm.recN]
theorem c200 (σ : List Frm) : CallsV cfg 200 [] σ (.val (.agg (encT .pred))) σ := by
  refine w200 (by simp) ?_
  rw [s200]
  simp
  refine opV_call (c197 4 [] _) (by simp) ?_
  simp
  refine opV_call (c185 1 _) (by simp) ?_
  simp
  refine opV_call (c185 0 _) (by simp) ?_
  simp
  refine opV_call (c199 (.node 4 []) (.var 1) (.var 0) _) (by simp) ?_
  simp
  refine opV_call (c202 _) (by simp) ?_
  simp
  refine opV_call (c201 (.recN (.node 4 []) (.lamN (.lamN (.var 1))) (.var 0)) [.nat] (by simp) _) (by simp) ?_
  simp [lams, Tm.pred, Tm.lamN]
theorem c196 (σ : List Frm) : CallsV cfg 196 [] σ (.val (.agg (encT .sub))) σ := by
  refine w196 (by simp) ?_
  rw [s196]
  simp
  refine opV_call (c185 1 _) (by simp) ?_
  simp
  refine opV_call (c200 _) (by simp) ?_
  simp
  refine opV_call (c185 0 _) (by simp) ?_
  simp
  refine opV_call (c195 .pred [.var 0] (by simp) _) (by simp) ?_
  simp
  refine opV_call (c185 0 _) (by simp) ?_
  simp
  refine opV_call (c199 (.var 1) (.app .pred (.var 0)) (.var 0) _) (by simp) ?_
  simp
  refine opV_call (c198 (.recN (.var 1) (.lamN (.lamN (.app .pred (.var 0)))) (.var 0)) _) (by simp) ?_
  simp [Tm.sub]
theorem c184 (s t : Tm) (σ : List Frm) : CallsV cfg 184 [.agg (encT s), .agg (encT t)] σ (.val (.agg (encF (less s t)))) σ := by
  refine w184 (by simp) ?_
  rw [s184]
  simp
  refine wpP_draw (fun _ _ _ => false) ?_
  simp
  refine stepD_call (c196 _) (by simp) ?_
  simp
  refine stepD_call (c197 5 [s] _) (by simp) ?_
  simp
  refine stepD_call (c195 .sub [.node 5 [s], t] (by simp) _) (by simp) ?_
  simp
  refine stepD_call (c197 4 [] _) (by simp) ?_
  simp
  refine stepD_call (c194 (.app (.app .sub (.node 5 [s])) t) (.node 4 []) _) (by simp) ?_
  simp [less, Tm.app2]
theorem c181 (b : Bool) (σ : List Frm) : CallsV cfg 181 [.one (.bool b)] σ (.val (.tup [.one (.int .i64 (if b = true then 4 else 5)), .one (.int .i64 (if b = true then 3 else 2))])) σ := by
  refine w181 (by simp) ?_
  rw [s181]
  cases b <;> simp
end Go.Proofs.YtbcejphjmghkbaaDoor.V


set_option maxRecDepth 100000
namespace Go.Proofs.YtbcejphjmghkbaaDoor.V
open Go Go.Proofs
def Pl.cell (p : Pl) : Cell := .box p.d p.t p.v 0
@[simp] theorem erC_cell (p : Pl) : erC p.cell = p.cell := rfl
def Pl.apart (p q : Pl) : Prop := p.d ≠ q.d ∨ p.t ≠ q.t
theorem cellsAt_apart {σ : List Frm} {p q : Pl} {cs : List Cell} (h : p.apart q) : cellsAt (setC σ q cs) p = cellsAt σ p := by
  unfold cellsAt
  simp only [setC, List.getElem?_modify]
  cases σ[p.d]? with
  | none => rfl
  | some f =>
    by_cases e : q.d = p.d
    · have h' : ¬ p.t = q.t := by
        rcases h with h | h
        · exact absurd e.symm h
        · exact h
      simp [e, setLoc, upd, h']
    · simp [e]
theorem readBox_at {env : Nat → PV} {loc : Frm} {σ : List Frm} {live : Live} {p : Pl} {cs : List Cell} (h : cellsAt σ p = some cs) : readBox ⟨env, loc, σ, live⟩ p.d p.t p.v = some cs := by
  have e : ¬ p.d = σ.length := by have := cellsAt_lt h; omega
  simp only [readBox, if_neg e]
  exact h
theorem readBox_set {env : Nat → PV} {loc : Frm} {σ : List Frm} {live : Live} {p q : Pl} {cs c : List Cell} (h : cellsAt σ p = some cs) (ha : p.apart q) : readBox ⟨env, loc, setC σ q c, live⟩ p.d p.t p.v = some cs := readBox_at (by rw [cellsAt_apart ha]; exact h)
theorem opV_atF {C : Cfg} {K : St → Prop} {dst : Option Nat} {ty : TypeId} {f : Nat} {x : Operand} {xs : Array Operand} {ts : Array TypeId} {p : String} {af : Array Edge} {g : Option (Nat × Bool)} {v : PV} {ps : List PV} {env : Nat → PV} {loc : Frm} {σ : List Frm} {live : Live} {q : Pl} {cs cs' caps : List Cell}
    (ho : oper C env x = .one (.func f caps)) (h : CallsV C f (ps ++ caps.map fun c => .one (erC c)) (setC (σ ++ [loc]) q cs) (.val v) (setC (σ ++ [loc]) q cs')) (hH : q.d < σ.length) (ha : argsT C env ts.toList xs.toList = ps) (hk : K (put ⟨env, loc, setC σ q cs', live⟩ dst v)) :
    opV C ⟨dst, .call ⟨.value x, xs, ts⟩, ty, p, af, g⟩ K ⟨env, loc, setC σ q cs, live⟩ := by
  simp only [opV, CallV]
  rw [setC_append hH, setC_append hH] at h
  refine ⟨f, caps, .val v, _, setC σ q cs', loc, ho, ?_, rfl, by simp, hk⟩
  rw [ha]
  exact h
theorem opV_own2 {C : Cfg} {K : St → Prop} {dst : Option Nat} {ty : TypeId} {f : Nat} {xs : Array Operand} {ts : Array TypeId} {p : String} {af : Array Edge} {g : Option (Nat × Bool)} {v : PV} {ps : List PV} {env : Nat → PV} {loc : Frm} {σ : List Frm} {live : Live} {t w : Nat} {cs cs' : List Cell}
    (h : CallsV C f ps (setC (σ ++ [loc]) ⟨σ.length, t, w⟩ cs) (.val v) (setC (σ ++ [loc]) ⟨σ.length, t, w⟩ cs')) (hH : (loc t)[w]? = some cs) (ha : argsT C env ts.toList xs.toList = ps) (hk : K (put ⟨env, setLoc loc ⟨σ.length, t, w⟩ cs', σ, live⟩ dst v)) :
    opV C ⟨dst, .call ⟨.value (.func f), xs, ts⟩, ty, p, af, g⟩ K ⟨env, loc, σ, live⟩ := by
  simp only [opV, CallV]
  have e : setLoc loc ⟨σ.length, t, w⟩ cs = loc := setLoc_self hH
  rw [setC_own, setC_own, e] at h
  refine ⟨f, [], .val v, _, σ, setLoc loc ⟨σ.length, t, w⟩ cs', rfl, ?_, rfl, rfl, hk⟩
  rw [ha]
  simpa using h
@[simp] theorem opP_makeFunc {C : Cfg} {dst : Option Nat} {ty : TypeId} {k : St → Prop} {st : St} {f : Nat} {captured : Array Operand} : opP C dst (.makeFunc (.func f) #[] captured) ty k st = match onesOf (captured.toList.map (oper C st.env)) with
    | some caps => k (put st dst (.one (.func f caps)))
    | none => False := by
  have e : opP C dst (.makeFunc (.func f) #[] captured) ty k st = opV C ⟨dst, .makeFunc (.func f) #[] captured, ty, "", #[], none⟩ k st := rfl
  rw [e]
  simp only [opV, opR]
  cases h : onesOf (captured.toList.map (oper C st.env)) with
  | none => simp
  | some caps => simp
structure CX (σ : List Frm) (pc pn pf ps : Pl) (n : Int) : Prop where
  has : Has σ pc
  num : cellsAt σ pn = some [.int .i64 n]
  fn : cellsAt σ pf = some [.func 193 [pn.cell, pc.cell]]
  self : cellsAt σ ps = some [.func 172 [pf.cell, ps.cell]]
  an : pn.apart pc
  af : pf.apart pc
  ap : ps.apart pc
theorem CX.app {σ : List Frm} {pc pn pf ps : Pl} {n : Int} (h : CX σ pc pn pf ps n) (τ : List Frm) : CX (σ ++ τ) pc pn pf ps n :=
  ⟨h.has.app τ, by rw [cellsAt_append (cellsAt_lt h.num)]; exact h.num, by rw [cellsAt_append (cellsAt_lt h.fn)]; exact h.fn, by rw [cellsAt_append (cellsAt_lt h.self)]; exact h.self, h.an, h.af, h.ap⟩
theorem c193 {σ : List Frm} {pc pn : Pl} {n : Int} (hH : Has σ pc) (hn : cellsAt σ pn = some [.int .i64 n]) (ha : pn.apart pc) (i d c : Int) (hi : 0 ≤ i ∧ i ≤ 9223372036854775807) (hd : 0 ≤ d ∧ d ≤ 4398046511104) (hc : 0 ≤ c ∧ c ≤ 1099511627776) :
    CallsV cfg 193 [.one (.int .i64 i), .one (.int .i64 d), .one pn.cell, .one pc.cell] (setC σ pc [.int .i64 c]) (.val (.tup [])) (setC σ pc [.int .i64 (c + if i - d = n then 1 else 0)]) := by
  have hne : ¬ pc.d = σ.length := by have := hH.lt; omega
  have hne2 : ¬ pn.d = σ.length := by have := cellsAt_lt hn; omega
  refine w193 (by simp) ?_
  rw [s193]
  simp [Pl.cell, readBox_set hn ha, hne, hne2]
  rw [wrap_id (by omega) (by omega)]
  by_cases h : i - d = n
  · simp [h, readBox_setC hH, hne]
    rw [wrap_id (by omega) (by omega), writeBox_setC hH]
    simp [resPV, splice]
  · simp [h, resPV]
def i172a (pc ps : Pl) (t : Tm) (c d : Int) (σ : List Frm) : St → Prop
  | ⟨env, loc, σ', _⟩ => env 1 = .one (.int .i64 d) ∧ env 3 = .one ps.cell ∧ env 4 = .one (.box σ.length 4 0 0) ∧ loc 4 = [encT t] ∧ σ' = setC σ pc [.int .i64 c]
def i172 (pc pf ps : Pl) (l : List Tm) (n c d : Int) (σ : List Frm) (j : Nat) : St → Prop
  | ⟨env, _, σ', _⟩ => env 1 = .one (.int .i64 d) ∧ env 3 = .one ps.cell ∧ env 22 = .one (.slice .no 5 (l.map encT)) ∧ env 23 = .one (.int .i64 l.length) ∧ env 24 = .one (.int .i64 j) ∧
    σ' = setC σ pc [.int .i64 (c + Tm.timess (l.take j) (n + d))]
theorem c172 (t : Tm) : ∀ {σ : List Frm} {pc pn pf ps : Pl} {n : Int}, CX σ pc pn pf ps n → t.ok = true → t.least 9223372036854775807 = true → ∀ (d c : Int), 0 ≤ d → d + t.size ≤ 4398046511104 → 0 ≤ c → c + t.count ≤ 1099511627776 →
    CallsV cfg 172 [.agg (encT t), .one (.int .i64 d), .one pf.cell, .one ps.cell] (setC σ pc [.int .i64 c]) (.val (.tup [])) (setC σ pc [.int .i64 (c + t.times (n + d))]) := by
  induction t using Tm.ind with
  | _ k i s l ih =>
  intro σ pc pn pf ps n hX hok hle d c hd0 hd1 hc0 hc1
  simp at hd1 hc1
  have hlen := Tm.length_le l
  have hsp := s.size_pos
  have hcl := Tm.counts_le l
  obtain ⟨hi0, hpo⟩ := Tm.ok_parts hok
  obtain ⟨hi1, hpl⟩ := Tm.least_parts hle
  have hne : ¬ pc.d = σ.length := by have := hX.has.lt; omega
  have hne2 : ¬ pf.d = σ.length := by have := cellsAt_lt hX.fn; omega
  have hne3 : ¬ ps.d = σ.length := by have := cellsAt_lt hX.self; omega
  refine w172 (by simp) ?_
  rw [s172, Tm.times_mk, bump_eq]
  obtain ⟨hb0, hb1⟩ := bump_le k
  refine cut3 (i172a pc ps (.mk k i s l) (c + if k = 1 ∧ i = n + d then 1 else 0) (d + bump k) σ) ?_ ?_
  · by_cases hk : k = 1
    · subst hk
      simp [Pl.cell, readBox_set hX.fn hX.af, hne, hne2]
      refine opV_atF (f := 193) (caps := [pn.cell, pc.cell]) (ps := [.one (.int .i64 i), .one (.int .i64 d)]) (by simp [Pl.cell]) (c193 (hX.app _).has (hX.app _).num hX.an i d c ⟨hi0, hi1⟩ ⟨hd0, by omega⟩ ⟨hc0, by omega⟩) hX.has.lt (by simp) ?_
      simp
      have e : (if i - d = n then (1 : Int) else 0) = if i = n + d then 1 else 0 := by split <;> split <;> omega
      rw [e]
      exact ⟨by simp [bump], by simp [Pl.cell], by simp, by simp, by simp⟩
    · by_cases hk2 : k = 2
      · subst hk2
        simp
        rw [wrap_id (by omega) (by omega)]
        exact ⟨by simp [bump], by simp, by simp, by simp, by simp⟩
      · simp [hk, hk2]
        exact ⟨by simp [bump, hk2], by simp, by simp, by simp, by simp⟩
  · rintro ⟨env, loc, σ', live⟩ ⟨e1, e3, e4, h4, rfl⟩
    have hcc : 0 ≤ (if k = 1 ∧ i = n + d then (1 : Int) else 0) ∧ (if k = 1 ∧ i = n + d then (1 : Int) else 0) ≤ 1 := by split <;> omega
    generalize hc' : c + (if k = 1 ∧ i = n + d then (1 : Int) else 0) = c'
    have hc2 : 0 ≤ c' ∧ c' + Tm.counts l ≤ 1099511627776 := by omega
    rw [← Int.add_assoc, hc']
    simp [e1, e3, e4, h4]
    refine wpP_range l.length (i172 pc pf ps l n c' (d + bump k) σ) (by omega) ⟨by simp, by simp, by simp, by simp, by simp, by simp [Tm.timess]⟩ ?_ ?_ (hend := ?_)
    · rintro j ⟨env, loc, σ', live⟩ ⟨e1, e3, e22, e23, e24, rfl⟩
      exact ⟨e24, e23⟩
    · rintro j ⟨env, loc, σ', live⟩ hj ⟨e1, e3, e22, e23, e24, rfl⟩
      obtain ⟨x, hx, hdr, hm⟩ := drop_cons hj
      have h1 := Tm.sizes_mem hm
      have ht := Tm.timess_take (n + (d + bump k)) hx
      have hb1 := Tm.timess_le (l.take j) (n + (d + bump k))
      have hb2 := Tm.counts_take hx
      have hb3 := Tm.counts_take_le l (j + 1)
      simp only [Pl.cell] at e3
      simp [e1, e3, e22, e23, e24, hx, readBox_set hX.self hX.ap, hne, hne3]
      refine opV_atF (f := 172) (caps := [pf.cell, ps.cell]) (ps := [.agg (encT x), .one (.int .i64 (d + bump k))]) (by simp [Pl.cell]) (ih x hm (hX.app _) (hpo x hm) (hpl x hm) (d + bump k) (c' + Tm.timess (l.take j) (n + (d + bump k))) (by omega) (by omega) (by omega) (by omega)) hX.has.lt (by simp) ?_
      simp [e1, e3, e22, e23, e24]
      exact ⟨by simp, by simp [Pl.cell], by simp, by simp, by simp, by rw [ht, Int.add_assoc]⟩
    · rintro ⟨env, loc, σ', live⟩ ⟨e1, e3, e22, e23, e24, rfl⟩
      rw [List.take_length]
      simp [resPV, Int.add_assoc]
theorem c147 {σ : List Frm} {pc pn : Pl} {n : Int} (hH : Has σ pc) (hn : cellsAt σ pn = some [.int .i64 n]) (ha : pn.apart pc) (t : Tm) (hsz : t.size ≤ 1099511627776) (hok : t.ok = true) (hle : t.least 9223372036854775807 = true) :
    CallsV cfg 147 [.agg (encT t), .one (.func 193 [pn.cell, pc.cell])] (setC σ pc [.int .i64 0]) (.val (.tup [])) (setC σ pc [.int .i64 (t.times n)]) := by
  have hne : ¬ pc.d = σ.length := by have := hH.lt; omega
  have hcz := t.count_le
  refine w147 (by simp) ?_
  rw [s147]
  simp [onesOf]
  refine opV_atF (f := 172) (caps := [(⟨σ.length, 3, 0⟩ : Pl).cell, (⟨σ.length, 4, 0⟩ : Pl).cell]) (ps := [.agg (encT t), .one (.int .i64 0)]) (by simp [Pl.cell])
    (c172 t (n := n) (pn := pn) ⟨hH.app _, by rw [cellsAt_append (cellsAt_lt hn)]; exact hn, by simp [cellsAt, Pl.cell], by simp [cellsAt, Pl.cell], ha, .inl (fun h => hne h.symm), .inl (fun h => hne h.symm)⟩ hok hle 0 0 (by omega) (by omega) (by omega) (by omega)) hH.lt (by simp) ?_
  simp [resPV]
theorem c182 (t : Tm) (hsz : t.size ≤ 1099511627776) (hok : t.ok = true) (hle : t.least 9223372036854775807 = true) (n : Int) (σ : List Frm) : CallsV cfg 182 [.agg (encT t), .one (.int .i64 n)] σ (.val (.one (.int .i64 (t.times n)))) σ := by
  refine w182 (by simp) ?_
  rw [s182]
  simp [onesOf]
  refine opV_own2 (t := 5) (w := 0) (c147 (pn := ⟨σ.length, 3, 0⟩) (n := n) (Has.own (by simp)) (by simp [cellsAt]) (.inr (by simp)) t hsz hok hle) (by simp) (by simp [Pl.cell]) ?_
  simp
end Go.Proofs.YtbcejphjmghkbaaDoor.V


set_option maxRecDepth 100000
namespace Go.Proofs.YtbcejphjmghkbaaDoor.V
open Go Go.Proofs
theorem opV_callF {C : Cfg} {K : St → Prop} {st : St} {dst : Option Nat} {ty : TypeId} {f : Nat} {caps : List Cell} {x : Operand} {xs : Array Operand} {ts : Array TypeId} {p : String} {af : Array Edge} {g : Option (Nat × Bool)} {v : PV} {ps : List PV} (ho : oper C st.env x = .one (.func f caps))
    (h : CallsV C f (ps ++ caps.map fun c => .one (erC c)) (st.σ ++ [st.loc]) (.val v) (st.σ ++ [st.loc])) (ha : argsT C st.env ts.toList xs.toList = ps) (hk : K (put st dst v)) : opV C ⟨dst, .call ⟨.value x, xs, ts⟩, ty, p, af, g⟩ K st := by
  simp only [opV, CallV]
  refine ⟨f, caps, .val v, _, st.σ, st.loc, ho, ?_, rfl, rfl, hk⟩
  rw [ha]
  exact h
theorem stepD_callF {C : Cfg} {W : Nat → Nat → Nat → Bool} {vs : Nat → Nat} {fr : Bool} {K : St → Prop} {st : St} {dst : Option Nat} {ty : TypeId} {f : Nat} {caps : List Cell} {x : Operand} {xs : Array Operand} {ts : Array TypeId} {p : String} {af : Array Edge} {g : Option (Nat × Bool)} {v : PV} {ps : List PV} (ho : oper C st.env x = .one (.func f caps))
    (h : CallsV C f (ps ++ caps.map fun c => .one (erC c)) (st.σ ++ [st.loc]) (.val v) (st.σ ++ [st.loc])) (ha : argsT C st.env ts.toList xs.toList = ps) (hk : K (put st dst v)) : stepD C W vs fr ⟨dst, .call ⟨.value x, xs, ts⟩, ty, p, af, g⟩ K st := by
  simp only [stepD]
  exact opV_callF ho h ha ⟨fun _ => ⟨by simp, fun d t v _ => by simp [readBox]⟩, hk⟩
def i168a (f : Fm) (k : Int) (t : Ty) (m : List Tm) (d : Int) (σ : List Frm) (j : Nat) : St → Prop
  | ⟨env, loc, σ', live⟩ => ∃ ow, env 1 = .one (.int .i64 d) ∧ env 2 = .one (.func 169 []) ∧ env 3 = .one (.box σ.length 3 0 0) ∧ env 6 = .one (.box σ.length 6 0 0) ∧ env 7 = .one (.box σ.length 7 0 0) ∧ env 19 = .one (.slice .no 5 (m.map encT)) ∧ env 20 = .one (.int .i64 m.length) ∧ env 21 = .one (.int .i64 j) ∧
    loc 3 = [encF f] ∧ loc 6 = [z29] ∧ loc 7 = [.int .i64 k :: (enc t ++ [.slice ow 5 ((m.take j).map encT), .slice .full 5 []])] ∧ σ' = σ ∧ okOwn live ow
def i168m (f : Fm) (k : Int) (t : Ty) (m : List Tm) (d : Int) (σ : List Frm) : St → Prop
  | ⟨env, loc, σ', live⟩ => ∃ ow, env 1 = .one (.int .i64 d) ∧ env 2 = .one (.func 169 []) ∧ env 3 = .one (.box σ.length 3 0 0) ∧ env 6 = .one (.box σ.length 6 0 0) ∧ env 7 = .one (.box σ.length 7 0 0) ∧
    loc 3 = [encF f] ∧ loc 6 = [z29] ∧ loc 7 = [.int .i64 k :: (enc t ++ [.slice ow 5 (m.map encT), .slice .full 5 []])] ∧ σ' = σ
def i168b (k : Int) (t : Ty) (m : List Tm) (l : List Fm) (d : Int) (σ : List Frm) (j : Nat) : St → Prop
  | ⟨env, loc, σ', live⟩ => ∃ ow o, env 1 = .one (.int .i64 d) ∧ env 2 = .one (.func 169 []) ∧ env 6 = .one (.box σ.length 6 0 0) ∧ env 7 = .one (.box σ.length 7 0 0) ∧ env 41 = .one (.slice .no 5 (l.map encF)) ∧ env 42 = .one (.int .i64 l.length) ∧ env 43 = .one (.int .i64 j) ∧
    loc 6 = [z29] ∧ loc 7 = [.int .i64 k :: (enc t ++ [.slice o 5 (m.map encT), .slice ow 5 ((l.take j).map encF)])] ∧ σ' = σ ∧ okOwn live ow
theorem c168 (f : Fm) : f.size ≤ 1099511627776 → ∀ (d : Int), 0 ≤ d → d + f.size ≤ 4398046511104 → ∀ (σ : List Frm), CallsV cfg 168 [.agg (encF f), .one (.int .i64 d), .one (.func 169 [])] σ (.val (.agg (encF f))) σ := by
  induction f using Fm.ind with
  | _ k t m l ih =>
  intro hsz d hd0 hd1 σ
  simp at hsz hd1
  have hlm := Tm.length_le m
  have hll := Fm.length_le l
  have hsp := t.size_pos
  refine w168 (by simp) ?_
  rw [s168]
  simp
  refine wpP_draw (fun _ _ _ => false) ?_
  simp
  refine stepD_call (c144 t (by omega) _) (by simp) ?_
  simp
  refine wpP_range m.length (i168a (.mk k t m l) k t m d σ) (by omega) ⟨.full, by simp, by simp, by simp, by simp, by simp, by simp, by simp, by simp, by simp, by simp [z29], by simp, rfl, by simp⟩ ?_ ?_ (hend := ?_)
  · rintro j ⟨env, loc, σ', live⟩ ⟨ow, e1, e2, e3, e6, e7, e19, e20, e21, h3, h6, h7, rfl, how⟩
    exact ⟨e21, e20⟩
  · rintro j ⟨env, loc, σ', live⟩ hj ⟨ow, e1, e2, e3, e6, e7, e19, e20, e21, h3, h6, h7, rfl, how⟩
    obtain ⟨x, hx, hdr, hm⟩ := drop_cons hj
    have := Tm.sizes_mem hm
    simp [e1, e2, e3, e6, e7, e19, e20, e21, hx]
    refine wpP_draw (fun _ _ _ => false) ?_
    simp [e1, e2, e3, e6, e7, h3, h7]
    refine stepD_callF (f := 169) (caps := []) (ps := [.agg (encT x), .one (.int .i64 d)]) (by simp) (c169 x (by omega) d _) (by simp) ?_
    simp [how, e1, e2, e3, e6, e7, h3, h7]
    exact ⟨by omega, by omega, .tip live.nx, by simp, by simp, by simp, by simp, by simp, by simp, by simp, by simp, by simp [h3], by simp [h6], by simp [List.take_add_one, hx], rfl, grown_on⟩
  · rintro ⟨env, loc, σ', live⟩ ⟨ow, e1, e2, e3, e6, e7, e19, e20, e21, h3, h6, h7, rfl, how⟩
    rw [List.take_length] at h7
    obtain ⟨d', hd', hd2, hd3⟩ : ∃ d' : Int, (if 4 ≤ k ∧ k ≤ 7 then d + 1 else d) = d' ∧ 0 ≤ d' ∧ d' ≤ d + 1 := ⟨_, rfl, by split <;> omega, by split <;> omega⟩
    refine cut (i168m (.mk k t m l) k t m d' σ') ?_ ?_
    · simp [e1, e2, e3, e6, e7, h3, h6, h7]
      refine opV_call (c186 k _) (by simp) ?_
      by_cases hk : 4 ≤ k ∧ k ≤ 7
      · rw [if_pos hk] at hd'
        simp [hk, e1, e2, e3, e6, e7]
        rw [wrap_id (by omega) (by omega), hd']
        exact ⟨ow, by simp, by simp, by simp, by simp, by simp, by simp [h3], by simp [h6], by simp [h7], rfl⟩
      · rw [if_neg hk] at hd'
        have hk' : decide (4 ≤ k ∧ k ≤ 7) = false := by simpa using hk
        simp [hk', e1, e2, e3, e6, e7, hd']
        exact ⟨ow, by simp, by simp, by simp, by simp, by simp, by simp [h3], by simp [h6], by simp [h7], rfl⟩
    · rintro ⟨env, loc, σ', live⟩ ⟨ow, e1, e2, e3, e6, e7, h3, h6, h7, rfl⟩
      simp [e1, e2, e3, e6, e7, h3, h6, h7]
      refine wpP_range l.length (i168b k t m l d' σ') (by omega) ⟨.full, ow, by simp, by simp, by simp, by simp, by simp, by simp, by simp, by simp [h6], by simp [h7], rfl, by simp⟩ ?_ ?_ (hend := ?_)
      · rintro j ⟨env, loc, σ', live⟩ ⟨ow, o, e1, e2, e6, e7, e41, e42, e43, h6, h7, rfl, how⟩
        exact ⟨e43, e42⟩
      · rintro j ⟨env, loc, σ', live⟩ hj ⟨ow, o, e1, e2, e6, e7, e41, e42, e43, h6, h7, rfl, how⟩
        obtain ⟨x, hx, hdr, hm⟩ := drop_cons hj
        have := Fm.sizes_mem hm
        simp [e1, e2, e6, e7, e41, e42, e43, hx]
        refine wpP_draw (fun _ _ _ => false) ?_
        simp [e1, e2, e6, e7, h6, h7]
        refine stepD_call (ih x hm (by omega) d' (by omega) (by omega) _) (by simp) ?_
        simp [how, e1, e2, e6, e7, h6, h7]
        exact ⟨by omega, by omega, .tip live.nx, o, by simp, by simp, by simp, by simp, by simp, by simp, by simp, by simp [h6], by simp [List.take_add_one, hx], rfl, grown_on⟩
      · rintro ⟨env, loc, σ', live⟩ ⟨ow, o, e1, e2, e6, e7, e41, e42, e43, h6, h7, rfl, how⟩
        simp [e6, e7, h6, h7, z29]
theorem c145 (f : Fm) (hsz : f.size ≤ 1099511627776) (σ : List Frm) : CallsV cfg 145 [.agg (encF f)] σ (.val (.agg (encF f))) σ := by
  refine w145 (by simp) ?_
  rw [s145]
  simp
  refine opV_call (c168 f hsz 0 (by omega) (by omega) _) (by simp) ?_
  simp
end Go.Proofs.YtbcejphjmghkbaaDoor.V


set_option maxRecDepth 100000
namespace Go.Proofs.YtbcejphjmghkbaaDoor.V
open Go Go.Proofs
theorem Tm.shape3 {i : Int} {s : Ty} {l : List Tm} (h : (Tm.mk 3 i s l).ok = true) : ∃ p q, l = [p, q] ∧ p.ok = true ∧ q.ok = true := by
  simp only [Tm.ok_mk, Bool.and_eq_true, Tm.oks_iff, Tm.head, tmArity] at h
  obtain ⟨⟨⟨⟨h1, _⟩, _⟩, _⟩, h2⟩ := h
  have : l.length = 2 := by simp at h1; omega
  match l, this with
  | [p, q], _ => exact ⟨p, q, rfl, h2 p (by simp), h2 q (by simp)⟩
theorem Fm.shape1 {t : Ty} {m : List Tm} {l : List Fm} (h : (Fm.mk 1 t m l).ok = true) : ∃ a b, m = [a, b] ∧ l = [] ∧ a.ok = true ∧ b.ok = true := by
  simp only [Fm.ok_mk, Bool.and_eq_true, Tm.oks_iff, Fm.oks_iff, Fm.head, fmArity] at h
  obtain ⟨h1, h2, _⟩ := h
  simp at h1
  obtain ⟨_, h3, h4⟩ := h1
  match m, h3 with
  | [a, b], _ => exact ⟨a, b, rfl, h4, h2 a (by simp), h2 b (by simp)⟩
theorem less_size (s t : Tm) : (less s t).size = (less s (.var 0)).size + t.size - 2 := by
  have := t.size_pos
  simp [less, Fm.eq, Tm.app2, Tm.app, Tm.node, Tm.var, Ty.zero]
  omega
def encB (r : Bool × Tm × Fm × Bool) : PV := .tup [.one (.bool r.1), .agg (encT r.2.1), .agg (encF r.2.2.1), .one (.bool r.2.2.2)]
theorem bound_q {k j : Int} {all : Bool} (hk : (k = 4 ∧ all = true ∧ j = 3) ∨ (k = 5 ∧ all = false ∧ j = 2)) (t : Ty) (m : List Tm) (x : Fm) : (Fm.mk k t m [x]).bound =
    if t.kind ≠ 1 ∨ x.kind ≠ j ∨ (x.kid 0).kind ≠ 1 then (false, .zeroT, .zeroF, false)
    else if ((x.kid 0).tms.getD 0 .zeroT).kind ≠ 3 ∨ 0 < (((x.kid 0).tms.getD 0 .zeroT).kid 1).times 0 ∨ (x.kid 0).same (less (.var 0) (((x.kid 0).tms.getD 0 .zeroT).kid 1)) = false then (false, .zeroT, .zeroF, false)
    else (all, ((x.kid 0).tms.getD 0 .zeroT).kid 1, x.kid 1, true) := by
  rcases hk with ⟨rfl, rfl, rfl⟩ | ⟨rfl, rfl, rfl⟩ <;> simp [Fm.bound, Fm.kind, Fm.ty, Fm.kid, Fm.kids]
theorem bound_no {k : Int} {t : Ty} {m : List Tm} {l : List Fm} (h4 : k ≠ 4) (h5 : k ≠ 5) : (Fm.mk k t m l).bound = (false, .zeroT, .zeroF, false) := by
  simp [Fm.bound, Fm.kind, h4, h5]
theorem c167 (f : Fm) (hsz : f.size ≤ 549755813888) (hok : f.ok = true) (hle : f.least 9223372036854775807 = true) (σ : List Frm) : CallsV cfg 167 [.agg (encF f)] σ (.val (encB f.bound)) σ := by
  obtain ⟨k, t, m, l⟩ := f
  refine w167 (by simp [encB]) ?_
  have hno : k ≠ 4 → k ≠ 5 → wpP cfg s167 (QEndP cfg [.tmp 2, .cell 3 62, .cell 4 29, .tmp 5] σ (.val (encB (Fm.mk k t m l).bound))) ⟨initEnv [.agg (encF (.mk k t m l))], fun _ => [], σ, ⟨fun _ => false, 0⟩⟩ := by
    intro h4 h5
    rw [bound_no h4 h5, s167]
    simp [h4]
    refine opV_call (c181 false _) (by simp [h4]) ?_
    have h5' : (k == 5) = false := by simpa using h5
    simp [h5, h5', bne]
    simp [encB, Tm.zeroT, Fm.zeroF, Ty.zero, resPV]
  rcases Fm.shape hok with ⟨rfl, rfl⟩ | ⟨hk, y, x, rfl, hy, hx⟩ | ⟨hk, ht, x, rfl, hx⟩
  · exact hno (by omega) (by omega)
  · exact hno (by omega) (by omega)
  by_cases hk2 : k = 4 ∨ k = 5
  rotate_left
  · exact hno (by omega) (by omega)
  obtain ⟨all, j, hkj⟩ : ∃ (all : Bool) (j : Int), (k = 4 ∧ all = true ∧ j = 3) ∨ (k = 5 ∧ all = false ∧ j = 2) := by
    rcases hk2 with rfl | rfl
    · exact ⟨true, 3, .inl ⟨rfl, rfl, rfl⟩⟩
    · exact ⟨false, 2, .inr ⟨rfl, rfl, rfl⟩⟩
  have e1 : (k == 4) = all := by rcases hkj with ⟨rfl, rfl, rfl⟩ | ⟨rfl, rfl, rfl⟩ <;> simp
  have e2 : (if all = true then (4 : Int) else 5) = k := by rcases hkj with ⟨rfl, rfl, rfl⟩ | ⟨rfl, rfl, rfl⟩ <;> simp
  have e3 : (if all = true then (3 : Int) else 2) = j := by rcases hkj with ⟨rfl, rfl, rfl⟩ | ⟨rfl, rfl, rfl⟩ <;> simp
  have hj : j = 2 ∨ j = 3 := by omega
  rw [bound_q hkj, s167]
  clear hno
  simp at hsz
  obtain ⟨hpl, hql⟩ := Fm.least_parts hle
  have hxl := hql x (by simp)
  simp [e1]
  refine opV_call (c181 all _) (by simp) ?_
  rw [e2, e3]
  by_cases htk : t.kind = 1
  rotate_left
  · simp [htk, bne]
    simp [encB, Tm.zeroT, Fm.zeroF, Ty.zero, resPV]
  obtain ⟨k2, t2, m2, l2⟩ := x
  by_cases hk2 : k2 = j
  rotate_left
  · have hk2' : (k2 == j) = false := by simpa using hk2
    simp [htk, hk2, hk2', bne, Fm.kind]
    simp [encB, Tm.zeroT, Fm.zeroF, Ty.zero, resPV]
  subst hk2
  obtain ⟨y, z, rfl, hy, hz⟩ : ∃ y z, l2 = [y, z] ∧ y.ok = true ∧ z.ok = true := by
    rcases Fm.shape hx with ⟨rfl, rfl⟩ | ⟨hk, y, x, rfl, hy, hx⟩ | ⟨hk, ht, x, rfl, hx⟩
    · omega
    · exact ⟨y, x, rfl, hy, hx⟩
    · omega
  obtain ⟨k3, t3, m3, l3⟩ := y
  simp [htk, Fm.kid, Fm.kids, Fm.kind]
  by_cases hk3 : k3 = 1
  rotate_left
  · have hk3' : (k3 == 1) = false := by simpa using hk3
    simp [hk3, hk3', bne]
    simp [encB, Tm.zeroT, Fm.zeroF, Ty.zero, resPV]
  subst hk3
  obtain ⟨a, b, rfl, rfl, ha, hb⟩ := Fm.shape1 hy
  obtain ⟨k4, i4, t4, l4⟩ := a
  simp [Fm.tms]
  refine wpP_draw (fun _ _ _ => false) ?_
  by_cases hk4 : k4 = 3
  rotate_left
  · have hk4' : (k4 == 3) = false := by simpa using hk4
    simp [hk4, hk4', bne]
    simp [encB, Tm.zeroT, Fm.zeroF, Ty.zero, resPV]
  subst hk4
  obtain ⟨p, q, rfl, hp, hq⟩ := Tm.shape3 ha
  obtain ⟨hxm, hxk⟩ := Fm.least_parts hxl
  obtain ⟨hym, _⟩ := Fm.least_parts (hxk _ (List.mem_cons_self ..))
  have hal := hym _ (List.mem_cons_self ..)
  obtain ⟨_, hkl⟩ := Tm.least_parts hal
  have hql2 := hkl q (by simp)
  simp at hsz
  simp [Tm.kid, Tm.kids]
  refine stepD_call (c182 q (by omega) hq hql2 0 _) (by simp) ?_
  by_cases hc : 0 < q.times 0
  · simp [hc]
    simp [encB, Tm.zeroT, Fm.zeroF, Ty.zero, resPV]
  simp [hc]
  refine stepD_call (c185 0 _) (by simp) ?_
  simp
  refine stepD_call (c184 (.var 0) q _) (by simp) ?_
  simp
  refine stepD_call (c183 (.mk 1 t3 [.mk 3 i4 t4 [p, q], b] []) (less (.var 0) q) (by simp; omega) _) (by simp) ?_
  cases hs : (Fm.mk 1 t3 [.mk 3 i4 t4 [p, q], b] []).same (less (.var 0) q) with
  | false =>
    simp [encB, Tm.zeroT, Fm.zeroF, Ty.zero, resPV]
  | true =>
    simp
    refine wpP_draw (fun _ t _ => decide (t = 3)) ?_
    simp [encB, resPV]
end Go.Proofs.YtbcejphjmghkbaaDoor.V


set_option maxRecDepth 100000
namespace Go.Proofs.YtbcejphjmghkbaaDoor.V
open Go Go.Proofs
def uand (a b : Int) : Int := IntKind.u8.wrap (BitVec.ofInt 8 a &&& BitVec.ofInt 8 b).toNat
def uor (a b : Int) : Int := IntKind.u8.wrap (BitVec.ofInt 8 a ||| BitVec.ofInt 8 b).toNat
@[simp] theorem intC_uand (a b : Int) : intC .and .u8 a b = some (.int .u8 (uand a b)) := rfl
@[simp] theorem intC_uor (a b : Int) : intC .or .u8 a b = some (.int .u8 (uor a b)) := rfl
theorem uand_n (x y : Cls) : uand x.n y.n = Cls.n ⟨x.c && y.c, x.q && y.q, x.d && y.d⟩ := by
  obtain ⟨a, b, c⟩ := x
  obtain ⟨d, e, f⟩ := y
  cases a <;> cases b <;> cases c <;> cases d <;> cases e <;> cases f <;> rfl
theorem uor_n (x y : Cls) : uor x.n y.n = Cls.n ⟨x.c || y.c, x.q || y.q, x.d || y.d⟩ := by
  obtain ⟨a, b, c⟩ := x
  obtain ⟨d, e, f⟩ := y
  cases a <;> cases b <;> cases c <;> cases d <;> cases e <;> cases f <;> rfl
theorem uand6 (x : Cls) : uand x.n 6 = Cls.n ⟨false, x.q, x.d⟩ := by have := uand_n x ⟨false, true, true⟩; simpa [Cls.n] using this
theorem uand1 (x : Cls) : uand x.n 1 = Cls.n ⟨x.c, false, false⟩ := by have := uand_n x ⟨true, false, false⟩; simpa [Cls.n] using this
theorem uand4 (x : Cls) : uand x.n 4 = Cls.n ⟨false, false, x.d⟩ := by have := uand_n x ⟨false, false, true⟩; simpa [Cls.n] using this
theorem uor1 (x : Cls) : uor x.n 1 = Cls.n ⟨true, x.q, x.d⟩ := by have := uor_n x ⟨true, false, false⟩; simpa [Cls.n] using this
theorem bound_body {k : Int} {t : Ty} {m : List Tm} {x : Fm} (hx : x.ok = true) (h : (Fm.mk k t m [x]).bound.2.2.2 = true) :
    ∃ y z t2 m2 k2, x = .mk k2 t2 m2 [y, z] ∧ y.ok = true ∧ z.ok = true ∧ (Fm.mk k t m [x]).bound.2.2.1 = z := by
  by_cases h4 : k = 4 ∨ k = 5
  rotate_left
  · rw [bound_no (by omega) (by omega)] at h; cases h
  obtain ⟨all, j, hkj⟩ : ∃ (all : Bool) (j : Int), (k = 4 ∧ all = true ∧ j = 3) ∨ (k = 5 ∧ all = false ∧ j = 2) := by
    rcases h4 with rfl | rfl
    · exact ⟨true, 3, .inl ⟨rfl, rfl, rfl⟩⟩
    · exact ⟨false, 2, .inr ⟨rfl, rfl, rfl⟩⟩
  rw [bound_q hkj] at h ⊢
  split at h
  · cases h
  rename_i h1
  split at h
  · cases h
  rename_i h2
  rw [if_neg h1, if_neg h2]
  obtain ⟨k2, t2, m2, l2⟩ := x
  have hk2 : k2 = j := Decidable.byContradiction fun hn => h1 (.inr (.inl hn))
  rcases Fm.shape hx with ⟨rfl, rfl⟩ | ⟨hk, y, x, rfl, hy, hz⟩ | ⟨hk, ht, x, rfl, hx⟩
  · omega
  · exact ⟨y, x, t2, m2, k2, rfl, hy, hz, by simp [Fm.kid, Fm.kids]⟩
  · omega
theorem c143 (N : Nat) : ∀ f : Fm, f.size ≤ N → f.size ≤ 549755813888 → f.ok = true → f.least 9223372036854775807 = true → ∀ (σ : List Frm), CallsV cfg 143 [.agg (encF f)] σ (.val (.one (.int .u8 f.cls.n))) σ := by
  induction N with
  | zero => intro f h; have := f.size_pos; omega
  | succ N ih =>
  rintro ⟨k, t, m, l⟩ hN hsz hok hle σ
  refine w143 (by simp) ?_
  rw [s143]
  obtain ⟨hml, hll⟩ := Fm.least_parts hle
  rcases Fm.shape hok with ⟨rfl, rfl⟩ | ⟨hk, y, x, rfl, hy, hx⟩ | ⟨hk, ht, x, rfl, hx⟩
  · rw [cls_eq]
    simp [Cls.n]
  · rw [cls_two hk]
    have hyl := hll y (by simp)
    have hxl := hll x (by simp)
    simp at hN hsz
    have h2 : ¬ k = 1 := by omega
    simp [wrap_id, h2]
    refine opV_call (ih x (by omega) (by omega) hx hxl _) (by simp) ?_
    rcases hk with rfl | rfl
    · simp
      refine opV_call (ih y (by omega) (by omega) hy hyl _) (by simp) ?_
      simp [uand_n, uand6, uor_n, uand1]
    · simp
      refine opV_call (ih y (by omega) (by omega) hy hyl _) (by simp) ?_
      simp [uand_n, uand6, uor_n, uand1]
  · rw [cls_q hk]
    generalize hc5 : (if k = 5 then true else x.cls.c) = c5
    have hxl := hll x (by simp)
    have hb := c167 (.mk k t m [x]) hsz hok hle
    simp at hN hsz
    have hbb := bound_body (k := k) (t := t) (m := m) hx
    generalize hbd : (Fm.mk k t m [x]).bound = B at hb hbb
    have h1 : ¬ k = 1 := by omega
    have h2 : ¬ k = 2 := by omega
    have h3 : ¬ k = 3 := by omega
    simp [wrap_id, h1, h2, h3]
    refine opV_call (ih x (by omega) (by omega) hx hxl _) (by simp) ?_
    have fin : B.2.2.2 = true → ∃ y z t2 m2 k2, x = .mk k2 t2 m2 [y, z] ∧ B.2.2.1 = z ∧ ∀ (σ : List Frm), CallsV cfg 143 [.agg (encF z)] σ (.val (.one (.int .u8 z.cls.n))) σ := by
      intro hB
      obtain ⟨y, z, t2, m2, k2, rfl, hy, hz, he⟩ := hbb hB
      obtain ⟨_, hxk⟩ := Fm.least_parts hxl
      simp at hN hsz
      exact ⟨y, z, t2, m2, k2, rfl, he, ih z (by omega) (by omega) hz (hxk z (by simp))⟩
    by_cases h5 : k = 5
    · subst h5
      simp at hc5
      simp [uor1, uand1]
      refine opV_call (hb _) (by simp) ?_
      simp [encB]
      cases hB : B.2.2.2 with
      | false => simp [← hc5]
      | true =>
        obtain ⟨y, z, t2, m2, k2, rfl, he, hz⟩ := fin hB
        simp [he]
        refine opV_call (hz _) (by simp) ?_
        simp [uand4, uor_n, ← hc5, Fm.kids]
    · have h5' : (k == 5) = false := by simpa using h5
      rw [if_neg h5] at hc5
      simp [h1, h2, h3, h5, h5', uand1]
      refine opV_call (hb _) (by simp) ?_
      simp [encB]
      cases hB : B.2.2.2 with
      | false => simp [← hc5]
      | true =>
        obtain ⟨y, z, t2, m2, k2, rfl, he, hz⟩ := fin hB
        simp [he]
        refine opV_call (hz _) (by simp) ?_
        simp [uand4, uor_n, ← hc5, Fm.kids]
theorem c143' (f : Fm) (hsz : f.size ≤ 549755813888) (hok : f.ok = true) (hle : f.least 9223372036854775807 = true) (σ : List Frm) : CallsV cfg 143 [.agg (encF f)] σ (.val (.one (.int .u8 f.cls.n))) σ := c143 f.size f (Nat.le_refl _) hsz hok hle σ
def stripA : Fm → List Ty × Fm
  | .mk k t m [x] => if k = 4 then (t :: (stripA x).1, (stripA x).2) else ([], .mk k t m [x])
  | f => ([], f)
theorem stripA_no {k : Int} {t : Ty} {m : List Tm} {l : List Fm} (h : k ≠ 4) : stripA (.mk k t m l) = ([], .mk k t m l) := by
  unfold stripA
  split
  · rename_i e; cases e; rw [if_neg h]
  · rfl
theorem stripA_4 {t : Ty} {m : List Tm} {x : Fm} : stripA (.mk 4 t m [x]) = (t :: (stripA x).1, (stripA x).2) := by simp [stripA]
def i142 (f : Fm) (σ : List Frm) (n : Nat) : St → Prop
  | ⟨env, loc, σ', live⟩ => ∃ g ts ow, g.size ≤ n ∧ g.ok = true ∧ g.size ≤ 549755813888 ∧ ts.length + g.size ≤ f.size ∧ (ts ++ (stripA g).1, (stripA g).2) = stripA f ∧ env 1 = .one (.box σ.length 1 0 0) ∧ env 3 = .one (.box σ.length 3 0 0) ∧ env 4 = .one (.slice ow 2 (ts.map enc)) ∧
    loc 1 = [encF g] ∧ loc 3 = [z29] ∧ σ' = σ ∧ okOwn live ow
theorem c142 (f : Fm) (hsz : f.size ≤ 549755813888) (hok : f.ok = true) (σ : List Frm) : CallsV cfg 142 [.agg (encF f)] σ (.val (.tup [.one (.slice .no 2 ((stripA f).1.map enc)), .agg (encF (stripA f).2)])) σ := by
  refine w142 (by simp) ?_
  rw [s142]
  simp
  refine wpP_loop (i142 f σ) f.size ⟨f, [], .full, by omega, hok, hsz, by simp, by simp, by simp, by simp, by simp, by simp, by simp [z29], rfl, by simp⟩ ?_
  rintro n ⟨env, loc, σ', live⟩ ⟨g, ts, ow, hn, hgo, hgs, hlen, he, e1, e3, e4, l1, l3, rfl, how⟩
  obtain ⟨k, t, m, l⟩ := g
  by_cases hk : k = 4
  · subst hk
    obtain ⟨x, rfl, hx⟩ : ∃ x, l = [x] ∧ x.ok = true := by
      rcases Fm.shape hgo with ⟨h, _⟩ | ⟨h, _⟩ | ⟨_, _, x, h, hx⟩
      · omega
      · omega
      · exact ⟨x, h, hx⟩
    rw [stripA_4] at he
    simp at hn hgs hlen
    have hts := t.size_pos
    simp [e1, e3, e4, l1]
    refine wpP_draw (fun _ _ _ => false) ?_
    simp [e1, e3, e4, l1]
    refine stepD_call (c144 t (by omega) _) (by simp) ?_
    simp [e1, e3, e4, l1, how]
    refine ⟨by omega, by omega, loopK_normal x.size (by omega) ⟨x, ts ++ [t], .tip live.nx, by omega, hx, by omega, by simp; omega, ?_, by simp, by simp, by simp, by simp, by simp [l3], rfl, grown_on⟩⟩
    rw [← he]
    simp
  · rw [stripA_no hk] at he
    simp [e1, e3, e4, l1, l3, hk]
    refine wpP_draw (fun _ _ _ => false) ?_
    rw [← he]
    simp [e1, e3, e4, l1, l3, z29]
end Go.Proofs.YtbcejphjmghkbaaDoor.V


set_option maxRecDepth 100000
namespace Go.Proofs.YtbcejphjmghkbaaDoor.V
open Go Go.Proofs
theorem stripA_facts (f : Fm) : (f.ok = true → (stripA f).2.ok = true) ∧ (∀ m, f.least m = true → (stripA f).2.least m = true) ∧ (stripA f).2.size ≤ f.size := by
  induction f using Fm.ind with
  | _ k t m l ih =>
    by_cases hk : k = 4
    · subst hk
      by_cases hl : ∃ x, l = [x]
      · obtain ⟨x, rfl⟩ := hl
        rw [stripA_4]
        obtain ⟨h1, h2, h3⟩ := ih x (by simp)
        refine ⟨fun h => h1 ((Fm.ok_parts h).2 x (by simp)), fun n h => h2 n ((Fm.least_parts h).2 x (by simp)), ?_⟩
        simp
        omega
      · have e : stripA (.mk 4 t m l) = ([], .mk 4 t m l) := by
          unfold stripA
          split
          · rename_i x e; cases e; exact absurd ⟨_, rfl⟩ hl
          · rfl
        rw [e]
        exact ⟨id, fun _ => id, Nat.le_refl _⟩
    · rw [stripA_no hk]
      exact ⟨id, fun _ => id, Nat.le_refl _⟩
theorem uand4' (x : Cls) : uand x.n 4 = if x.d = true then 4 else 0 := by
  obtain ⟨a, b, c⟩ := x
  cases a <;> cases b <;> cases c <;> rfl
theorem uand1' (x : Cls) : uand x.n 1 = if x.c = true then 1 else 0 := by
  obtain ⟨a, b, c⟩ := x
  cases a <;> cases b <;> cases c <;> rfl
def Fm.task (f : Fm) : List Ty × Ty × Fm × Bool :=
  if f.check ≠ 0 then ([], .zero, .zeroF, false)
  else if (stripA f).2.kind ≠ 5 ∨ ((stripA f).2.kid 0).cls.d = false then ([], .zero, .zeroF, false)
  else ((stripA f).1, (stripA f).2.ty, (stripA f).2.kid 0, true)
def encK (r : List Ty × Ty × Fm × Bool) : PV := .tup [.one (.slice .no 2 (r.1.map enc)), .agg (enc r.2.1), .agg (encF r.2.2.1), .one (.bool r.2.2.2)]
theorem c103 (f : Fm) (hsz : f.size ≤ 549755813888) (hle : f.least 9223372036854775807 = true) (σ : List Frm) : CallsV cfg 103 [.agg (encF f)] σ (.val (encK f.task)) σ := by
  refine w103 (by simp [encK]) ?_
  rw [s103]
  simp
  refine opV_call (c75 f (by omega) _) (by simp) ?_
  by_cases hc : f.check = 0
  rotate_left
  · have hc' : (f.check == 0) = false := by simpa using hc
    simp [hc, hc', bne, Fm.task, encK, Fm.zeroF, Ty.zero, resPV]
  obtain ⟨hok, _⟩ := Fm.check_ok2 hc
  obtain ⟨g1, g2, g3⟩ := stripA_facts f
  have hgo := g1 hok
  have hgl := g2 _ hle
  simp [hc]
  refine opV_call (c142 f hsz hok _) (by simp) ?_
  simp [Fm.task, hc]
  generalize (stripA f).1 = ts
  generalize (stripA f).2 = g at g3 hgo hgl
  obtain ⟨k, t, m, l⟩ := g
  by_cases hk : k = 5
  rotate_left
  · have hk' : (k == 5) = false := by simpa using hk
    simp [hk, hk', bne, Fm.kind]
    simp [encK, Fm.zeroF, Ty.zero, resPV]
  subst hk
  obtain ⟨x, rfl, hx⟩ : ∃ x, l = [x] ∧ x.ok = true := by
    rcases Fm.shape hgo with ⟨h, _⟩ | ⟨h, _⟩ | ⟨_, _, x, h, hx⟩
    · omega
    · omega
    · exact ⟨x, h, hx⟩
  obtain ⟨_, hxl⟩ := Fm.least_parts hgl
  simp at g3
  have hts := t.size_pos
  simp [Fm.kind, Fm.kid, Fm.kids, Fm.ty]
  refine opV_call (c143' x (by omega) hx (hxl x (by simp)) _) (by simp) ?_
  cases hd : x.cls.d with
  | false =>
    simp [uand4', hd]
    simp [encK, Fm.zeroF, Ty.zero, resPV]
  | true =>
    simp [uand4', hd]
    refine wpP_draw (fun _ t _ => decide (t = 3 ∨ t = 4)) ?_
    simp
    refine stepD_call (c144 t (by omega) _) (by simp) ?_
    simp
    refine stepD_call (c145 x (by omega) _) (by simp) ?_
    simp [encK, resPV]
theorem c104 (f : Fm) (hsz : f.size ≤ 549755813888) (hle : f.least 9223372036854775807 = true) (b : Int) (σ : List Frm) : CallsV cfg 104 [.agg (encF f), .one (.int .u8 b)] σ (.val (.tup [.one (.bool (if f.check = 0 then (uand f.cls.n b != 0) else false)), .one (.int .i64 f.check)])) σ := by
  refine w104 (by simp) ?_
  rw [s104]
  simp
  refine opV_call (c75 f (by omega) _) (by simp) ?_
  by_cases hc : f.check = 0
  rotate_left
  · have hc' : (f.check == 0) = false := by simpa using hc
    simp [hc, hc', bne]
  obtain ⟨hok, _⟩ := Fm.check_ok2 hc
  simp [hc]
  refine opV_call (c143' f hsz hok hle _) (by simp) ?_
  simp
theorem c45 (f : Fm) (hsz : f.size ≤ 549755813888) (hle : f.least 9223372036854775807 = true) (σ : List Frm) : CallsV cfg 45 [.agg (encF f)] σ (.val (.tup [.one (.bool (hasOf f)), .one (.int .i64 f.check)])) σ := by
  refine w45 (by simp) ?_
  rw [s45]
  simp
  refine opV_call (c104 f hsz hle 1 _) (by simp) ?_
  unfold hasOf
  by_cases hc : f.check = 0
  · have hh := cls_has f (Fm.check_ok2 hc).1
    cases hf : f.has with
    | false => rw [hf] at hh; simp [hc, uand1', hh]
    | true => rw [hf] at hh; simp [hc, uand1', hh]
  · simp [hc]
def sane0 : Fm := .q 4 .nat (.q 5 .nat (.eq (.var 0) (.var 1)))
theorem sane0_ok : sane0.ok = true := Fm.q_ok (.inl rfl) Ty.nat_check (Fm.q_ok (.inr (.inl rfl)) Ty.nat_check (Fm.eq_ok (Tm.var_ok (by omega)) (Tm.var_ok (by omega))))
theorem sane0_size : sane0.size ≤ 64 := by simp [sane0, Fm.eq, Tm.var, Ty.zero]
theorem sane0_least : sane0.least 9223372036854775807 = true := Fm.q_least (Fm.q_least (Fm.eq_least (Tm.var_least (by omega)) (Tm.var_least (by omega))))
theorem sane0_task : sane0.task = ([.nat], .nat, .eq (.var 0) (.var 1), true) := by
  have hc : sane0.check = 0 := Fm.check_lt sane0_ok (by have := sane0_size; omega)
  have hs : stripA sane0 = ([.nat], .q 5 .nat (.eq (.var 0) (.var 1))) := by simp [sane0, Fm.q, stripA, Fm.eq]
  simp [Fm.task, hc, hs, Fm.q, Fm.kind, Fm.kid, Fm.kids, Fm.ty, Fm.eq, cls_eq]
theorem c44 (σ : List Frm) : CallsV cfg 44 [] σ (.val (.one (.bool true))) σ := by
  refine w44 (by simp) ?_
  rw [s44]
  simp
  refine opV_call (c73 _) (by simp) ?_
  simp
  refine wpP_draw (fun _ _ _ => false) ?_
  simp
  refine stepD_call (c93 0 _) (by simp) ?_
  simp
  refine stepD_call (c93 1 _) (by simp) ?_
  simp
  refine stepD_call (c74 (.var 0) (.var 1) (by simp [Tm.var, Ty.zero]) (by simp [Tm.var, Ty.zero]) _) (by simp) ?_
  simp
  refine stepD_call (c47 5 .nat (.eq (.var 0) (.var 1)) (by simp) (by simp [Fm.eq, Tm.var, Ty.zero]) _) (by simp [Ty.nat]) ?_
  simp
  refine stepD_call (c47 4 .nat (.q 5 .nat (.eq (.var 0) (.var 1))) (by simp) (by simp [Fm.eq, Tm.var, Ty.zero]) _) (by simp [Ty.nat]) ?_
  simp
  have h := c103 sane0 (by have := sane0_size; omega) sane0_least
  rw [sane0_task] at h
  refine stepD_call (h _) (by simp [sane0]) ?_
  simp [encK]
  refine opV_call (c26 .nat .nat (by simp) _) (by simp [Ty.nat]) ?_
  simp [Ty.same_refl, Fm.eq]
@[simp] theorem binF_neq4 (a b : Bool) : binF cfg .neq 4 (.one (.bool a)) (.one (.bool b)) = some (.one (.bool (!(a == b)))) := by simp [binF]
@[simp] theorem binF_eql4 (a b : Bool) : binF cfg .eql 4 (.one (.bool a)) (.one (.bool b)) = some (.one (.bool (a == b))) := by simp [binF]
theorem has_two2 (a b : Fm) : (Fm.two 2 a b).has = (a.has || b.has) := by simp [Fm.two, Fm.has_mk]
theorem has_two3 (a b : Fm) : (Fm.two 3 a b).has = b.has := by simp [Fm.two, Fm.has_mk]
theorem has_q {k : Int} (hk : k = 4 ∨ k = 5 ∨ k = 6 ∨ k = 7) (t : Ty) (a : Fm) : (Fm.q k t a).has = (a.has || decide (k = 5)) := by
  rcases hk with rfl | rfl | rfl | rfl <;> simp [Fm.q, Fm.has_mk]
theorem hasOf_eq {f : Fm} (h : f.check = 0) : hasOf f = f.has := by simp [hasOf, h]
def i7 (s : Ty) (f : Fm) (L : List Int) (σ : List Frm) (j : Nat) : St → Prop
  | ⟨env, loc, σ', _⟩ => env 5 = .one (.box σ.length 5 0 0) ∧ env 7 = .one (.box σ.length 7 0 0) ∧ env 8 = .one (.bool f.has) ∧ env 88 = .one (.slice .full 1 (encI L)) ∧ env 89 = .one (.int .i64 4) ∧ env 90 = .one (.int .i64 j) ∧
    loc 5 = [encF f] ∧ loc 7 = [enc s] ∧ σ' = σ
theorem law7 (l : List Int) (hi : i64s l) (σ : List Frm) : CallsV cfg 7 [.one (.slice .no 1 (encI l))] σ (.val (.one (.bool true))) σ := by
  refine w7 (by simp) ?_
  rw [s7]
  simp
  refine opV_call (c44 _) (by simp) ?_
  simp
  refine opV_call (c16 l _) (by simp) ?_
  by_cases hl : l.length ≤ 500
  rotate_left
  · simp [hl]
  simp [hl]
  have hd : Dk l := ⟨by omega, hi⟩
  refine opV_new (c21 l _) (by simp) ?_
  simp
  refine opV_own1 (d33 hd ⟨σ.length, 26, 0⟩ (List.suffix_refl l)) (by simp) (by simp [Pl.ptr]) ?_
  have hc := mkContext_good l
  have hcs := mkContext_suf l
  generalize (mkContext l).1 = g at hc
  generalize (mkContext l).2 = r1 at hcs
  have hg : Good 64 g := fun x hx => ⟨(hc.1 x hx).1, by have := (hc.1 x hx).2; omega⟩
  simp
  refine opV_own1 (d23 hd ⟨σ.length, 26, 0⟩ 2 (by omega) g hg (by omega) hcs) (by simp) (by simp [Pl.ptr]) ?_
  obtain ⟨hf1, hf2⟩ := mkF0 2 (by omega) g r1 hc.1
  have hfl := mkFormula_least 2 g r1 9223372036854775807 hg (by omega)
  have hr2 := (mkFormula_suf 2 g r1).trans hcs
  generalize (mkFormula 2 g r1).1 = f at hf1 hf2 hfl
  generalize (mkFormula 2 g r1).2 = r2 at hr2
  simp
  refine opV_own1 (d23 hd ⟨σ.length, 26, 0⟩ 2 (by omega) g hg (by omega) hr2) (by simp) (by simp [Pl.ptr]) ?_
  obtain ⟨hh1, hh2⟩ := mkF0 2 (by omega) g r2 hc.1
  have hhl := mkFormula_least 2 g r2 9223372036854775807 hg (by omega)
  have hr3 := (mkFormula_suf 2 g r2).trans hr2
  generalize (mkFormula 2 g r2).1 = h at hh1 hh2 hhl
  generalize (mkFormula 2 g r2).2 = r3 at hr3
  simp
  refine opV_own1 (d42 hd ⟨σ.length, 26, 0⟩ 1 (by omega) hr3) (by simp) (by simp [Pl.ptr]) ?_
  obtain ⟨ht1, ht2⟩ := mkType1 r3
  generalize (mkType 1 r3).1 = s at ht1 ht2
  generalize (mkType 1 r3).2 = r4
  have hsc : s.check = 0 := Ty.check_iff.2 ⟨ht1, by omega⟩
  have fc := Fm.check_lt hf1 (by omega)
  have hhc := Fm.check_lt hh1 (by omega)
  have c2 := Fm.check_lt (Fm.two_ok (k := 2) (.inl rfl) hf1 hh1) (by simp; omega)
  have c3 := Fm.check_lt (Fm.two_ok (k := 3) (.inr rfl) hf1 hh1) (by simp; omega)
  simp
  refine opV_call (c45 f (by omega) hfl _) (by simp) ?_
  rw [hasOf_eq fc]
  simp [fc]
  refine opV_call (c45 h (by omega) hhl _) (by simp) ?_
  rw [hasOf_eq hhc]
  simp [hhc]
  refine opV_call (c46 2 f h (by omega) (by omega) _) (by simp) ?_
  simp
  refine opV_call (c45 (.two 2 f h) (by simp; omega) (Fm.two_least hfl hhl) _) (by simp) ?_
  rw [hasOf_eq c2, has_two2]
  simp [c2]
  refine opV_call (c46 3 f h (by omega) (by omega) _) (by simp) ?_
  simp
  refine opV_call (c45 (.two 3 f h) (by simp; omega) (Fm.two_least hfl hhl) _) (by simp) ?_
  rw [hasOf_eq c3, has_two3]
  obtain ⟨L, hL⟩ : ∃ L : List Int, L = [4, 5, 6, 7] := ⟨_, rfl⟩
  have hLk : ∀ j, j < 4 → ∃ k : Int, L[j]? = some k ∧ (k = 4 ∨ k = 5 ∨ k = 6 ∨ k = 7) := by
    intro j hj
    subst hL
    have : j = 0 ∨ j = 1 ∨ j = 2 ∨ j = 3 := by omega
    rcases this with rfl | rfl | rfl | rfl
    · exact ⟨4, rfl, by omega⟩
    · exact ⟨5, rfl, by omega⟩
    · exact ⟨6, rfl, by omega⟩
    · exact ⟨7, rfl, by omega⟩
  cases hfh : f.has <;> cases hhh : h.has <;> simp [c3]
  all_goals
    refine wpP_range 4 (i7 s f L σ) (by omega) ⟨by simp, by simp, by simp [hfh], by simp [hL, encI], by simp, by simp, by simp, by simp, rfl⟩ ?_ ?_ (hend := ?_)
    · rintro j ⟨env, loc, σ', live⟩ ⟨e5, e7, e8, e88, e89, e90, l5, l7, rfl⟩
      exact ⟨e90, by simpa using e89⟩
    · rintro j ⟨env, loc, σ', live⟩ hj ⟨e5, e7, e8, e88, e89, e90, l5, l7, rfl⟩
      obtain ⟨k, hk, hk2⟩ := hLk j hj
      have cq := Fm.check_lt (Fm.q_ok hk2 hsc hf1) (by simp; omega)
      simp [e5, e7, e8, e88, e89, e90, l5, l7, encI_get hk]
      refine opV_call (c47 k s f (by omega) (by omega) _) (by simp) ?_
      simp [e5, e7, e8, e88, e89, e90, l5, l7]
      refine opV_call (c45 (.q k s f) (by simp; omega) (Fm.q_least hfl) _) (by simp) ?_
      rw [hasOf_eq cq, has_q hk2, hfh]
      by_cases h5 : k = 5
      · subst h5
        simp [cq, hfh, e5, e7, e8, e88, e89, e90, l5, l7]
        exact ⟨by simp, by simp, by simp [hfh], by simp, by simp, by simp, by simp [l5], by simp [l7], rfl⟩
      · have h5' : (k == 5) = false := by simpa using h5
        simp [cq, hfh, h5, h5', e5, e7, e8, e88, e89, e90, l5, l7]
        exact ⟨by simp, by simp, by simp [hfh], by simp, by simp, by simp, by simp [l5], by simp [l7], rfl⟩
    · rintro ⟨env, loc, σ', live⟩ ⟨e5, e7, e8, e88, e89, e90, l5, l7, rfl⟩
      simp
end Go.Proofs.YtbcejphjmghkbaaDoor.V


namespace Go.Proofs.YtbcejphjmghkbaaDoor.V
open Go Go.RowKit
section
variable {H : Type} {henc : TypeId × Value → H} {P : Program} {W : World} {M : Map}
def RepL (W : World) (M : Map) (cs : List Cell) (vs : List Value) : Prop := cs.length = vs.length ∧ ∀ (i : Nat) (c : Cell) (v : Value), cs[i]? = some c → vs[i]? = some v → RepC W M c v
theorem RepL.app {a b : List Cell} {va vb : List Value} (h : RepL W M a va) (k : RepL W M b vb) : RepL W M (a ++ b) (va ++ vb) := by
  refine ⟨by simp [h.1, k.1], fun i c v hc hv => ?_⟩
  by_cases hi : i < a.length
  · rw [List.getElem?_append_left hi] at hc
    rw [List.getElem?_append_left (by rw [← h.1]; exact hi)] at hv
    exact h.2 i c v hc hv
  · rw [List.getElem?_append_right (by omega)] at hc
    rw [List.getElem?_append_right (by rw [← h.1]; omega), ← h.1] at hv
    exact k.2 _ c v hc hv
theorem RepL.one {c : Cell} {v : Value} (h : RepC W M c v) : RepL W M [c] [v] := by
  refine ⟨rfl, fun i c' v' hc hv => ?_⟩
  cases i with
  | zero => cases hc; cases hv; exact h
  | succ i => simp at hc
abbrev tr (henc : TypeId × Value → H) (P : Program) (W : World) (n : Nat) (t : TypeId) (cs : List Value) : Option (DataW H × List MemPlace) := DataW.trod henc P W 0 (fun _ => true) true n t cs
theorem mapM_get {α β : Type} {f : α → Option β} : ∀ {l : List α} {r : List β}, l.mapM f = some r → r.length = l.length ∧ ∀ (i : Nat) (x : α), l[i]? = some x → f x = r[i]?
  | [], r, h => by simp at h; subst h; simp
  | x :: l, r, h => by
    simp only [List.mapM_cons, Option.bind_eq_bind, Option.bind_eq_some_iff, Option.pure_def, Option.some.injEq] at h
    obtain ⟨y, h1, ys, h2, rfl⟩ := h
    obtain ⟨h3, h4⟩ := mapM_get h2
    refine ⟨by simp [h3], fun i z hz => ?_⟩
    cases i with
    | zero => simp at hz; subst hz; simpa using h1
    | succ i => simp at hz ⊢; exact h4 i z hz
theorem cells_get {base : Nat} {a : Addr} {n : Nat} {cs : List Value} (h : W.cells? base a n = some cs) : cs.length = n ∧ ∀ i, i < n → W.cell? (a.add i) = cs[i]? := by
  unfold World.cells? at h
  split at h
  · obtain ⟨h1, h2⟩ := mapM_get h
    refine ⟨by simpa using h1, fun i hi => ?_⟩
    exact h2 i i (by simp [hi])
  · cases h
theorem read_slice {α : Type} {encA : α → List Cell} {t e : TypeId} {sz fuel : Nat} {cs : List Value} {x : DataW H × List MemPlace} (hprot : ∀ b i v, W.cell? ⟨b, i, none⟩ = some v → i < M.prot b) (ht : P.underlying t = some (.slice e)) (hsz : P.cellsOf e = sz) (hpos : 0 < sz)
    (hread : ∀ n, n < fuel → ∀ cs x, tr henc P W n e cs = some x → ∃ a : α, RepL W M (encA a) cs) (h : tr henc P W fuel t cs = some x) : ∃ l : List α, RepL W M [.slice .no sz (l.map encA)] cs := by
  rcases DataW.trod_slice ht h with ⟨rfl, _⟩ | ⟨a, len, cap, elems, rest, n, rfl, rfl, _, _, hlc, _, hlen, hel, _, _⟩
  · exact ⟨[], .one (.nil _ _ _ _ (fun h => by cases h))⟩
  · rw [hsz] at hel
    have key : ∀ i, i < len → ∃ (y : α) (vs : List Value), W.cells? 0 (a.add (i * sz)) sz = some vs ∧ RepL W M (encA y) vs := by
      intro i hi
      have h1 := hel i hi
      rw [List.getElem?_eq_getElem (by omega)] at h1
      obtain ⟨vs, h2, h3⟩ := Option.bind_eq_some_iff.1 h1
      obtain ⟨y, hy⟩ := hread n (by omega) vs _ h3
      exact ⟨y, vs, h2, hy⟩
    have hl : ∃ l : List α, l.length = len ∧ ∀ (i : Nat) (y : α), l[i]? = some y → ∃ vs, W.cells? 0 (a.add (i * sz)) sz = some vs ∧ RepL W M (encA y) vs := by
      clear hel hlen
      have : ∀ m, m ≤ len → ∃ l : List α, l.length = m ∧ ∀ (i : Nat) (y : α), l[i]? = some y → ∃ vs, W.cells? 0 (a.add (i * sz)) sz = some vs ∧ RepL W M (encA y) vs := by
        intro m
        induction m with
        | zero => intro _; exact ⟨[], rfl, fun i y h => by simp at h⟩
        | succ m ih =>
          intro hm
          obtain ⟨l, h1, h2⟩ := ih (by omega)
          obtain ⟨y, vs, h3, h4⟩ := key m (by omega)
          refine ⟨l ++ [y], by simp [h1], fun i z hz => ?_⟩
          by_cases hi : i < l.length
          · rw [List.getElem?_append_left hi] at hz; exact h2 i z hz
          · rw [List.getElem?_append_right (by omega)] at hz
            have : i = m := by
              have := (List.getElem?_eq_some_iff.1 hz).1
              simp at this
              omega
            subst this
            rw [h1] at hz
            simp at hz
            subst hz
            exact ⟨vs, h3, h4⟩
      exact this len (Nat.le_refl _)
    obtain ⟨l, hll, hl⟩ := hl
    refine ⟨l, .one ?_⟩
    cases hz : l with
    | nil =>
      rw [hz] at hll
      simp at hll
      subst hll
      exact .nil _ _ _ _ (fun h => by cases h)
    | cons y0 l0 =>
      have hspot : a.spot = none := by
        obtain ⟨vs, h2, h3⟩ := hl 0 y0 (by rw [hz]; try rfl)
        obtain ⟨h4, h5⟩ := cells_get h2
        have h6 := h5 0 hpos
        rw [List.getElem?_eq_getElem (by omega)] at h6
        have := World.cell?_spot h6
        simpa [Addr.add] using this
      obtain ⟨b, off, spot⟩ := a
      simp only at hspot
      subst hspot
      rw [← hz]
      have hcell : ∀ (j i : Nat) (y : α) (c : Cell), l[j]? = some y → (encA y)[i]? = some c → (∃ v, W.cell? ⟨b, off + (j * sz + i), none⟩ = some v ∧ RepC W M c v) ∧ (encA y).length = sz := by
        intro j i y c hy hc
        obtain ⟨vs, h2, h3⟩ := hl j y hy
        obtain ⟨h4, h5⟩ := cells_get h2
        have hi := (List.getElem?_eq_some_iff.1 hc).1
        have hle : (encA y).length = sz := by rw [h3.1, h4]
        have h6 := h5 i (by omega)
        rw [List.getElem?_eq_getElem (by omega)] at h6
        refine ⟨⟨_, ?_, h3.2 i c _ hc (List.getElem?_eq_getElem (by omega))⟩, hle⟩
        rw [← h6]
        congr 1
        simp only [Addr.add]
        repeat' split
        all_goals first
          | (simp_all; done)
          | (simp; omega)
      have hlens : ∀ y ∈ l, (encA y).length = sz := by
        intro y hy
        obtain ⟨j, hj⟩ := List.getElem?_of_mem hy
        obtain ⟨vs, h2, h3⟩ := hl j y hj
        rw [h3.1, (cells_get h2).1]
      rw [← hll]
      have hcap : l.length ≤ cap := by omega
      have hf := RepC.slice (w := W) (M := M) .no sz (l.map encA) b off cap (fun j i => (W.cell? ⟨b, off + (j * sz + i), none⟩).getD undef) (fun e he => by
          obtain ⟨y, hy, rfl⟩ := List.mem_map.1 he; exact hlens y hy) ?_ (fun h => by cases h) (by simpa using hcap) ?_ ?_
      · simpa using hf
      · -- the last cell
        have hne : l.length - 1 < l.length := by rw [hz]; simp
        obtain ⟨y, hy⟩ : ∃ y, l[l.length - 1]? = some y := ⟨_, List.getElem?_eq_getElem hne⟩
        have hly := hlens y (List.mem_of_getElem? hy)
        obtain ⟨c, hc⟩ : ∃ c, (encA y)[sz - 1]? = some c := ⟨_, List.getElem?_eq_getElem (by omega)⟩
        obtain ⟨⟨v, hv, _⟩, _⟩ := hcell _ _ y c hy hc
        have := hprot _ _ _ hv
        rw [List.length_map]
        have e : l.length * sz = (l.length - 1) * sz + sz := by
          rw [Nat.sub_mul, Nat.one_mul]
          have : sz ≤ l.length * sz := Nat.le_mul_of_pos_left _ (by omega)
          omega
        omega
      · intro j i es c hj hi
        rw [List.getElem?_map] at hj
        obtain ⟨y, hy, rfl⟩ := Option.map_eq_some_iff.1 hj
        obtain ⟨⟨v, hv, _⟩, _⟩ := hcell j i y c hy hi
        rw [hv]; try rfl
      · intro j i es c hj hi
        rw [List.getElem?_map] at hj
        obtain ⟨y, hy, rfl⟩ := Option.map_eq_some_iff.1 hj
        obtain ⟨⟨v, hv, hr⟩, _⟩ := hcell j i y c hy hi
        rw [hv]; exact hr
theorem read_int {t : TypeId} {k : IntKind} {fuel : Nat} {cs : List Value} {x : DataW H × List MemPlace} (ht : P.underlying t = some (.int k)) (h : tr henc P W fuel t cs = some x) : ∃ n, (Lit.int k n).wf = true ∧ RepL W M [.int k n] cs := by
  obtain ⟨n, rfl, _, h2⟩ := DataW.trod_int ht h
  exact ⟨n, h2, .one (.int k n)⟩
theorem wf_i64 {n : Int} (h : (Lit.int .i64 n).wf = true) : -9223372036854775808 ≤ n ∧ n ≤ 9223372036854775807 := by
  simp only [Lit.wf, Bool.and_eq_true, decide_eq_true_eq] at h
  have e1 : IntKind.min .i64 = -9223372036854775808 := by decide
  have e2 : IntKind.max .i64 = 9223372036854775807 := by decide
  rw [e1, e2] at h
  exact h
def structOf (P : Program) (t : TypeId) : List (TypeId × Nat) := match P.underlying t with
  | some (.struct fs) => fs.toList.map fun f => (f.type, f.offset)
  | _ => []
theorem read_struct {t : TypeId} {l : List (TypeId × Nat)} {n : Nat} {cs : List Value} {x : DataW H × List MemPlace} (hs : structOf P t = l) (hne : l ≠ []) (h : tr henc P W n t cs = some x) :
    ∃ m, n = m + 1 ∧ cs.length = P.cellsOf t ∧ ∀ (j tj oj : Nat), l[j]? = some (tj, oj) → ∃ y, tr henc P W m tj ((cs.drop oj).take (P.cellsOf tj)) = some y := by
  unfold structOf at hs
  split at hs
  · rename_i fs hu
    obtain ⟨xs, m, rfl, _, hl, hxs, hel⟩ := DataW.trod_struct hu h
    refine ⟨m, rfl, hl, fun j tj oj hj => ?_⟩
    rw [← hs, List.getElem?_map] at hj
    obtain ⟨f, hf, he⟩ := Option.map_eq_some_iff.1 hj
    cases he
    have hf' : fs[j]? = some f := by simpa using hf
    have hlt : j < xs.length := by rw [hxs]; exact (Array.getElem?_eq_some_iff.1 hf').1
    exact ⟨xs[j], (hel j f hf').trans (List.getElem?_eq_getElem hlt)⟩
  · exact absurd hs.symm hne
noncomputable def map0 (W : World) : Map := ⟨fun b => match W.heap[b]? with
  | some (.cells c _ _) => c.size
  | _ => 0, fun _ _ _ => .none, fun _ => .none⟩
theorem map0_prot (W : World) : ∀ b i v, W.cell? ⟨b, i, .none⟩ = some v → i < (map0 W).prot b := by
  intro b i v h
  unfold World.cell? at h
  simp only [map0]
  split at h
  · rename_i c _ _ hb
    rw [hb]
    simp at h
    exact (Array.getElem?_eq_some_iff.1 h).1
  · cases h
theorem base0 {C : Cfg} {W : World} (hg : Globs C W (map0 W)) : Base C W (map0 W) [] := by
  have hn : ∀ d t v b, (map0 W).box d t v ≠ some b := fun d t v b h => by simp [map0] at h
  refine ⟨fun d t v b h => absurd h (hn d t v b), fun d t v d' t' v' b h => absurd h (hn d t v b), hg, fun b hb => ?_⟩
  simp only [map0]
  rw [Array.getElem?_eq_none hb]
theorem law_calls {C : Cfg} {f : FuncId} {ps : List PV} (h : CallsV C f ps [] (.val (.one (.bool true))) []) {W : World} (hg : Globs C W (map0 W)) {args : Array Value} (hl : args.size = ps.length) (ha : ∀ (i : Nat) (p : PV), ps[i]? = some p → RepV W (map0 W) p (args.getD i undef)) :
    Calls C.P f args W fun e W' => e = .returned (.bool true) ∧ Below W.heap.size W W' := by
  obtain ⟨_, _, h⟩ := h
  refine (h W (map0 W) args (base0 hg) hl ha).mono fun e W' ⟨M', v, he, hk, _, _, hr⟩ => ?_
  subst he
  refine ⟨?_, ⟨hk.os, hk.tape, hk.output, hk.size, fun b hb => hk.keep b hb fun d t v h => by cases h⟩⟩
  obtain ⟨_, hr⟩ := hr
  cases hr with
  | one c v h => cases h; rfl
theorem repV_one {W : World} {M : Map} {c : Cell} {v : Value} (h : RepL W M [c] v.cells.toList) (hv : v.cells.toList = [v]) : RepV W M (.one c) v := by
  rw [hv] at h
  exact .one c v (h.2 0 c v rfl rfl)
theorem repV_agg {W : World} {M : Map} {cs : List Cell} {vs : Array Value} (h : RepL W M cs (Value.cells (.agg vs)).toList) : RepV W M (.agg cs) (.agg vs) := by
  have e : (Value.cells (.agg vs)).toList = vs.toList := rfl
  rw [e] at h
  refine .agg cs vs (by simpa using h.1.symm) fun i c hc => ?_
  have hi : i < vs.size := by have := (List.getElem?_eq_some_iff.1 hc).1; have := h.1; simp at this; omega
  have := h.2 i c (vs.getD i undef) hc (by simp [Array.getD, hi])
  exact this
end
end Go.Proofs.YtbcejphjmghkbaaDoor.V


set_option maxRecDepth 100000
namespace Go.Proofs.YtbcejphjmghkbaaDoor.V
open Go Go.Proofs Go.RowKit Go.ChangeShapes Go.WideShapes Go.ChangeAt
section
variable {H : Type} {henc : TypeId × Value → H} {W : World}
theorem st25 : structOf Tryd.prog 25 = [(3, 0), (23, 1)] := by kernel_rfl
theorem st62 : structOf Tryd.prog 62 = [(3, 0), (3, 1), (25, 2), (26, 4)] := by kernel_rfl
theorem st29 : structOf Tryd.prog 29 = [(3, 0), (25, 1), (26, 3), (27, 4)] := by kernel_rfl
theorem st31 : structOf Tryd.prog 31 = [(23, 0), (27, 1)] := by kernel_rfl
theorem un3 : Tryd.prog.underlying 3 = some (.int .i64) := by kernel_rfl
theorem un4 : Tryd.prog.underlying 4 = some .bool := by kernel_rfl
theorem un22 : Tryd.prog.underlying 22 = some (.slice 3) := by kernel_rfl
theorem un23 : Tryd.prog.underlying 23 = some (.slice 25) := by kernel_rfl
theorem un26 : Tryd.prog.underlying 26 = some (.slice 62) := by kernel_rfl
theorem un27 : Tryd.prog.underlying 27 = some (.slice 29) := by kernel_rfl
theorem ce3 : Tryd.prog.cellsOf 3 = 1 := by kernel_rfl
theorem ce22 : Tryd.prog.cellsOf 22 = 1 := by kernel_rfl
theorem ce23 : Tryd.prog.cellsOf 23 = 1 := by kernel_rfl
theorem ce25 : Tryd.prog.cellsOf 25 = 2 := by kernel_rfl
theorem ce26 : Tryd.prog.cellsOf 26 = 1 := by kernel_rfl
theorem ce27 : Tryd.prog.cellsOf 27 = 1 := by kernel_rfl
theorem ce29 : Tryd.prog.cellsOf 29 = 5 := by kernel_rfl
theorem ce31 : Tryd.prog.cellsOf 31 = 2 := by kernel_rfl
theorem ce62 : Tryd.prog.cellsOf 62 = 5 := by kernel_rfl
theorem read_ty : ∀ (n : Nat) (cs : List Value) (x : DataW H × List MemPlace), tr henc Tryd.prog W n 25 cs = some x → ∃ t : Ty, RepL W (map0 W) (enc t) cs := by
  intro n
  induction n using Nat.strongRecOn with
  | ind n ih =>
  intro cs x h
  obtain ⟨m, rfl, hl, hf⟩ := read_struct st25 (by simp) h
  rw [ce25] at hl
  match cs, hl with
  | [a, b], _ =>
    obtain ⟨y0, h0⟩ := hf 0 3 0 rfl
    obtain ⟨y1, h1⟩ := hf 1 23 1 rfl
    rw [ce3] at h0
    rw [ce23] at h1
    obtain ⟨k, _, hk⟩ := read_int (M := map0 W) un3 h0
    obtain ⟨l, hl⟩ := read_slice (map0_prot W) un23 ce25 (by omega) (fun k hk cs x h => ih k (by omega) cs x h) h1
    refine ⟨.mk k l, ?_⟩
    rw [enc_mk]
    exact RepL.app hk hl
theorem read_tm : ∀ (n : Nat) (cs : List Value) (x : DataW H × List MemPlace), tr henc Tryd.prog W n 62 cs = some x → ∃ t : Tm, RepL W (map0 W) (encT t) cs := by
  intro n
  induction n using Nat.strongRecOn with
  | ind n ih =>
  intro cs x h
  obtain ⟨m, rfl, hl, hf⟩ := read_struct st62 (by simp) h
  rw [ce62] at hl
  match cs, hl with
  | [a, b, c, d, e], _ =>
    obtain ⟨y0, h0⟩ := hf 0 3 0 rfl
    obtain ⟨y1, h1⟩ := hf 1 3 1 rfl
    obtain ⟨y2, h2⟩ := hf 2 25 2 rfl
    obtain ⟨y3, h3⟩ := hf 3 26 4 rfl
    rw [ce3] at h0 h1
    rw [ce25] at h2
    rw [ce26] at h3
    obtain ⟨k, _, hk⟩ := read_int (M := map0 W) un3 h0
    obtain ⟨i, _, hi⟩ := read_int (M := map0 W) un3 h1
    obtain ⟨t, ht⟩ := read_ty _ _ _ h2
    obtain ⟨l, hl⟩ := read_slice (map0_prot W) un26 ce62 (by omega) (fun k hk cs x h => ih k (by omega) cs x h) h3
    refine ⟨.mk k i t l, ?_⟩
    rw [encT_mk]
    exact RepL.app hk (RepL.app hi (RepL.app ht hl))
theorem read_fm : ∀ (n : Nat) (cs : List Value) (x : DataW H × List MemPlace), tr henc Tryd.prog W n 29 cs = some x → ∃ t : Fm, RepL W (map0 W) (encF t) cs := by
  intro n
  induction n using Nat.strongRecOn with
  | ind n ih =>
  intro cs x h
  obtain ⟨m, rfl, hl, hf⟩ := read_struct st29 (by simp) h
  rw [ce29] at hl
  match cs, hl with
  | [a, b, c, d, e], _ =>
    obtain ⟨y0, h0⟩ := hf 0 3 0 rfl
    obtain ⟨y1, h1⟩ := hf 1 25 1 rfl
    obtain ⟨y2, h2⟩ := hf 2 26 3 rfl
    obtain ⟨y3, h3⟩ := hf 3 27 4 rfl
    rw [ce3] at h0
    rw [ce25] at h1
    rw [ce26] at h2
    rw [ce27] at h3
    obtain ⟨k, _, hk⟩ := read_int (M := map0 W) un3 h0
    obtain ⟨t, ht⟩ := read_ty _ _ _ h1
    obtain ⟨q, hq⟩ := read_slice (map0_prot W) un26 ce62 (by omega) (fun k hk cs x h => read_tm k cs x h) h2
    obtain ⟨l, hl⟩ := read_slice (map0_prot W) un27 ce29 (by omega) (fun k hk cs x h => ih k (by omega) cs x h) h3
    refine ⟨.mk k t q l, ?_⟩
    rw [encF_mk]
    exact RepL.app hk (RepL.app ht (RepL.app hq hl))
theorem read_seq {n : Nat} {cs : List Value} {x : DataW H × List MemPlace} (h : tr henc Tryd.prog W n 31 cs = some x) : ∃ (ts : List Ty) (hs : List Fm), RepL W (map0 W) (encS ts hs) cs := by
  obtain ⟨m, rfl, hl, hf⟩ := read_struct st31 (by simp) h
  rw [ce31] at hl
  match cs, hl with
  | [a, b], _ =>
    obtain ⟨y0, h0⟩ := hf 0 23 0 rfl
    obtain ⟨y1, h1⟩ := hf 1 27 1 rfl
    rw [ce23] at h0
    rw [ce27] at h1
    obtain ⟨ts, ht⟩ := read_slice (map0_prot W) un23 ce25 (by omega) (fun k hk cs x h => read_ty k cs x h) h0
    obtain ⟨hs, hh⟩ := read_slice (map0_prot W) un27 ce29 (by omega) (fun k hk cs x h => read_fm k cs x h) h1
    exact ⟨ts, hs, RepL.app ht hh⟩
theorem read_nums {n : Nat} {cs : List Value} {x : DataW H × List MemPlace} (h : tr henc Tryd.prog W n 22 cs = some x) : ∃ l : List Int, i64s l ∧ RepL W (map0 W) [.slice .no 1 (encI l)] cs := by
  obtain ⟨l, hl⟩ := read_slice (α := {k : Int // -9223372036854775808 ≤ k ∧ k ≤ 9223372036854775807}) (encA := fun k => [.int .i64 k.1]) (map0_prot W) un22 ce3 (by omega) (fun k hk cs x h => by
    obtain ⟨n, h1, h2⟩ := read_int (M := map0 W) un3 h
    exact ⟨⟨n, wf_i64 h1⟩, h2⟩) h
  refine ⟨l.map (·.1), fun k hk => ?_, ?_⟩
  · obtain ⟨y, _, rfl⟩ := List.mem_map.1 hk
    exact y.2
  · have e : encI (l.map (·.1)) = l.map fun k => [.int .i64 k.1] := by simp [encI]
    rw [e]
    exact hl
end
def laidL : List (String × DataW Unit) := [("proofprograms/tree.arities", Rows.laid_proofprograms_tree_arities)]
theorem gArities : Tryd.prog.globalNamed "proofprograms/tree.arities" = some 0 := by kernel_rfl
theorem tArities : (Tryd.prog.globals[0]?).map (·.type) = some 186 := by kernel_rfl
theorem un186 : Tryd.prog.underlying 186 = some (.array 14 3) := by kernel_rfl
theorem ce186 : Tryd.prog.cellsOf 186 = 14 := by kernel_rfl
theorem own : ownKnob Tryd.prog.godebug = none := by kernel_rfl
theorem laidOut : laidOutB Tryd.prog = true := by kernel_rfl
theorem door_met (os : Os) (args : Array Value) : laidMetH Tryd.prog laidL ((World.doorLaid Tryd.prog 400 os).forCall (fun _ _ => 0) ⟨#[], args, []⟩).memory :=
  laidMetH_of_parts3 (fuel := 8) (laidMet_of_run' 8 (by kernel_rfl) (by kernel_rfl)) (by kernel_rfl) (by kernel_rfl)
def arityInts : List Int := [0, 0, 1, 2, 0, 1, 3, 0, 2, 3, 2, 1, 1, 0]
theorem arity_eq : arity = arityInts.map fun n => Cell.int .i64 n := rfl
theorem globs_of_laid {W : World} (h : laidMetH Tryd.prog laidL W) : Globs cfg W (map0 W) := by
  rw [MakeChecks.laidMetH_plain _ _ _ (by kernel_rfl)] at h
  obtain ⟨ps, ⟨g0, t0, cs0, f0, p0, q0, hg0, ht0, hv0, hd0, _, _⟩, _, _⟩ := h
  obtain rfl := Option.some.inj (gArities.symm.trans hg0)
  obtain rfl := Option.some.inj (tArities.symm.trans ht0)
  obtain ⟨xs, m, rfl, hx, hl, hxl, hel⟩ := DataW.trod_array un186 hd0
  rw [ce186] at hl
  have hxm : xs.map (·.1) = arityInts.map fun n => (DataW.lit (.int .i64 n) : DataW Unit) := by
    simp only [Prod.mk.injEq] at hx
    have := hx.1
    unfold Rows.laid_proofprograms_tree_arities at this
    injection this with this
    rw [← this]
    try rfl
  have key : ∀ (i : Nat) (n : Int), arityInts[i]? = some n → W.cell? ⟨0, i, none⟩ = some (.int .i64 n) := by
    intro i n hi
    have hi14 : i < 14 := (List.getElem?_eq_some_iff.1 hi).1
    have h1 := hel i hi14
    rw [ce3, Nat.mul_one] at h1
    have h2 : (xs.map (·.1))[i]? = some (.lit (.int .i64 n)) := by rw [hxm, List.getElem?_map, hi]; try rfl
    rw [List.getElem?_map] at h2
    obtain ⟨y, hy, hy2⟩ := Option.map_eq_some_iff.1 h2
    rw [hy] at h1
    obtain ⟨k, e1, e2, _⟩ := DataW.trod_int un3 h1
    have hk : k = n := by
      rw [e2] at hy2
      simp at hy2
      exact hy2
    subst hk
    have h3 := World.var?_cell hg0 hv0 i
    rw [h3]
    have h4 : (cs0.toList.drop i).take 1 = [Value.int .i64 k] := e1
    have h5 : cs0.toList[i]? = some (Value.int .i64 k) := by
      have := congrArg (fun l => l[0]?) h4
      simpa using this
    simpa using h5
  intro g cs hg
  have : g = 0 ∧ cs = arity := by
    simp only [cfg] at hg
    split at hg
    · rename_i e; exact ⟨e, (Option.some.inj hg).symm⟩
    · cases hg
  obtain ⟨rfl, rfl⟩ := this
  have hc := RepC.cptr (w := W) (M := map0 W) arity 0 0 0 (fun i => .int .i64 (arityInts.getD i 0)) ?_ ?_ ?_
  · exact hc
  · have := map0_prot W 0 13 _ (key 13 0 rfl)
    simp only [arity_eq, List.length_map]
    show 0 + 14 ≤ _
    omega
  · intro i c hi
    rw [arity_eq, List.getElem?_map] at hi
    obtain ⟨n, hn, _⟩ := Option.map_eq_some_iff.1 hi
    rw [Nat.zero_add, key i n hn, List.getD_eq_getElem?_getD, hn]
    try rfl
  · intro i c hi
    rw [arity_eq, List.getElem?_map] at hi
    obtain ⟨n, hn, rfl⟩ := Option.map_eq_some_iff.1 hi
    rw [List.getD_eq_getElem?_getD, hn]
    exact .int .i64 n
end Go.Proofs.YtbcejphjmghkbaaDoor.V
