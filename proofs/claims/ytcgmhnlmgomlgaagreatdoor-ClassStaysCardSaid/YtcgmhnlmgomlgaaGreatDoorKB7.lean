/-
Parts of the proof of one law, put together by program: part 7.
-/
import Derived.Test.YtcgmhnlmgomlgaaGreatDoorKB6
import Derived.Carry
import Derived.OpenShut
import Derived.LaidMore
import Derived.LaidLaws
import Derived.ProofKit
import Derived.ChangeShapes
import Derived.JoinedOf
import Derived.Stop.Joined
set_option linter.unusedSimpArgs false
set_option linter.unusedVariables false

set_option maxRecDepth 100000
namespace Go.Proofs.YtcgmhnlmgomlgaaGreatDoor.V
open Go Go.Proofs
def uand (a b : Int) : Int := IntKind.u8.wrap (BitVec.ofInt 8 a &&& BitVec.ofInt 8 b).toNat
def uor (a b : Int) : Int := IntKind.u8.wrap (BitVec.ofInt 8 a ||| BitVec.ofInt 8 b).toNat
@[simp] theorem intC_uand (a b : Int) : intC .and .u8 a b = some (.int .u8 (uand a b)) := rfl
@[simp] theorem intC_uor (a b : Int) : intC .or .u8 a b = some (.int .u8 (uor a b)) := rfl
theorem uand_n (x y : Cls) : uand x.n y.n = Cls.n ⟨x.c && y.c, x.q && y.q, x.d && y.d⟩ := by
  obtain ⟨a, b, c⟩ := x
  obtain ⟨d, e, f⟩ := y
  cases a <;> cases b <;> cases c <;> cases d <;> cases e <;> cases f <;> rfl
theorem uor_n (x y : Cls) : uor x.n y.n = Cls.n ⟨x.c || y.c, x.q || y.q, x.d || y.d⟩ := by
  obtain ⟨a, b, c⟩ := x
  obtain ⟨d, e, f⟩ := y
  cases a <;> cases b <;> cases c <;> cases d <;> cases e <;> cases f <;> rfl
theorem uand6 (x : Cls) : uand x.n 6 = Cls.n ⟨false, x.q, x.d⟩ := by have := uand_n x ⟨false, true, true⟩; simpa [Cls.n] using this
theorem uand1 (x : Cls) : uand x.n 1 = Cls.n ⟨x.c, false, false⟩ := by have := uand_n x ⟨true, false, false⟩; simpa [Cls.n] using this
theorem uand4 (x : Cls) : uand x.n 4 = Cls.n ⟨false, false, x.d⟩ := by have := uand_n x ⟨false, false, true⟩; simpa [Cls.n] using this
theorem uor1 (x : Cls) : uor x.n 1 = Cls.n ⟨true, x.q, x.d⟩ := by have := uor_n x ⟨true, false, false⟩; simpa [Cls.n] using this
theorem bound_body {k : Int} {t : Ty} {m : List Tm} {x : Fm} (hx : x.ok = true) (h : (Fm.mk k t m [x]).bound.2.2.2 = true) :
    ∃ y z t2 m2 k2, x = .mk k2 t2 m2 [y, z] ∧ y.ok = true ∧ z.ok = true ∧ (Fm.mk k t m [x]).bound.2.2.1 = z := by
  by_cases h4 : k = 4 ∨ k = 5
  rotate_left
  · rw [bound_no (by omega) (by omega)] at h; cases h
  obtain ⟨all, j, hkj⟩ : ∃ (all : Bool) (j : Int), (k = 4 ∧ all = true ∧ j = 3) ∨ (k = 5 ∧ all = false ∧ j = 2) := by
    rcases h4 with rfl | rfl
    · exact ⟨true, 3, .inl ⟨rfl, rfl, rfl⟩⟩
    · exact ⟨false, 2, .inr ⟨rfl, rfl, rfl⟩⟩
  rw [bound_q hkj] at h ⊢
  split at h
  · cases h
  rename_i h1
  split at h
  · cases h
  rename_i h2
  rw [if_neg h1, if_neg h2]
  obtain ⟨k2, t2, m2, l2⟩ := x
  have hk2 : k2 = j := Decidable.byContradiction fun hn => h1 (.inr (.inl hn))
  rcases Fm.shape hx with ⟨rfl, rfl⟩ | ⟨hk, y, x, rfl, hy, hz⟩ | ⟨hk, ht, x, rfl, hx⟩
  · omega
  · exact ⟨y, x, t2, m2, k2, rfl, hy, hz, by simp [Fm.kid, Fm.kids]⟩
  · omega
theorem c56 (N : Nat) : ∀ f : Fm, f.size ≤ N → f.size ≤ 549755813888 → f.ok = true → f.least 9223372036854775807 = true → ∀ (σ : List Frm), CallsV cfg 56 [.agg (encF f)] σ (.val (.one (.int .u8 f.cls.n))) σ := by
  induction N with
  | zero => intro f h; have := f.size_pos; omega
  | succ N ih =>
  rintro ⟨k, t, m, l⟩ hN hsz hok hle σ
  refine w56 (by simp) ?_
  rw [s56]
  obtain ⟨hml, hll⟩ := Fm.least_parts hle
  rcases Fm.shape hok with ⟨rfl, rfl⟩ | ⟨hk, y, x, rfl, hy, hx⟩ | ⟨hk, ht, x, rfl, hx⟩
  · rw [cls_eq]
    simp [Cls.n]
  · rw [cls_two hk]
    have hyl := hll y (by simp)
    have hxl := hll x (by simp)
    simp at hN hsz
    have h2 : ¬ k = 1 := by omega
    simp [wrap_id, h2]
    refine opV_call (ih x (by omega) (by omega) hx hxl _) (by simp) ?_
    rcases hk with rfl | rfl
    · simp
      refine opV_call (ih y (by omega) (by omega) hy hyl _) (by simp) ?_
      simp [uand_n, uand6, uor_n, uand1]
    · simp
      refine opV_call (ih y (by omega) (by omega) hy hyl _) (by simp) ?_
      simp [uand_n, uand6, uor_n, uand1]
  · rw [cls_q hk]
    generalize hc5 : (if k = 5 then true else x.cls.c) = c5
    have hxl := hll x (by simp)
    have hb := c85 (.mk k t m [x]) hsz hok hle
    simp at hN hsz
    have hbb := bound_body (k := k) (t := t) (m := m) hx
    generalize hbd : (Fm.mk k t m [x]).bound = B at hb hbb
    have h1 : ¬ k = 1 := by omega
    have h2 : ¬ k = 2 := by omega
    have h3 : ¬ k = 3 := by omega
    simp [wrap_id, h1, h2, h3]
    refine opV_call (ih x (by omega) (by omega) hx hxl _) (by simp) ?_
    have fin : B.2.2.2 = true → ∃ y z t2 m2 k2, x = .mk k2 t2 m2 [y, z] ∧ B.2.2.1 = z ∧ ∀ (σ : List Frm), CallsV cfg 56 [.agg (encF z)] σ (.val (.one (.int .u8 z.cls.n))) σ := by
      intro hB
      obtain ⟨y, z, t2, m2, k2, rfl, hy, hz, he⟩ := hbb hB
      obtain ⟨_, hxk⟩ := Fm.least_parts hxl
      simp at hN hsz
      exact ⟨y, z, t2, m2, k2, rfl, he, ih z (by omega) (by omega) hz (hxk z (by simp))⟩
    by_cases h5 : k = 5
    · subst h5
      simp at hc5
      simp [uor1, uand1]
      refine opV_call (hb _) (by simp) ?_
      simp [encB]
      cases hB : B.2.2.2 with
      | false => simp [← hc5]
      | true =>
        obtain ⟨y, z, t2, m2, k2, rfl, he, hz⟩ := fin hB
        simp [he]
        refine opV_call (hz _) (by simp) ?_
        simp [uand4, uor_n, ← hc5, Fm.kids]
    · have h5' : (k == 5) = false := by simpa using h5
      rw [if_neg h5] at hc5
      simp [h1, h2, h3, h5, h5', uand1]
      refine opV_call (hb _) (by simp) ?_
      simp [encB]
      cases hB : B.2.2.2 with
      | false => simp [← hc5]
      | true =>
        obtain ⟨y, z, t2, m2, k2, rfl, he, hz⟩ := fin hB
        simp [he]
        refine opV_call (hz _) (by simp) ?_
        simp [uand4, uor_n, ← hc5, Fm.kids]
theorem c56' (f : Fm) (hsz : f.size ≤ 549755813888) (hok : f.ok = true) (hle : f.least 9223372036854775807 = true) (σ : List Frm) : CallsV cfg 56 [.agg (encF f)] σ (.val (.one (.int .u8 f.cls.n))) σ := c56 f.size f (Nat.le_refl _) hsz hok hle σ
def i55 (f : Fm) (σ : List Frm) (n : Nat) : St → Prop
  | ⟨env, loc, σ', live⟩ => ∃ g ts ow, g.size ≤ n ∧ g.ok = true ∧ g.size ≤ 549755813888 ∧ ts.length + g.size ≤ f.size ∧ (ts ++ (stripA g).1, (stripA g).2) = stripA f ∧ env 1 = .one (.box σ.length 1 0 0) ∧ env 3 = .one (.box σ.length 3 0 0) ∧ env 4 = .one (.slice ow 2 (ts.map enc)) ∧
    loc 1 = [encF g] ∧ loc 3 = [z29] ∧ σ' = σ ∧ okOwn live ow
theorem c55 (f : Fm) (hsz : f.size ≤ 549755813888) (hok : f.ok = true) (σ : List Frm) : CallsV cfg 55 [.agg (encF f)] σ (.val (.tup [.one (.slice .no 2 ((stripA f).1.map enc)), .agg (encF (stripA f).2)])) σ := by
  refine w55 (by simp) ?_
  rw [s55]
  simp
  refine wpP_loop (i55 f σ) f.size ⟨f, [], .full, by omega, hok, hsz, by simp, by simp, by simp, by simp, by simp, by simp, by simp [z29], rfl, by simp⟩ ?_
  rintro n ⟨env, loc, σ', live⟩ ⟨g, ts, ow, hn, hgo, hgs, hlen, he, e1, e3, e4, l1, l3, rfl, how⟩
  obtain ⟨k, t, m, l⟩ := g
  by_cases hk : k = 4
  · subst hk
    obtain ⟨x, rfl, hx⟩ : ∃ x, l = [x] ∧ x.ok = true := by
      rcases Fm.shape hgo with ⟨h, _⟩ | ⟨h, _⟩ | ⟨_, _, x, h, hx⟩
      · omega
      · omega
      · exact ⟨x, h, hx⟩
    rw [stripA_4] at he
    simp at hn hgs hlen
    have hts := t.size_pos
    simp [e1, e3, e4, l1]
    refine wpP_draw (fun _ _ _ => false) ?_
    simp [e1, e3, e4, l1]
    refine stepD_call (c57 t (by omega) _) (by simp) ?_
    simp [e1, e3, e4, l1, how]
    refine ⟨by omega, by omega, loopK_normal x.size (by omega) ⟨x, ts ++ [t], .tip live.nx, by omega, hx, by omega, by simp; omega, ?_, by simp, by simp, by simp, by simp, by simp [l3], rfl, grown_on⟩⟩
    rw [← he]
    simp
  · rw [stripA_no hk] at he
    simp [e1, e3, e4, l1, l3, hk]
    refine wpP_draw (fun _ _ _ => false) ?_
    rw [← he]
    simp [e1, e3, e4, l1, l3, z29]
end Go.Proofs.YtcgmhnlmgomlgaaGreatDoor.V


set_option maxRecDepth 100000
namespace Go.Proofs.YtcgmhnlmgomlgaaGreatDoor.V
open Go Go.Proofs
theorem uand4' (x : Cls) : uand x.n 4 = if x.d = true then 4 else 0 := by
  obtain ⟨a, b, c⟩ := x
  cases a <;> cases b <;> cases c <;> rfl
theorem uand1' (x : Cls) : uand x.n 1 = if x.c = true then 1 else 0 := by
  obtain ⟨a, b, c⟩ := x
  cases a <;> cases b <;> cases c <;> rfl
def encK (r : List Ty × Ty × Fm × Bool) : PV := .tup [.one (.slice .no 2 (r.1.map enc)), .agg (enc r.2.1), .agg (encF r.2.2.1), .one (.bool r.2.2.2)]
theorem c14 (f : Fm) (hsz : f.size ≤ 549755813888) (hle : f.least 9223372036854775807 = true) (σ : List Frm) : CallsV cfg 14 [.agg (encF f)] σ (.val (encK f.task)) σ := by
  refine w14 (by simp [encK]) ?_
  rw [s14]
  simp
  refine opV_call (c54 f (by omega) _) (by simp) ?_
  by_cases hc : f.check = 0
  rotate_left
  · have hc' : (f.check == 0) = false := by simpa using hc
    simp [hc, hc', bne, Fm.task, encK, Fm.zeroF, Ty.zero, resPV]
  obtain ⟨hok, _⟩ := Fm.check_ok2 hc
  obtain ⟨g1, g2, g3⟩ := stripA_facts f
  have hgo := g1 hok
  have hgl := g2 _ hle
  simp [hc]
  refine opV_call (c55 f hsz hok _) (by simp) ?_
  simp [Fm.task, hc]
  generalize (stripA f).1 = ts
  generalize (stripA f).2 = g at g3 hgo hgl
  obtain ⟨k, t, m, l⟩ := g
  by_cases hk : k = 5
  rotate_left
  · have hk' : (k == 5) = false := by simpa using hk
    simp [hk, hk', bne, Fm.kind]
    simp [encK, Fm.zeroF, Ty.zero, resPV]
  subst hk
  obtain ⟨x, rfl, hx⟩ : ∃ x, l = [x] ∧ x.ok = true := by
    rcases Fm.shape hgo with ⟨h, _⟩ | ⟨h, _⟩ | ⟨_, _, x, h, hx⟩
    · omega
    · omega
    · exact ⟨x, h, hx⟩
  obtain ⟨_, hxl⟩ := Fm.least_parts hgl
  simp at g3
  have hts := t.size_pos
  simp [Fm.kind, Fm.kid, Fm.kids, Fm.ty]
  refine opV_call (c56' x (by omega) hx (hxl x (by simp)) _) (by simp) ?_
  cases hd : x.cls.d with
  | false =>
    simp [uand4', hd]
    simp [encK, Fm.zeroF, Ty.zero, resPV]
  | true =>
    simp [uand4', hd]
    refine wpP_draw (fun _ t _ => decide (t = 3 ∨ t = 4)) ?_
    simp
    refine stepD_call (c57 t (by omega) _) (by simp) ?_
    simp
    refine stepD_call (c58 x (by omega) _) (by simp) ?_
    simp [encK, resPV]
theorem c76 (f : Fm) (hsz : f.size ≤ 549755813888) (hle : f.least 9223372036854775807 = true) (b : Int) (σ : List Frm) : CallsV cfg 76 [.agg (encF f), .one (.int .u8 b)] σ (.val (.tup [.one (.bool (if f.check = 0 then (uand f.cls.n b != 0) else false)), .one (.int .i64 f.check)])) σ := by
  refine w76 (by simp) ?_
  rw [s76]
  simp
  refine opV_call (c54 f (by omega) _) (by simp) ?_
  by_cases hc : f.check = 0
  rotate_left
  · have hc' : (f.check == 0) = false := by simpa using hc
    simp [hc, hc', bne]
  obtain ⟨hok, _⟩ := Fm.check_ok2 hc
  simp [hc]
  refine opV_call (c56' f hsz hok hle _) (by simp) ?_
  simp
theorem c24 (f : Fm) (hsz : f.size ≤ 549755813888) (hle : f.least 9223372036854775807 = true) (σ : List Frm) : CallsV cfg 24 [.agg (encF f)] σ (.val (.tup [.one (.bool (hasOf f)), .one (.int .i64 f.check)])) σ := by
  refine w24 (by simp) ?_
  rw [s24]
  simp
  refine opV_call (c76 f hsz hle 1 _) (by simp) ?_
  unfold hasOf
  by_cases hc : f.check = 0
  · have hh := cls_has f (Fm.check_ok2 hc).1
    cases hf : f.has with
    | false => rw [hf] at hh; simp [hc, uand1', hh]
    | true => rw [hf] at hh; simp [hc, uand1', hh]
  · simp [hc]
def sane0 : Fm := .q 4 .nat (.q 5 .nat (.eq (.var 0) (.var 1)))
theorem sane0_ok : sane0.ok = true := Fm.q_ok (.inl rfl) Ty.nat_check (Fm.q_ok (.inr (.inl rfl)) Ty.nat_check (Fm.eq_ok (Tm.var_ok (by omega)) (Tm.var_ok (by omega))))
theorem sane0_size : sane0.size ≤ 64 := by simp [sane0, Fm.eq, Tm.var, Ty.zero]
theorem sane0_least : sane0.least 9223372036854775807 = true := Fm.q_least (Fm.q_least (Fm.eq_least (Tm.var_least (by omega)) (Tm.var_least (by omega))))
theorem sane0_task : sane0.task = ([.nat], .nat, .eq (.var 0) (.var 1), true) := by
  have hc : sane0.check = 0 := Fm.check_lt sane0_ok (by have := sane0_size; omega)
  have hs : stripA sane0 = ([.nat], .q 5 .nat (.eq (.var 0) (.var 1))) := by simp [sane0, Fm.q, stripA, Fm.eq]
  simp [Fm.task, hc, hs, Fm.q, Fm.kind, Fm.kid, Fm.kids, Fm.ty, Fm.eq, cls_eq]
theorem c7 (σ : List Frm) : CallsV cfg 7 [] σ (.val (.one (.bool true))) σ := by
  refine w7 (by simp) ?_
  rw [s7]
  simp
  refine opV_call (c27 _) (by simp) ?_
  simp
  refine wpP_draw (fun _ _ _ => false) ?_
  simp
  refine stepD_call (c46 0 _) (by simp) ?_
  simp
  refine stepD_call (c46 1 _) (by simp) ?_
  simp
  refine stepD_call (c45 (.var 0) (.var 1) (by simp [Tm.var, Ty.zero]) (by simp [Tm.var, Ty.zero]) _) (by simp) ?_
  simp
  refine stepD_call (c13 5 .nat (.eq (.var 0) (.var 1)) (by simp) (by simp [Fm.eq, Tm.var, Ty.zero]) _) (by simp [Ty.nat]) ?_
  simp
  refine stepD_call (c13 4 .nat (.q 5 .nat (.eq (.var 0) (.var 1))) (by simp) (by simp [Fm.eq, Tm.var, Ty.zero]) _) (by simp [Ty.nat]) ?_
  simp
  have h := c14 sane0 (by have := sane0_size; omega) sane0_least
  rw [sane0_task] at h
  refine stepD_call (h _) (by simp [sane0]) ?_
  simp [encK]
  refine opV_call (c16 .nat .nat (by simp) _) (by simp [Ty.nat]) ?_
  simp [Ty.same_refl, Fm.eq]
@[simp] theorem binF_neq4 (a b : Bool) : binF cfg .neq 4 (.one (.bool a)) (.one (.bool b)) = some (.one (.bool (!(a == b)))) := by simp [binF]
@[simp] theorem binF_eql4 (a b : Bool) : binF cfg .eql 4 (.one (.bool a)) (.one (.bool b)) = some (.one (.bool (a == b))) := by simp [binF]
theorem has_two2 (a b : Fm) : (Fm.two 2 a b).has = (a.has || b.has) := by simp [Fm.two, Fm.has_mk]
theorem has_two3 (a b : Fm) : (Fm.two 3 a b).has = b.has := by simp [Fm.two, Fm.has_mk]
theorem has_q {k : Int} (hk : k = 4 ∨ k = 5 ∨ k = 6 ∨ k = 7) (t : Ty) (a : Fm) : (Fm.q k t a).has = (a.has || decide (k = 5)) := by
  rcases hk with rfl | rfl | rfl | rfl <;> simp [Fm.q, Fm.has_mk]
theorem hasOf_eq {f : Fm} (h : f.check = 0) : hasOf f = f.has := by simp [hasOf, h]
def i7 (s : Ty) (f : Fm) (L : List Int) (σ : List Frm) (j : Nat) : St → Prop
  | ⟨env, loc, σ', _⟩ => env 5 = .one (.box σ.length 5 0 0) ∧ env 7 = .one (.box σ.length 7 0 0) ∧ env 8 = .one (.bool f.has) ∧ env 88 = .one (.slice .full 1 (encI L)) ∧ env 89 = .one (.int .i64 4) ∧ env 90 = .one (.int .i64 j) ∧
    loc 5 = [encF f] ∧ loc 7 = [enc s] ∧ σ' = σ
end Go.Proofs.YtcgmhnlmgomlgaaGreatDoor.V


set_option maxRecDepth 100000
namespace Go.Proofs.YtcgmhnlmgomlgaaGreatDoor.V
open Go Go.Proofs
def i31 (a b : Tm) (l m : List Tm) (σ : List Frm) (j : Nat) : St → Prop
  | ⟨env, loc, σ', _⟩ => env 2 = .one (.box σ.length 2 0 0) ∧ env 3 = .one (.box σ.length 3 0 0) ∧ env 37 = .one (.int .i64 l.length) ∧ env 38 = .one (.int .i64 j) ∧
    loc 2 = [encT a] ∧ loc 3 = [encT b] ∧ σ' = σ ∧ Tm.sames l m = Tm.sames (l.drop j) (m.drop j)
theorem c31 (a : Tm) : ∀ (b : Tm), a.size ≤ 1099511627776 → ∀ (σ : List Frm), CallsV cfg 31 [.agg (encT a), .agg (encT b)] σ (.val (.one (.bool (a.same b)))) σ := by
  induction a using Tm.ind with
  | _ k i t l ih =>
  rintro ⟨k', i', t', m⟩ hsz σ
  simp at hsz
  have hlen := Tm.length_le l
  have hsp := t.size_pos
  refine w31 (by simp) ?_
  rw [s31, Tm.same_mk]
  by_cases hk : k = k'
  rotate_left
  · simp [hk]
  subst hk
  by_cases hi : i = i'
  rotate_left
  · simp [hi]
  subst hi
  simp
  refine opV_call (c16 t t' (by omega) _) (by simp) ?_
  cases ht : Ty.same t t' with
  | false => simp
  | true =>
    by_cases hl : l.length = m.length
    rotate_left
    · have : Tm.sames l m = false := by
        cases h : Tm.sames l m with
        | false => rfl
        | true => exact absurd (Tm.sames_length h) hl
      have hl' : ¬ (l.length : Int) = m.length := by omega
      simp [hl', this]
    have hl' : ((l.length : Int) = (m.length : Int)) = True := by simp [hl]
    simp [hl']
    refine wpP_range l.length (i31 (.mk k i t l) (.mk k i t' m) l m σ) (by omega) ⟨by simp, by simp, by simp, by simp, by simp, by simp, rfl, by simp⟩ ?_ ?_ (hend := ?_)
    · rintro j ⟨env, loc, σ', live⟩ ⟨e2, e3, e37, e38, h2, h3, rfl, hs⟩
      exact ⟨e38, e37⟩
    · rintro j ⟨env, loc, σ', live⟩ hj ⟨e2, e3, e37, e38, h2, h3, rfl, hs⟩
      obtain ⟨x, hx, hd, hmx⟩ := drop_cons hj
      obtain ⟨y, hy, hd', _⟩ := drop_cons (hl ▸ hj)
      have := Tm.sizes_mem hmx
      simp [e2, e3, e37, e38]
      refine wpP_draw (fun _ _ _ => false) ?_
      simp [e2, e3, e37, e38, h2, h3, hx, hy]
      refine stepD_call (ih x hmx y (by omega) _) (by simp) ?_
      rw [hd, hd', Tm.sames_cons] at hs
      cases hxy : x.same y with
      | false =>
        rw [hxy] at hs
        simp [hs]
      | true =>
        rw [hxy] at hs
        simp [e2, e3, e37, e38]
        exact ⟨by simp, by simp, by simp, by simp, by simp [h2], by simp [h3], rfl, by simpa using hs⟩
    · rintro ⟨env, loc, σ', live⟩ ⟨e2, e3, e37, e38, h2, h3, rfl, hs⟩
      rw [List.drop_length, hl, List.drop_length] at hs
      simp [hs]
def i59 (l m : List Tm) (σ : List Frm) (j : Nat) : St → Prop
  | ⟨env, loc, σ', _⟩ => env 0 = .one (.slice .no 5 (l.map encT)) ∧ env 1 = .one (.slice .no 5 (m.map encT)) ∧ env 12 = .one (.int .i64 l.length) ∧ env 13 = .one (.int .i64 j) ∧ σ' = σ ∧ Tm.sames l m = Tm.sames (l.drop j) (m.drop j)
theorem c59 (l m : List Tm) (hsz : Tm.sizes l ≤ 1099511627776) (σ : List Frm) : CallsV cfg 59 [.one (.slice .no 5 (l.map encT)), .one (.slice .no 5 (m.map encT))] σ (.val (.one (.bool (Tm.sames l m)))) σ := by
  have hlen := Tm.length_le l
  refine w59 (by simp) ?_
  rw [s59]
  by_cases hl : l.length = m.length
  rotate_left
  · have : Tm.sames l m = false := by
      cases h : Tm.sames l m with
      | false => rfl
      | true => exact absurd (Tm.sames_length h) hl
    have hl' : ((l.length : Int) == (m.length : Int)) = false := by simpa using (by omega : ¬ (l.length : Int) = m.length)
    simp [hl', this, bne]
  have hl' : ((l.length : Int) == (m.length : Int)) = true := by rw [hl]; simp
  simp [hl', bne]
  refine wpP_range l.length (i59 l m σ) (by omega) ⟨by simp, by simp, by simp, by simp, rfl, by simp⟩ ?_ ?_ (hend := ?_)
  · rintro j ⟨env, loc, σ', live⟩ ⟨e0, e1, e12, e13, rfl, hs⟩
    exact ⟨e13, e12⟩
  · rintro j ⟨env, loc, σ', live⟩ hj ⟨e0, e1, e12, e13, rfl, hs⟩
    obtain ⟨x, hx, hd, hmx⟩ := drop_cons hj
    obtain ⟨y, hy, hd', _⟩ := drop_cons (hl ▸ hj)
    have := Tm.sizes_mem hmx
    simp [e0, e1, e12, e13]
    refine wpP_draw (fun _ _ _ => false) ?_
    simp [e0, e1, e12, e13, hx, hy]
    refine stepD_call (c31 x y (by omega) _) (by simp) ?_
    rw [hd, hd', Tm.sames_cons] at hs
    cases hxy : x.same y with
    | false =>
      rw [hxy] at hs
      simp [hs]
    | true =>
      rw [hxy] at hs
      simp [e0, e1, e12, e13]
      exact ⟨by simp, by simp, by simp, by simp, rfl, by simpa using hs⟩
  · rintro ⟨env, loc, σ', live⟩ ⟨e0, e1, e12, e13, rfl, hs⟩
    rw [List.drop_length, hl, List.drop_length] at hs
    simp [hs]
def i17 (a b : Fm) (l m : List Fm) (σ : List Frm) (j : Nat) : St → Prop
  | ⟨env, loc, σ', _⟩ => env 2 = .one (.box σ.length 2 0 0) ∧ env 3 = .one (.box σ.length 3 0 0) ∧ env 38 = .one (.int .i64 l.length) ∧ env 39 = .one (.int .i64 j) ∧
    loc 2 = [encF a] ∧ loc 3 = [encF b] ∧ σ' = σ ∧ Fm.sames l m = Fm.sames (l.drop j) (m.drop j)
theorem c17 (a : Fm) : ∀ (b : Fm), a.size ≤ 1099511627776 → ∀ (σ : List Frm), CallsV cfg 17 [.agg (encF a), .agg (encF b)] σ (.val (.one (.bool (a.same b)))) σ := by
  induction a using Fm.ind with
  | _ k t n l ih =>
  rintro ⟨k', t', n', m⟩ hsz σ
  simp at hsz
  have hlen := Fm.length_le l
  refine w17 (by simp) ?_
  rw [s17, Fm.same_mk]
  by_cases hk : k = k'
  rotate_left
  · simp [hk]
  subst hk
  simp
  refine opV_call (c16 t t' (by omega) _) (by simp) ?_
  cases ht : Ty.same t t' with
  | false => simp
  | true =>
    simp
    refine opV_call (c59 n n' (by omega) _) (by simp) ?_
    cases hn : Tm.sames n n' with
    | false => simp
    | true =>
      by_cases hl : l.length = m.length
      rotate_left
      · have : Fm.sames l m = false := by
          cases h : Fm.sames l m with
          | false => rfl
          | true => exact absurd (Fm.sames_length h) hl
        have hl' : ¬ (l.length : Int) = m.length := by omega
        simp [hl', this]
      have hl' : ((l.length : Int) = (m.length : Int)) = True := by simp [hl]
      simp [hl']
      refine wpP_range l.length (i17 (.mk k t n l) (.mk k t' n' m) l m σ) (by omega) ⟨by simp, by simp, by simp, by simp, by simp, by simp, rfl, by simp⟩ ?_ ?_ (hend := ?_)
      · rintro j ⟨env, loc, σ', live⟩ ⟨e2, e3, e38, e39, h2, h3, rfl, hs⟩
        exact ⟨e39, e38⟩
      · rintro j ⟨env, loc, σ', live⟩ hj ⟨e2, e3, e38, e39, h2, h3, rfl, hs⟩
        obtain ⟨x, hx, hd, hmx⟩ := drop_cons hj
        obtain ⟨y, hy, hd', _⟩ := drop_cons (hl ▸ hj)
        have := Fm.sizes_mem hmx
        simp [e2, e3, e38, e39]
        refine wpP_draw (fun _ _ _ => false) ?_
        simp [e2, e3, e38, e39, h2, h3, hx, hy]
        refine stepD_call (ih x hmx y (by omega) _) (by simp) ?_
        rw [hd, hd', Fm.sames_cons] at hs
        cases hxy : x.same y with
        | false =>
          rw [hxy] at hs
          simp [hs]
        | true =>
          rw [hxy] at hs
          simp [e2, e3, e38, e39]
          exact ⟨by simp, by simp, by simp, by simp, by simp [h2], by simp [h3], rfl, by simpa using hs⟩
      · rintro ⟨env, loc, σ', live⟩ ⟨e2, e3, e38, e39, h2, h3, rfl, hs⟩
        rw [List.drop_length, hl, List.drop_length] at hs
        simp [hs]
theorem c98 (s t : Tm) (hs : s.size ≤ 274877906944) (ht : t.size ≤ 274877906944) (σ : List Frm) : CallsV cfg 98 [.agg (encT s), .agg (encT t)] σ (.val (.agg (encF (less s t)))) σ := by
  refine w98 (by simp) ?_
  rw [s98]
  simp
  refine wpP_draw (fun _ _ _ => false) ?_
  simp
  refine stepD_call (c75 _) (by simp) ?_
  simp
  refine stepD_call (c70 5 [s] (by simp; omega) _) (by simp) ?_
  simp
  refine stepD_call (c70 3 [.sub, .node 5 [s]] (by simp [Tm.node, Ty.zero]; omega) _) (by simp) ?_
  simp
  refine stepD_call (c70 3 [.node 3 [.sub, .node 5 [s]], t] (by simp [Tm.node, Ty.zero]; omega) _) (by simp) ?_
  simp
  refine stepD_call (c70 4 [] (by simp) _) (by simp) ?_
  simp
  refine stepD_call (c45 (.node 3 [.node 3 [.sub, .node 5 [s]], t]) (.node 4 []) (by simp [Tm.node, Ty.zero]; omega) (by simp [Tm.node, Ty.zero]) _) (by simp) ?_
  simp [less, Tm.app2, Tm.app]
theorem c95 (t : Tm) (hsz : t.size ≤ 549755813888) (fr b : Int) (σ : List Frm) : CallsV cfg 95 [.agg (encT t), .one (.int .i64 fr), .one (.int .i64 b)] σ (.val (.tup [.agg (encT (t.liftT fr b).1), .one (.int .i64 (t.liftT fr b).2)])) σ := by
  refine w95 (by simp) ?_
  rw [s95]
  simp
  refine opV_call (c63 t (by omega) _) (by simp) ?_
  by_cases hc : t.check = 0
  rotate_left
  · have hc' : (t.check == 0) = false := by simpa using hc
    simp [hc, hc', bne, Tm.liftT, Tm.zeroT, Ty.zero]
  obtain ⟨hok, hcnt⟩ := Tm.check_ok hc
  by_cases h1 : fr < 0
  · simp [hc, h1, Tm.liftT, Tm.zeroT, Ty.zero]
  by_cases h2 : 4096 < fr
  · simp [hc, h1, h2, Tm.liftT, Tm.zeroT, Ty.zero]
  by_cases h3 : b < 0
  · simp [hc, h1, h2, h3, Tm.liftT, Tm.zeroT, Ty.zero]
  by_cases h4 : 4096 < b
  · simp [hc, h1, h2, h3, h4, Tm.liftT, Tm.zeroT, Ty.zero]
  simp [hc, h1, h2, h3, h4, Tm.liftT]
  refine opV_call (c64 536870912 t (by omega) _) (by simp) ?_
  cases hl : t.least 536870912 with
  | false => simp [Tm.zeroT, Ty.zero]
  | true =>
    simp
    refine opV_call (c104 t (by omega) hok hl fr b (by omega) (by omega) (by omega) (by omega) _) (by simp) ?_
    simp
    refine opV_call (c99 (t.up fr b) (by rw [Tm.up_size]; omega) _) (by simp) ?_
    simp
end Go.Proofs.YtcgmhnlmgomlgaaGreatDoor.V


set_option maxRecDepth 100000
namespace Go.Proofs.YtcgmhnlmgomlgaaGreatDoor.V
open Go Go.Proofs
def lessE (s t : Tm) : Fm × Int := if s.check ≠ 0 then (.zeroF, s.check) else if t.check ≠ 0 then (.zeroF, t.check) else if 4096 < (less s t).count then (.zeroF, 4) else (less s t, 0)
theorem c44 (s t : Tm) (hs : s.size ≤ 137438953472) (ht : t.size ≤ 137438953472) (σ : List Frm) : CallsV cfg 44 [.agg (encT s), .agg (encT t)] σ (.val (.tup [.agg (encF (lessE s t).1), .one (.int .i64 (lessE s t).2)])) σ := by
  refine w44 (by simp) ?_
  rw [s44]
  simp
  refine opV_call (c63 s (by omega) _) (by simp) ?_
  by_cases hc : s.check = 0
  rotate_left
  · have hc' : (s.check == 0) = false := by simpa using hc
    simp [hc, hc', bne, lessE, Fm.zeroF, Ty.zero]
  simp [hc]
  refine opV_call (c63 t (by omega) _) (by simp) ?_
  by_cases hd : t.check = 0
  rotate_left
  · have hd' : (t.check == 0) = false := by simpa using hd
    simp [hc, hd, hd', bne, lessE, Fm.zeroF, Ty.zero]
  simp [hd]
  refine opV_call (c98 s t (by omega) (by omega) _) (by simp) ?_
  have hz := less_size' s t
  have hless : less s t = .mk 1 .zero [.app2 .sub (.node 5 [s]) t, .node 4 []] [] := rfl
  have hcount : (less s t).count = 1 + ((Tm.app2 .sub (.node 5 [s]) t).count + (Tm.node 4 []).count) := by rw [hless]; simp
  have hsz : (Tm.app2 .sub (.node 5 [s]) t).size ≤ (less s t).size := by rw [hless]; simp; omega
  have c67' := c67 (.app2 .sub (.node 5 [s]) t) (by omega)
  have c65' := c65 (less s t) (by omega)
  rw [hless] at c65' ⊢
  generalize Tm.app2 .sub (.node 5 [s]) t = a at *
  simp
  refine opV_call (c67' _) (by simp) ?_
  by_cases h1 : 4096 < a.count
  · have h1' : (4096 : Int) < a.count := by omega
    have h2 : 4096 < (less s t).count := by omega
    simp [h1', lessE, hc, hd, h2, Fm.zeroF, Ty.zero]
  · have h1' : ¬ (4096 : Int) < a.count := by omega
    simp [h1']
    refine opV_call (c65' _) (by simp) ?_
    rw [← hless]
    by_cases h2 : 4096 < (less s t).count
    · have h2' : (4096 : Int) < (less s t).count := by omega
      simp [h2', lessE, hc, hd, h2, Fm.zeroF, Ty.zero]
    · have h2' : ¬ (4096 : Int) < (less s t).count := by omega
      have q1 : ¬ 4096 < 1 + (a.count + (Tm.node 4 []).count) := by omega
      have q2 : ¬ (4096 : Int) < 1 + ((a.count : Int) + ((Tm.node 4 []).count : Int)) := by omega
      simp [h2', lessE, hc, hd, h2, hless, q1, q2]
theorem Fm.check_iff {f : Fm} (h : f.ok = true) : f.check = 0 ↔ f.count ≤ 4096 := by
  unfold Fm.check
  rw [if_pos h]
  split
  · rename_i h1; exact ⟨fun _ => h1, fun _ => rfl⟩
  · rename_i h1; exact ⟨fun h => by simp at h, fun h => absurd h h1⟩
theorem c42 (all : Bool) (t : Tm) (f : Fm) (ht : t.size ≤ 17179869184) (hf : f.size ≤ 17179869184) (σ : List Frm) : CallsV cfg 42 [.one (.bool all), .agg (encT t), .agg (encF f)] σ (.val (.tup [.agg (encF (bounded all t f).1), .one (.int .i64 (bounded all t f).2)])) σ := by
  refine w42 (by simp) ?_
  rw [s42]
  simp
  refine opV_call (c95 t (by omega) 0 1 _) (by simp) ?_
  unfold bounded
  by_cases hl : (t.liftT 0 1).2 = 0
  rotate_left
  · have hl' : ((t.liftT 0 1).2 == 0) = false := by simpa using hl
    simp [hl, hl', bne, Fm.zeroF, Ty.zero]
  have hcl : t.check = 0 ∧ t.liftT 0 1 = (t.up 0 1, 0) := by
    unfold Tm.liftT at hl ⊢
    by_cases h1 : t.check = 0
    · rw [if_neg (by simpa using h1)] at hl ⊢
      split at hl
      · cases hl
      · rename_i h; rw [if_neg h]; exact ⟨h1, rfl⟩
    · rw [if_pos h1] at hl; exact absurd hl h1
  obtain ⟨hc, he⟩ := hcl
  rw [he]
  simp
  refine opV_call (c60 f (by omega) _) (by simp) ?_
  by_cases hd : f.check = 0
  rotate_left
  · have hd' : (f.check == 0) = false := by simpa using hd
    simp [hd, hd', bne, Fm.zeroF, Ty.zero]
  obtain ⟨hok, hcnt⟩ := Tm.check_ok hc
  obtain ⟨hfo, hfc⟩ := Fm.check_ok2 hd
  have huo := Tm.up_ok t 0 1 (by omega) hok
  have huc := Tm.up_count t 0 1
  have hus := Tm.up_size t 0 1
  have hucheck : (t.up 0 1).check = 0 := by unfold Tm.check; rw [if_pos huo, if_pos (by omega)]
  have hv : (Tm.var 0).check = 0 := by unfold Tm.check; rw [if_pos (Tm.var_ok (by omega)), if_pos (by simp [Tm.var])]
  generalize t.up 0 1 = u at *
  have hb := bform_ok (all := all) huo hfo
  have hbc : (bform all u f).count = 2 + (less (.var 0) u).count + f.count := by simp [bform, Fm.q, Fm.two]; omega
  have hlz := less_size' (.var 0) u
  have hvz : (Tm.var 0).size = 2 := by simp [Tm.var, Ty.zero]
  have hE : lessE (.var 0) u = if 4096 < (less (.var 0) u).count then (.zeroF, 4) else (less (.var 0) u, 0) := by unfold lessE; rw [if_neg (by simpa using hv), if_neg (by simpa using hucheck)]
  simp [hd]
  refine wpP_draw (fun _ _ _ => false) ?_
  simp
  refine stepD_call (c46 0 _) (by simp) ?_
  simp
  refine stepD_call (c44 (.var 0) u (by omega) (by omega) _) (by simp) ?_
  rw [hE]
  by_cases h1 : 4096 < (less (.var 0) u).count
  · have h2 : ¬ (bform all u f).check = 0 := by rw [Fm.check_iff hb]; omega
    simp [h1, h2, Fm.zeroF, Ty.zero]
  simp [h1]
  generalize hw : less (.var 0) u = w at *
  refine wpP_draw (fun _ _ _ => false) ?_
  simp
  refine stepD_call (c27 _) (by simp) ?_
  simp
  refine stepD_call (c19 2 w f (by omega) (by omega) _) (by simp) ?_
  simp
  refine stepD_call (c13 5 .nat (.two 2 w f) (by simp) (by simp; omega) _) (by simp [Ty.nat]) ?_
  simp
  have hbz := bform_size all u f
  have c65' := c65 (bform all u f) (by omega)
  cases all with
  | false =>
    simp
    have e : Fm.q 5 .nat (.two 2 w f) = bform false u f := by simp [bform, hw]
    rw [e]
    refine opV_call (c65' _) (by simp) ?_
    by_cases h3 : (bform false u f).count ≤ 4096
    · have h4 := (Fm.check_iff hb).2 h3
      have h3' : ¬ (4096 : Int) < (bform false u f).count := by omega
      simp [h3', h4]
    · have h4 : ¬ (bform false u f).check = 0 := fun h => h3 ((Fm.check_iff hb).1 h)
      have h3' : (4096 : Int) < (bform false u f).count := by omega
      simp [h3', h4, Fm.zeroF, Ty.zero]
  | true =>
    simp
    refine wpP_draw (fun _ _ _ => false) ?_
    simp
    refine stepD_call (c27 _) (by simp) ?_
    simp
    refine stepD_call (c19 3 w f (by omega) (by omega) _) (by simp) ?_
    simp
    refine stepD_call (c13 4 .nat (.two 3 w f) (by simp) (by simp; omega) _) (by simp [Ty.nat]) ?_
    have e : Fm.q 4 .nat (.two 3 w f) = bform true u f := by simp [bform, hw]
    simp
    rw [e]
    refine opV_call (c65' _) (by simp) ?_
    by_cases h3 : (bform true u f).count ≤ 4096
    · have h4 := (Fm.check_iff hb).2 h3
      have h3' : ¬ (4096 : Int) < (bform true u f).count := by omega
      simp [h3', h4]
    · have h4 : ¬ (bform true u f).check = 0 := fun h => h3 ((Fm.check_iff hb).1 h)
      have h3' : (4096 : Int) < (bform true u f).count := by omega
      simp [h3', h4, Fm.zeroF, Ty.zero]
end Go.Proofs.YtcgmhnlmgomlgaaGreatDoor.V


set_option maxRecDepth 100000
namespace Go.Proofs.YtcgmhnlmgomlgaaGreatDoor.V
open Go Go.Proofs
theorem dB_small : ∀ d, d ≤ 4 → dB 64 d ≤ 200000 := by decide
def r12 (l : List Int) (p : Pl) (g : List Ty) (σ : List Frm) (Ok : List Int → Prop) : St → Prop
  | ⟨env, loc, σ', _⟩ => ∃ r, r <:+ l ∧ Ok r ∧ env 0 = p.ptr ∧ env 1 = .one (.slice .no 2 (g.map enc)) ∧ env 6 = .one (.box σ.length 6 0 0) ∧ env 7 = .one (.box σ.length 7 0 0) ∧ loc 6 = [z29] ∧ loc 7 = [enc .nat] ∧ σ' = setC σ p (deckC l r)
theorem d12 {l : List Int} (hd : Dk l) (p : Pl) (d : Nat) : d ≤ 4 → ∀ (g : List Ty), Good 64 g → g.length + d + 70 ≤ 1000 → ∀ {r : List Int}, r <:+ l →
    DkV l p 12 [p.ptr, .one (.slice .no 2 (g.map enc)), .one (.int .i64 d)] r (.agg (encF (mkDec d g r).1)) (mkDec d g r).2 := by
  have hnat : Ty.nat.ok = true ∧ Ty.nat.size ≤ 64 := ⟨Ty.nat_ok, by simp⟩
  have tm : ∀ g r, Good 64 g → (mkTerm 1 g .nat r).1.size ≤ 100000 := fun g r hg => Nat.le_trans (mkTerm_fine (by omega) 1 g .nat r hg hnat).2 (tmB_small 1 (by omega))
  have fine : ∀ d g r, d ≤ 4 → Good 64 g → (mkDec d g r).1.size ≤ 200000 := fun d g r hd hg => Nat.le_trans (mkDec_fine (m := 64) (by omega) (by omega) d g r hg).2.1 (dB_small d hd)
  induction d using Nat.strongRecOn with
  | _ d ih =>
  intro hd4 g hg hlen r hr σ hH
  have hne : ¬ p.d = σ.length := by have := hH.lt; omega
  have hne' : ¬ σ.length = p.d := fun h => hne h.symm
  refine w12 (by simp) ?_
  rw [s12]
  refine cut3 (r12 l p g σ fun r' => mkDec d g r = mkEq g r') ?_ ?_
  · simp [Pl.ptr]
    refine opV_call (c27 _) (by simp) ?_
    cases d with
    | zero =>
      simp
      exact ⟨r, hr, by rw [mkDec], by simp [Pl.ptr], by simp, by simp, by simp, by simp [z29], by simp [Ty.nat], rfl⟩
    | succ d =>
      have hpos1 : (0 : Int) < (d : Int) + 1 := by omega
      have hw : IntKind.i64.wrap (d : Int) = d := wrap_id (by omega) (by omega)
      have s1 := (next_suf 6 r).trans hr
      have hc := next_range (n := 6) (by omega) r
      have hcase : (next 6 r).1 = 0 ∨ (next 6 r).1 = 1 ∨ ((next 6 r).1 = 2 ∨ (next 6 r).1 = 3) ∨ (next 6 r).1 = 4 ∨ (next 6 r).1 = 5 := by omega
      simp [hpos1]
      refine opV_at (dNext hd hr p (n := 6) (by omega)) hH (by simp [Pl.ptr]) ?_
      rcases hcase with h | h | h | h | h
      · have e : mkDec (d + 1) g r = (.two 2 (mkDec d g (next 6 r).2).1 (mkDec d g (mkDec d g (next 6 r).2).2).1, (mkDec d g (mkDec d g (next 6 r).2).2).2) := by simp [mkDec, h]
        rw [e]
        have fx := fine d g (next 6 r).2 (by omega) hg
        have fy := fine d g (mkDec d g (next 6 r).2).2 (by omega) hg
        simp [h, hw]
        refine opV_at (ih d (by omega) (by omega) g hg (by omega) s1) hH (by simp [Pl.ptr]) ?_
        simp [hw]
        refine opV_at (ih d (by omega) (by omega) g hg (by omega) ((mkDec_suf d g (next 6 r).2).trans s1)) hH (by simp [Pl.ptr]) ?_
        simp
        refine opV_call (c19 2 (mkDec d g (next 6 r).2).1 (mkDec d g (mkDec d g (next 6 r).2).2).1 (by omega) (by omega) _) (by simp) ?_
        simp
      · have e : mkDec (d + 1) g r = (.two 3 (mkDec d g (next 6 r).2).1 (mkDec d g (mkDec d g (next 6 r).2).2).1, (mkDec d g (mkDec d g (next 6 r).2).2).2) := by simp [mkDec, h]
        rw [e]
        have fx := fine d g (next 6 r).2 (by omega) hg
        have fy := fine d g (mkDec d g (next 6 r).2).2 (by omega) hg
        simp [h, hw]
        refine opV_at (ih d (by omega) (by omega) g hg (by omega) s1) hH (by simp [Pl.ptr]) ?_
        simp [hw]
        refine opV_at (ih d (by omega) (by omega) g hg (by omega) ((mkDec_suf d g (next 6 r).2).trans s1)) hH (by simp [Pl.ptr]) ?_
        simp
        refine opV_call (c19 3 (mkDec d g (next 6 r).2).1 (mkDec d g (mkDec d g (next 6 r).2).2).1 (by omega) (by omega) _) (by simp) ?_
        simp
      · have e : mkDec (d + 1) g r = (if (bounded ((next 2 (next 6 r).2).1 == 0) (mkTerm 1 g .nat (next 2 (next 6 r).2).2).1 (mkDec d (g ++ [.nat]) (mkTerm 1 g .nat (next 2 (next 6 r).2).2).2).1).2 = 0 then ((bounded ((next 2 (next 6 r).2).1 == 0) (mkTerm 1 g .nat (next 2 (next 6 r).2).2).1 (mkDec d (g ++ [.nat]) (mkTerm 1 g .nat (next 2 (next 6 r).2).2).2).1).1, (mkDec d (g ++ [.nat]) (mkTerm 1 g .nat (next 2 (next 6 r).2).2).2).2) else mkEq g (mkDec d (g ++ [.nat]) (mkTerm 1 g .nat (next 2 (next 6 r).2).2).2).2) := by
          rw [mkDec]
          simp only
          rw [if_neg (by omega), if_neg (by omega), if_pos h]
        rw [e]
        have hgn : Good 64 (g ++ [Ty.nat]) := hg.app (Good.one hnat)
        have s2 := (next_suf 2 (next 6 r).2).trans s1
        have fx := tm g (next 2 (next 6 r).2).2 hg
        have s3 := (mkTerm_suf 1 g .nat (next 2 (next 6 r).2).2).trans s2
        have fy := fine d (g ++ [.nat]) (mkTerm 1 g .nat (next 2 (next 6 r).2).2).2 (by omega) hgn
        have s4 := (mkDec_suf d (g ++ [.nat]) (mkTerm 1 g .nat (next 2 (next 6 r).2).2).2).trans s3
        have hsz := hg.sizes
        have h01 : ¬ (next 6 r).1 = 0 ∧ ¬ (next 6 r).1 = 1 := by omega
        rcases h with h | h
        all_goals
          simp [h, hw]
          refine wpP_draw (atPl p) ?_
          simp [hne']
          refine stepD_at (dNext hd s1 p (n := 2) (by omega)) hH (by simp [Pl.ptr]) ?_
          simp [hne']
          refine stepD_at (d23 hd p 1 (by omega) g .nat hg hnat (by omega) s2) hH (by simp [Pl.ptr, Ty.nat]) ?_
          simp [hne']
          refine stepD_call (c51 g [.nat] (by simp; omega) _) (by simp [Ty.nat]) ?_
          simp [hne', hw]
          refine stepD_at (ih d (by omega) (by omega) (g ++ [.nat]) hgn (by simp; omega) s3) hH (by simp [Pl.ptr]) ?_
          simp [hne']
          refine stepD_call (c42 ((next 2 (next 6 r).2).1 == 0) (mkTerm 1 g .nat (next 2 (next 6 r).2).2).1 (mkDec d (g ++ [.nat]) (mkTerm 1 g .nat (next 2 (next 6 r).2).2).2).1 (by omega) (by omega) _) (by simp) ?_
          by_cases hb : (bounded ((next 2 (next 6 r).2).1 == 0) (mkTerm 1 g .nat (next 2 (next 6 r).2).2).1 (mkDec d (g ++ [.nat]) (mkTerm 1 g .nat (next 2 (next 6 r).2).2).2).1).2 = 0
          · simp [hne', hb]
          · have hb' : ((bounded ((next 2 (next 6 r).2).1 == 0) (mkTerm 1 g .nat (next 2 (next 6 r).2).2).1 (mkDec d (g ++ [.nat]) (mkTerm 1 g .nat (next 2 (next 6 r).2).2).2).1).2 == 0) = false := by simpa using hb
            simp [hne', hb, hb']
            exact ⟨_, s4, rfl, by simp [Pl.ptr], by simp, by simp, by simp, by simp [z29], by simp [Ty.nat], rfl⟩
      · have e : mkDec (d + 1) g r = mkEq g (next 6 r).2 := by simp [mkDec, h]
        simp [h]
        exact ⟨_, s1, e, by simp [Pl.ptr], by simp, by simp, by simp, by simp [z29], by simp [Ty.nat], rfl⟩
      · have e : mkDec (d + 1) g r = mkEq g (next 6 r).2 := by simp [mkDec, h]
        simp [h]
        exact ⟨_, s1, e, by simp [Pl.ptr], by simp, by simp, by simp, by simp [z29], by simp [Ty.nat], rfl⟩
  · rintro ⟨env, loc, σ', live⟩ ⟨r', hr', he, e0, e1, e6, e7, l6, l7, rfl⟩
    simp only [Pl.ptr] at e0
    rw [he]
    have fx := tm g r' hg
    have fy := tm g (mkTerm 1 g .nat r').2 hg
    refine wpP_draw (atPl p) ?_
    simp [e0, e1, e6, e7, l6, l7, hne']
    refine stepD_at (d23 hd p 1 (by omega) g .nat hg hnat (by omega) hr') hH (by simp [Pl.ptr, Ty.nat]) ?_
    simp [e0, e1, e6, e7, l6, l7, hne']
    refine stepD_at (d23 hd p 1 (by omega) g .nat hg hnat (by omega) ((mkTerm_suf 1 g .nat r').trans hr')) hH (by simp [Pl.ptr, Ty.nat]) ?_
    simp [e0, e1, e6, e7, l6, l7, hne']
    refine stepD_call (c45 (mkTerm 1 g .nat r').1 (mkTerm 1 g .nat (mkTerm 1 g .nat r').2).1 (by omega) (by omega) _) (by simp) ?_
    simp [e0, e1, e6, e7, l6, l7, mkEq, z29]
end Go.Proofs.YtcgmhnlmgomlgaaGreatDoor.V


set_option maxRecDepth 100000
namespace Go.Proofs.YtcgmhnlmgomlgaaGreatDoor.V
open Go Go.Proofs
theorem c18 (f : Fm) (hsz : f.size ≤ 549755813888) (σ : List Frm) : CallsV cfg 18 [.agg (encF f)] σ (.val (.tup [.one (.slice .no 2 (f.univ.1.map enc)), .agg (encF f.univ.2.1), .one (.int .i64 f.univ.2.2)])) σ := by
  refine w18 (by simp) ?_
  rw [s18]
  simp
  refine opV_call (c54 f (by omega) _) (by simp) ?_
  by_cases hc : f.check = 0
  rotate_left
  · have hc' : (f.check == 0) = false := by simpa using hc
    simp [hc, hc', bne, Fm.univ, Fm.zeroF, Ty.zero]
  obtain ⟨hok, _⟩ := Fm.check_ok2 hc
  obtain ⟨g1, g2, g3⟩ := stripA_facts f
  simp [hc]
  refine opV_call (c55 f hsz hok _) (by simp) ?_
  simp [Fm.univ, hc]
  refine opV_call (c58 (stripA f).2 (by omega) _) (by simp) ?_
  simp
def i3l (g : List Ty) (s : Ty) (b : Fm) (σ : List Frm) (m : Nat) : St → Prop
  | ⟨env, loc, σ', _⟩ => m ≤ g.length ∧ env 4 = .one (.slice .no 2 (g.map enc)) ∧ env 5 = .one (.box σ.length 5 0 0) ∧ env 6 = .one (.box σ.length 6 0 0) ∧ env 7 = .one (.box σ.length 7 0 0) ∧ env 8 = .one (.int .i64 ((m : Int) - 1)) ∧
    loc 5 = [enc s] ∧ loc 6 = [encF b] ∧ loc 7 = [encF (allQ (g.drop m) (.q 5 s b))] ∧ σ' = σ
theorem Ty.sames_refl2 (l : List Ty) : Ty.sames l l = true := by
  induction l with
  | nil => simp
  | cons x l ih => simp [Ty.same_refl', ih]
theorem law3 (l : List Int) (hi : i64s l) (σ : List Frm) : CallsV cfg 3 [.one (.slice .no 1 (encI l))] σ (.val (.one (.bool true))) σ := by
  refine w3 (by simp) ?_
  rw [s3]
  simp
  refine opV_call (c7 _) (by simp) ?_
  simp
  refine opV_call (c8 l _) (by simp) ?_
  by_cases hl : l.length ≤ 500
  rotate_left
  · simp [hl]
  simp [hl]
  have hd : Dk l := ⟨by omega, hi⟩
  refine opV_new (c9 l _) (by simp) ?_
  simp
  refine opV_own1 (d10 hd ⟨σ.length, 26, 0⟩ (List.suffix_refl l)) (by simp) (by simp [Pl.ptr]) ?_
  have hc := mkContext_good l
  have hcs := mkContext_suf l
  generalize (mkContext l).1 = g at hc
  generalize (mkContext l).2 = r1 at hcs
  have hg : Good 64 g := fun x hx => ⟨(hc.1 x hx).1, by have := (hc.1 x hx).2; omega⟩
  simp
  refine opV_own1 (d11 hd ⟨σ.length, 26, 0⟩ 1 (by omega) hcs) (by simp) (by simp [Pl.ptr]) ?_
  have ht := mkType1 r1
  have hr2 := (mkType_suf 1 r1).trans hcs
  generalize (mkType 1 r1).1 = s at ht
  generalize (mkType 1 r1).2 = r2 at hr2
  have hgs3 : Good 3 (g ++ [s]) := hc.1.app (Good.one ht)
  have hgs : Good 64 (g ++ [s]) := hg.app (Good.one ⟨ht.1, by have := ht.2; omega⟩)
  simp
  refine wpP_draw (atPl ⟨σ.length, 26, 0⟩) ?_
  simp [atPl]
  refine ⟨by omega, by omega, by omega, by omega, ?_⟩
  refine stepD_own (d12 hd ⟨σ.length, 26, 0⟩ 2 (by omega) (g ++ [s]) hgs (by simp; omega) hr2) (by simp) (by simp [Pl.ptr]) ?_
  have hb := mkDec_fine (m := 3) (by omega) (by omega) 2 (g ++ [s]) r2 hgs3
  have hbl := mkDec_least 2 (g ++ [s]) r2 9223372036854775807 hgs (by simp; omega)
  have hd2 : dB 3 2 ≤ 1600 := by decide
  generalize (mkDec 2 (g ++ [s]) r2).1 = b at hb hbl
  generalize (mkDec 2 (g ++ [s]) r2).2 = r3
  obtain ⟨hb1, hb2, hb3⟩ := hb
  have hbz : b.size ≤ 1600 := by omega
  have ht2 := ht.2
  obtain ⟨k1, k2, k3⟩ := task_allQ hc.1 hc.2 ht hb1 hbz hb3
  simp [atPl]
  refine opV_call (c13 5 s b (by omega) (by omega) _) (by simp) ?_
  simp
  rw [wrap_id (by omega) (by omega)]
  have hq5 : (Fm.q 5 s b).size ≤ 1700 := by simp; omega
  have hq5ok : (Fm.q 5 s b).ok = true := Fm.q_ok (.inr (.inl rfl)) (Ty.check_iff.2 ⟨ht.1, by omega⟩) hb1
  have hdrop : ∀ m, (allQ (g.drop m) (.q 5 s b)).size ≤ 2000 := fun m => by
    have h := (allQ_ok (g := g.drop m) (fun x hx => hc.1 x (List.mem_of_mem_drop hx)) hq5ok).2
    have : (g.drop m).length ≤ 3 := by simp; omega
    omega
  have hgz := hc.1.sizes
  have hgz2 : Ty.sizes g ≤ 9 := by have : g.length * 3 ≤ 3 * 3 := Nat.mul_le_mul_right _ hc.2; omega
  refine wpP_loop (i3l g s b σ) g.length ⟨by omega, by simp, by simp, by simp, by simp, by simp, by simp, by simp, by simp [allQ], rfl⟩ ?_
  rintro m ⟨env, loc, σ', live⟩ ⟨hm, e4, e5, e6, e7, e8, l5, l6, l7, rfl⟩
  cases m with
  | succ m =>
    obtain ⟨x, hx, hdr, hmx⟩ := drop_cons (show m < g.length by omega)
    have hxs := (hc.1 x hmx).2
    have e8' : env 8 = .one (.int .i64 (m : Int)) := by
      rw [e8]
      congr 2
      omega
    clear e8
    simp [e4, e5, e6, e7, e8']
    refine wpP_draw (fun _ _ _ => false) ?_
    simp [e4, e5, e6, e7, e8', l7, hx]
    have hz := hdrop (m + 1)
    refine stepD_call (c13 4 x (allQ (g.drop (m + 1)) (.q 5 s b)) (by omega) (by omega) _) (by simp) ?_
    simp [e4, e5, e6, e7, e8', l7]
    rw [wrap_id (by omega) (by omega)]
    refine loopK_normal m (by omega) ⟨by omega, by simp, by simp, by simp, by simp, by simp, by simp [l5], by simp [l6], ?_, rfl⟩
    rw [hdr]
    simp [allQ]
  | zero =>
    rw [List.drop_zero] at l7
    have hfz := hdrop 0
    rw [List.drop_zero] at hfz
    have hfl : (allQ g (.q 5 s b)).least 9223372036854775807 = true := allQ_least (Fm.q_least hbl)
    have c14a := c14 (allQ g (.q 5 s b)) (by omega) hfl
    have c14b := c14 (.two 2 (allQ g (.q 5 s b)) (allQ g (.q 5 s b))) (by simp; omega) (Fm.two_least hfl hfl)
    have c18a := c18 (allQ g (.q 5 s b)) (by omega)
    rw [k1] at c14a
    rw [k2] at c18a
    generalize allQ g (.q 5 s b) = f at *
    generalize (Fm.two 2 f f).task = T at c14b k3
    simp [e4, e5, e6, e7, e8, l7]
    refine opV_call (c14a _) (by simp) ?_
    simp [encK, e4, e5, e6, e7, l5, l6, l7]
    refine opV_call (c15 g g (by omega) _) (by simp) ?_
    simp [Ty.sames_refl2, e4, e5, e6, e7, l5, l6, l7]
    refine opV_call (c16 s s (by omega) _) (by simp) ?_
    simp [Ty.same_refl', e4, e5, e6, e7, l5, l6, l7]
    refine opV_call (c17 b b (by omega) _) (by simp) ?_
    simp [Fm.same_refl, e4, e5, e6, e7, l5, l6, l7]
    refine opV_call (c18a _) (by simp) ?_
    simp [e4, e5, e6, e7, l5, l6, l7]
    refine opV_call (c19 2 f f (by omega) (by omega) _) (by simp) ?_
    simp [e4, e5, e6, e7, l5, l6, l7]
    refine opV_call (c14b _) (by simp) ?_
    simp [encK, e4, e5, e6, e7, l5, l6, l7]
    refine wpP_draw (fun _ _ _ => false) ?_
    simp [k3, e4, l5, l6]
    refine stepD_call (c15 g g (by omega) _) (by simp) ?_
    simp [Ty.sames_refl2, l5, l6]
    refine stepD_call (c13 5 s b (by omega) (by omega) _) (by simp) ?_
    simp
    refine stepD_call (c17 (.q 5 s b) (.q 5 s b) (by omega) _) (by simp) ?_
    simp [Fm.same_refl]
end Go.Proofs.YtcgmhnlmgomlgaaGreatDoor.V


namespace Go.Proofs.YtcgmhnlmgomlgaaGreatDoor.V
open Go
theorem Tm.sub_count : Tm.sub.count = 16 := by decide +kernel
theorem Tm.plus_count : Tm.plus.count = 9 := by decide +kernel
theorem Tm.num_count (n : Nat) : (Tm.num n).count = n + 1 := by
  induction n with
  | zero => simp [Tm.num, Tm.node]
  | succ n ih => simp [Tm.num, Tm.node, ih]; omega
theorem Tm.num_times (n : Nat) (c : Int) : (Tm.num n).times c = 0 := by
  induction n generalizing c with
  | zero => simp [Tm.num, Tm.node, Tm.times_mk, Tm.timess]
  | succ n ih => simp [Tm.num, Tm.node, Tm.times_mk, Tm.timess, ih]
theorem Tm.plus_times {c : Int} (h : 0 ≤ c) : Tm.plus.times c = 0 := by
  simp [Tm.plus, Tm.lamN, Tm.recN, Tm.tnode, Tm.node, Tm.var, Tm.times_mk, Tm.timess]
  omega
theorem Tm.sub_times {c : Int} (h : 0 ≤ c) : Tm.sub.times c = 0 := by
  simp [Tm.sub, Tm.pred, Tm.app, Tm.lamN, Tm.recN, Tm.tnode, Tm.node, Tm.var, Tm.times_mk, Tm.timess]
  omega
def Cnt (B : Nat) (V : Int) (t : Tm) : Prop := t.count ≤ B ∧ ∀ c, 0 ≤ c → t.times c ≤ V
theorem Cnt.mono {B B' : Nat} {V V' : Int} {t : Tm} (h : Cnt B V t) (hB : B ≤ B') (hV : V ≤ V') : Cnt B' V' t := ⟨Nat.le_trans h.1 hB, fun c hc => Int.le_trans (h.2 c hc) hV⟩
theorem cnt_var (i : Int) : Cnt 1 1 (.var i) := ⟨by simp [Tm.var], fun c _ => by simp [Tm.var, Tm.times_mk, Tm.timess]; split <;> omega⟩
theorem cnt_num (n : Nat) : Cnt (n + 1) 0 (.num n) := ⟨by rw [Tm.num_count]; omega, fun c _ => by rw [Tm.num_times]; omega⟩
theorem cnt_node0 {k : Int} (h : k ≠ 1) : Cnt 1 0 (.node k []) := ⟨by simp [Tm.node], fun c _ => by simp [Tm.node, Tm.times_mk, Tm.timess, h]⟩
theorem cnt_node1 {k : Int} (h : k ≠ 1) (h2 : k ≠ 2) {B : Nat} {V : Int} {x : Tm} (hx : Cnt B V x) : Cnt (1 + B) V (.node k [x]) :=
  ⟨by have := hx.1; simp [Tm.node]; omega, fun c hc => by have := hx.2 c hc; simp [Tm.node, Tm.times_mk, Tm.timess, h, h2]; omega⟩
theorem cnt_node2 {k : Int} (h : k ≠ 1) (h2 : k ≠ 2) {B B' : Nat} {V V' : Int} {x y : Tm} (hx : Cnt B V x) (hy : Cnt B' V' y) : Cnt (1 + B + B') (V + V') (.node k [x, y]) :=
  ⟨by have := hx.1; have := hy.1; simp [Tm.node]; omega, fun c hc => by have := hx.2 c hc; have := hy.2 c hc; simp [Tm.node, Tm.times_mk, Tm.timess, h, h2]; omega⟩
theorem cnt_tnode3 {k : Int} (h : k ≠ 1) (h2 : k ≠ 2) {s : Ty} {B B' B'' : Nat} {V V' V'' : Int} {x y z : Tm} (hx : Cnt B V x) (hy : Cnt B' V' y) (hz : Cnt B'' V'' z) : Cnt (1 + B + B' + B'') (V + V' + V'') (.tnode k s [x, y, z]) :=
  ⟨by have := hx.1; have := hy.1; have := hz.1; simp [Tm.tnode]; omega, fun c hc => by have := hx.2 c hc; have := hy.2 c hc; have := hz.2 c hc; simp [Tm.tnode, Tm.times_mk, Tm.timess, h, h2]; omega⟩
theorem cnt_lam {s : Ty} {B : Nat} {V : Int} {x : Tm} (hx : Cnt B V x) : Cnt (1 + B) V (.tnode 2 s [x]) :=
  ⟨by have := hx.1; simp [Tm.tnode]; omega, fun c hc => by have := hx.2 (c + 1) (by omega); simp [Tm.tnode, Tm.times_mk, Tm.timess]; omega⟩
theorem cnt_plus : Cnt 9 0 .plus := ⟨by rw [Tm.plus_count]; omega, fun c hc => by rw [Tm.plus_times hc]; omega⟩
theorem cnt_sub : Cnt 16 0 .sub := ⟨by rw [Tm.sub_count]; omega, fun c hc => by rw [Tm.sub_times hc]; omega⟩
theorem mkTerm0_cnt (t : Ty) : ∀ (g : List Ty) (r : List Int), (t.size ≤ 1 → Cnt 3 1 (mkTerm0 g t r).1) ∧ (t.size ≤ 3 → Cnt 7 2 (mkTerm0 g t r).1) := by
  induction t using Ty.ind with
  | _ k l ih =>
  intro g r
  unfold mkTerm0
  rcases hv : pickVar (vars g (.mk k l)) r with ⟨_ | i, r'⟩ <;> simp only
  rotate_left
  · exact ⟨fun _ => (cnt_var i).mono (by omega) (by omega), fun _ => (cnt_var i).mono (by omega) (by omega)⟩
  · split
    · have hn := next_range (n := 3) (by omega) r'
      have h := cnt_num (next 3 r').1.toNat
      exact ⟨fun _ => h.mono (by omega) (by omega), fun _ => h.mono (by omega) (by omega)⟩
    · split
      · exact ⟨fun _ => (cnt_node0 (by omega)).mono (by omega) (by omega), fun _ => (cnt_node0 (by omega)).mono (by omega) (by omega)⟩
      · split
        · rename_i a b
          have ha := a.size_pos
          have hb := b.size_pos
          split
          · refine ⟨fun h => by simp at h; omega, fun h => ?_⟩
            simp at h
            exact (cnt_node2 (by omega) (by omega) ((ih a (by simp) _ _).1 (by omega)) ((ih b (by simp) _ _).1 (by omega))).mono (by omega) (by omega)
          · split
            · refine ⟨fun h => by simp at h; omega, fun h => ?_⟩
              simp at h
              exact (cnt_lam ((ih b (by simp) _ _).1 (by omega))).mono (by omega) (by omega)
            · exact ⟨fun _ => (cnt_node0 (by omega)).mono (by omega) (by omega), fun _ => (cnt_node0 (by omega)).mono (by omega) (by omega)⟩
        · exact ⟨fun _ => (cnt_node0 (by omega)).mono (by omega) (by omega), fun _ => (cnt_node0 (by omega)).mono (by omega) (by omega)⟩
theorem cnt_plain {b bt S : Nat} {v vt W : Int} {F : List Ty → Ty → List Int → Tm × List Int} (t : Ty) (ht : t.ok = true ∧ t.size ≤ 3) (hv0 : 0 ≤ v) (hvt : 0 ≤ vt) (hb0 : 3 ≤ b)
    (h1 : ∀ g s r, Good 3 g → s.ok = true ∧ s.size ≤ 1 → Cnt b v (F g s r).1) (h2 : ∀ g r, Good 3 g → Cnt bt vt (F g t r).1)
    (hS : 18 + 2 * b ≤ S ∧ 4 + 2 * bt + b ≤ S) (hW : 2 * vt + v ≤ W ∧ 2 * v ≤ W) (g : List Ty) (r : List Int) (hg : Good 3 g) : Cnt S W (mkPlain F g t r).1 := by
  obtain ⟨k, l⟩ := t
  have hnat : Ty.nat.ok = true ∧ Ty.nat.size ≤ 1 := ⟨Ty.nat_ok, by simp⟩
  unfold mkPlain
  simp only
  split
  · rename_i hk
    have hsz : (Ty.mk k l).size ≤ 1 := by
      have h := ht.1
      subst hk
      simp [Ty.ok_mk, tyArity] at h
      have hl : l = [] := List.length_eq_zero_iff.1 h.1.symm
      simp [hl]
    have go : ∀ r, Cnt b v (F g (.mk k l) r).1 := fun r => h1 _ _ _ hg ⟨ht.1, hsz⟩
    split
    · exact (cnt_node1 (by omega) (by omega) (go _)).mono (by omega) (by omega)
    · split
      · exact (cnt_node2 (by omega) (by omega) (cnt_node2 (by omega) (by omega) cnt_plus (go _)) (go _)).mono (by omega) (by omega)
      · split
        · exact (cnt_node2 (by omega) (by omega) (cnt_node2 (by omega) (by omega) cnt_sub (go _)) (go _)).mono (by omega) (by omega)
        · have hn := next_range (n := 3) (by omega) (next 5 r).2
          exact (cnt_num _).mono (by omega) (by omega)
  · split
    · split
      · exact (cnt_node2 (by omega) (by omega) (h1 _ _ _ hg hnat) (h2 _ _ hg)).mono (by omega) (by omega)
      · exact (cnt_node0 (by omega)).mono (by omega) (by omega)
    · split
      · rename_i a c
        have hab := Ty.parts2 ht
        have hsz := ht.2
        have ha := a.size_pos
        have hc := c.size_pos
        simp at hsz
        split
        · exact (cnt_node2 (by omega) (by omega) (h1 _ _ _ hg ⟨hab.1.1, by omega⟩) (h1 _ _ _ hg ⟨hab.2.1, by omega⟩)).mono (by omega) (by omega)
        · split
          · exact (cnt_lam (h1 _ _ _ (hg.app (Good.one hab.1)) ⟨hab.2.1, by omega⟩)).mono (by omega) (by omega)
          · exact (cnt_node0 (by omega)).mono (by omega) (by omega)
      · exact (cnt_node0 (by omega)).mono (by omega) (by omega)
theorem mkTerm_step {d b bt S : Nat} {v vt W : Int} (t : Ty) (ht : t.ok = true ∧ t.size ≤ 3) (hv0 : 0 ≤ v) (hvt : 0 ≤ vt) (hb0 : 3 ≤ b)
    (h1 : ∀ g s r, Good 3 g → s.ok = true ∧ s.size ≤ 1 → Cnt b v (mkTerm d g s r).1) (h2 : ∀ g r, Good 3 g → Cnt bt vt (mkTerm d g t r).1)
    (hS : 18 + 2 * b ≤ S ∧ 4 + 2 * bt + b ≤ S ∧ 6 + 2 * bt ≤ S) (hW : 2 * vt + v ≤ W ∧ 1 + v ≤ W ∧ 2 * v ≤ W) (g : List Ty) (r : List Int) (hg : Good 3 g) : Cnt S W (mkTerm (d + 1) g t r).1 := by
  have hnat : Ty.nat.ok = true ∧ Ty.nat.size ≤ 1 := ⟨Ty.nat_ok, by simp⟩
  have hlist : Ty.list.ok = true ∧ Ty.list.size ≤ 1 := ⟨Ty.list_ok, by simp⟩
  have up3 : ∀ {s : Ty}, s.ok = true ∧ s.size ≤ 1 → s.ok = true ∧ s.size ≤ 3 := fun h => ⟨h.1, by have := h.2; omega⟩
  have plain : ∀ r, Cnt S W (mkPlain (mkTerm d) g t r).1 := fun r => cnt_plain t ht hv0 hvt hb0 h1 h2 ⟨hS.1, hS.2.1⟩ ⟨hW.1, hW.2.2⟩ g r hg
  unfold mkTerm
  split
  · rename_i i r' hv
    exact (cnt_var i).mono (by omega) (by omega)
  · rename_i r' hv
    simp only
    split
    · exact (cnt_node2 (by omega) (by omega) (cnt_lam (h2 _ _ (hg.app (Good.one (up3 (mkType0 _)))))) (h1 _ _ _ hg (mkType0 _))).mono (by omega) (by omega)
    · split
      · exact (cnt_node1 (by omega) (by omega) (cnt_node2 (by omega) (by omega) (h2 _ _ hg) (h1 _ _ _ hg (mkType0 _)))).mono (by omega) (by omega)
      · split
        · refine Cnt.mono (cnt_tnode3 (by omega) (by omega) (h2 _ _ hg) (cnt_lam (cnt_lam (h2 _ _ (hg.app (Good.cons (up3 hnat) (Good.one ht)))))) (cnt_num _)) ?_ (by omega)
          have hn := next_range (n := 3) (by omega) (mkTerm d g t (mkTerm d (g ++ [.nat, t]) t (next 8 r').2).2).2
          omega
        · split
          · exact (cnt_tnode3 (by omega) (by omega) (h2 _ _ hg) (cnt_lam (cnt_lam (cnt_lam (h2 _ _ (hg.app (Good.cons (up3 hnat) (Good.cons (up3 hlist) (Good.one ht)))))))) (h1 _ _ _ hg hlist)).mono (by omega) (by omega)
          · split
            · exact (cnt_node1 (by omega) (by omega) (cnt_node2 (by omega) (by omega) (h1 _ _ _ hg (mkType0 _)) (h2 _ _ hg))).mono (by omega) (by omega)
            · split
              · split
                · rename_i i a hf
                  obtain ⟨j, e1, e2, e3⟩ := funFrom_mem t _ _ _ _ hf
                  have hga := hg (.fn a t) (by have := List.mem_of_getElem? e3; simpa using this)
                  have ha := (Ty.parts2 hga).1
                  have hsz := hga.2
                  have htp := t.size_pos
                  simp [Ty.fn] at hsz
                  exact (cnt_node2 (by omega) (by omega) (cnt_var i) (h1 _ _ _ hg ⟨ha.1, by omega⟩)).mono (by omega) (by omega)
                · exact plain _
              · exact plain _
theorem mkTerm1_cnt (g : List Ty) (t : Ty) (r : List Int) (hg : Good 3 g) (ht : t.ok = true ∧ t.size ≤ 3) : Cnt 24 5 (mkTerm 1 g t r).1 :=
  mkTerm_step (d := 0) (b := 3) (bt := 7) (v := 1) (vt := 2) t ht (by omega) (by omega) (by omega) (fun g s r _ hs => (mkTerm0_cnt s g r).1 hs.2) (fun g r _ => (mkTerm0_cnt t g r).2 ht.2) (by omega) (by omega) g r hg
theorem mkTerm1_nat (g : List Ty) (r : List Int) (hg : Good 3 g) : Cnt 24 3 (mkTerm 1 g .nat r).1 :=
  mkTerm_step (d := 0) (b := 3) (bt := 3) (v := 1) (vt := 1) .nat ⟨Ty.nat_ok, by simp⟩ (by omega) (by omega) (by omega) (fun g s r _ hs => (mkTerm0_cnt s g r).1 hs.2) (fun g r _ => (mkTerm0_cnt .nat g r).1 (by simp)) (by omega) (by omega) g r hg
theorem mkTerm2_cnt (g : List Ty) (t : Ty) (r : List Int) (hg : Good 3 g) (ht : t.ok = true ∧ t.size ≤ 3) : (mkTerm 2 g t r).1.count ≤ 76 :=
  (mkTerm_step (d := 1) (b := 24) (bt := 24) (v := 5) (vt := 5) (S := 76) (W := 15) t ht (by omega) (by omega) (by omega) (fun g s r hg hs => mkTerm1_cnt g s r hg ⟨hs.1, by have := hs.2; omega⟩) (fun g r hg => mkTerm1_cnt g t r hg ht) (by omega) (by omega) g r hg).1
end Go.Proofs.YtcgmhnlmgomlgaaGreatDoor.V


namespace Go.Proofs.YtcgmhnlmgomlgaaGreatDoor.V
open Go
theorem Tm.sames_eq {l : List Tm} (h : ∀ x ∈ l, ∀ y, x.same y = true → x = y) : ∀ m, Tm.sames l m = true → l = m := by
  induction l with
  | nil => intro m hm; cases m with
    | nil => rfl
    | cons y m => simp [Tm.sames] at hm
  | cons x l ih =>
    intro m hm
    cases m with
    | nil => simp [Tm.sames] at hm
    | cons y m =>
      simp only [Tm.sames_cons, Bool.and_eq_true] at hm
      rw [h x (by simp) y hm.1, ih (fun z hz => h z (by simp [hz])) m hm.2]
theorem Tm.same_eq (a : Tm) : ∀ b, a.same b = true → a = b := by
  induction a using Tm.ind with
  | _ k i s l ih =>
    rintro ⟨k', i', s', l'⟩ h
    rw [Tm.same_mk] at h
    simp only [Bool.and_eq_true, beq_iff_eq] at h
    rw [h.1, h.2.1, (Ty.same_iff _ _).1 h.2.2.1, Tm.sames_eq ih _ h.2.2.2]
theorem Fm.sames_eq {l : List Fm} (h : ∀ x ∈ l, ∀ y, x.same y = true → x = y) : ∀ m, Fm.sames l m = true → l = m := by
  induction l with
  | nil => intro m hm; cases m with
    | nil => rfl
    | cons y m => simp [Fm.sames] at hm
  | cons x l ih =>
    intro m hm
    cases m with
    | nil => simp [Fm.sames] at hm
    | cons y m =>
      simp only [Fm.sames_cons, Bool.and_eq_true] at hm
      rw [h x (by simp) y hm.1, ih (fun z hz => h z (by simp [hz])) m hm.2]
theorem Fm.same_eq (a : Fm) : ∀ b, a.same b = true → a = b := by
  induction a using Fm.ind with
  | _ k s m l ih =>
    rintro ⟨k', s', m', l'⟩ h
    rw [Fm.same_mk] at h
    simp only [Bool.and_eq_true, beq_iff_eq] at h
    rw [h.1, (Ty.same_iff _ _).1 h.2.1, Tm.sames_eq (fun x _ => x.same_eq) _ h.2.2.1, Fm.sames_eq ih _ h.2.2.2]
theorem Tm.timess_congr {l : List Tm} {F : Tm → Tm} {a c : Int} (h : ∀ x ∈ l, (F x).times a = x.times c) : Tm.timess (l.map F) a = Tm.timess l c := by
  induction l with
  | nil => simp [Tm.timess]
  | cons x l ih => simp [Tm.timess, h x (by simp), ih fun y hy => h y (by simp [hy])]
theorem Tm.times_up_lt (t : Tm) : ∀ a b c : Int, 0 ≤ b → c < a → (t.up a b).times c = t.times c := by
  induction t using Tm.ind with
  | _ k i s l ih =>
    intro a b c hb h
    rw [Tm.up_mk, Tm.times_mk, Tm.times_mk]
    congr 1
    · by_cases hk : k = 1
      · simp only [hk, true_and]
        by_cases h1 : a ≤ i
        · rw [if_pos h1, if_neg (by omega), if_neg (by omega)]
        · rw [if_neg h1]
      · simp [hk]
    · exact Tm.timess_congr fun x hx => by split <;> exact ih x hx _ _ _ hb (by omega)
theorem Tm.times_up_ge (t : Tm) : ∀ a b c : Int, 0 ≤ b → a ≤ c → (t.up a b).times (c + b) = t.times c := by
  induction t using Tm.ind with
  | _ k i s l ih =>
    intro a b c hb h
    rw [Tm.up_mk, Tm.times_mk, Tm.times_mk]
    congr 1
    · by_cases hk : k = 1
      · simp only [hk, true_and]
        by_cases h1 : a ≤ i
        · rw [if_pos h1]
          by_cases h2 : i = c
          · rw [if_pos (by omega), if_pos h2]
          · rw [if_neg (by omega), if_neg h2]
        · rw [if_neg h1, if_neg (by omega), if_neg (by omega)]
      · simp [hk]
    · exact Tm.timess_congr fun x hx => by
        split
        · rw [show c + b + 1 = (c + 1) + b by omega]; exact ih x hx _ _ _ hb (by omega)
        · exact ih x hx _ _ _ hb (by omega)
theorem Tm.times_put (s : Tm) (t : Tm) : t.ok = true → ∀ a d c : Int, 0 ≤ c → c < a + d → (t.put a d s).times c = t.times c := by
  induction t using Tm.ind with
  | _ k i y l ih =>
    intro hok a d c hc h
    simp only [Tm.ok_mk, Bool.and_eq_true, Tm.oks_iff] at hok
    rw [Tm.put_mk]
    by_cases hk : k = 1
    · subst hk
      have hl : l = [] := List.length_eq_zero_iff.1 (Tm.head_var hok.1)
      subst hl
      simp only [if_true]
      by_cases hi : i = a + d
      · rw [if_pos hi, Tm.times_up s 0 (a + d) c hc (by omega), Tm.times_mk]
        simp [Tm.timess]
        omega
      · rw [if_neg hi]
        split
        · simp [Tm.var, Tm.times_mk, Tm.timess]
          split <;> split <;> omega
        · rfl
    · rw [if_neg hk, Tm.times_mk, Tm.times_mk]
      congr 1
      · exact Tm.timess_congr fun x hx => by
          split
          · exact ih x hx (hok.2 x hx) _ _ _ (by omega) (by omega)
          · exact ih x hx (hok.2 x hx) _ _ _ hc h
theorem sub_up {a b : Int} (h : 0 ≤ a) : Tm.sub.up a b = .sub := by
  simp [Tm.sub, Tm.pred, Tm.app, Tm.lamN, Tm.recN, Tm.tnode, Tm.node, Tm.var, Tm.up_mk]
  omega
theorem sub_put {a d : Int} {s : Tm} (h : 0 ≤ a + d) : Tm.sub.put a d s = .sub := by
  have h0 : ¬ (0 : Int) = a + (d + 1 + 1 + 1 + 1) := by omega
  simp [Tm.sub, Tm.pred, Tm.app, Tm.lamN, Tm.recN, Tm.tnode, Tm.node, Tm.var, Tm.put_mk]
  refine ⟨?_, ⟨⟨?_, ?_⟩, ?_⟩, ?_⟩ <;> rw [if_neg (by omega), if_neg (by omega)]
theorem less_up {t : Tm} {a b : Int} (h : 0 < a) : (less (.var 0) t).up a b = less (.var 0) (t.up a b) := by
  have h1 : ¬ a ≤ 0 := by omega
  simp [less, Fm.eq, Tm.app2, Tm.app, Tm.node, Fm.up_mk, Tm.up_mk, sub_up (show 0 ≤ a by omega), Tm.var, h1]
theorem less_put {t : Tm} {a d : Int} {s : Tm} (h : 0 < a + d) : (less (.var 0) t).put a d s = less (.var 0) (t.put a d s) := by
  have h1 : ¬ (0 : Int) = a + d := by omega
  have h2 : ¬ a + d < 0 := by omega
  simp [less, Fm.eq, Tm.app2, Tm.app, Tm.node, Fm.put_mk, Tm.put_mk, sub_put (show 0 ≤ a + d by omega), Tm.var, h1, h2]
def IsB (k : Int) (t : Ty) (x : Fm) (z : Fm) : Prop := ∃ (j : Int) (t2 : Ty) (m2 : List Tm) (u : Tm), ((k = 4 ∧ j = 3) ∨ (k = 5 ∧ j = 2)) ∧ t.kind = 1 ∧ x = .mk j t2 m2 [less (.var 0) u, z] ∧ u.times 0 ≤ 0
theorem bound_isB {k : Int} {t : Ty} {m : List Tm} {x : Fm} (hx : x.ok = true) (h : (Fm.mk k t m [x]).bound.2.2.2 = true) : ∃ z, IsB k t x z := by
  by_cases hk : k = 4 ∨ k = 5
  rotate_left
  · rw [bound_no (by omega) (by omega)] at h; cases h
  obtain ⟨all, j, hkj⟩ : ∃ (all : Bool) (j : Int), (k = 4 ∧ all = true ∧ j = 3) ∨ (k = 5 ∧ all = false ∧ j = 2) := by
    rcases hk with rfl | rfl
    · exact ⟨true, 3, .inl ⟨rfl, rfl, rfl⟩⟩
    · exact ⟨false, 2, .inr ⟨rfl, rfl, rfl⟩⟩
  rw [bound_q hkj] at h
  split at h
  · cases h
  rename_i h1
  split at h
  · cases h
  rename_i h2
  obtain ⟨k2, t2, m2, l2⟩ := x
  have q1 : t.kind = 1 := Decidable.byContradiction fun hn => h1 (.inl hn)
  have q2 : k2 = j := Decidable.byContradiction fun hn => h1 (.inr (.inl hn))
  have q3 : ((Fm.mk k2 t2 m2 l2).kid 0).same (less (.var 0) ((((Fm.mk k2 t2 m2 l2).kid 0).tms.getD 0 .zeroT).kid 1)) = true := by
    cases hs : ((Fm.mk k2 t2 m2 l2).kid 0).same (less (.var 0) ((((Fm.mk k2 t2 m2 l2).kid 0).tms.getD 0 .zeroT).kid 1)) with
    | true => rfl
    | false => exact absurd (.inr (.inr hs)) h2
  have q4 : ¬ 0 < ((((Fm.mk k2 t2 m2 l2).kid 0).tms.getD 0 .zeroT).kid 1).times 0 := fun hn => h2 (.inr (.inl hn))
  have e := Fm.same_eq _ _ q3
  obtain ⟨y, z, rfl⟩ : ∃ y z, l2 = [y, z] := by
    rcases Fm.shape hx with ⟨rfl, rfl⟩ | ⟨_, y, z, rfl, _, _⟩ | ⟨hk, _⟩
    · omega
    · exact ⟨y, z, rfl⟩
    · omega
  have e' : y = less (.var 0) (((y.tms.getD 0 .zeroT)).kid 1) := e
  refine ⟨z, k2, t2, m2, ((y.tms.getD 0 .zeroT)).kid 1, by omega, q1, by rw [← e'], ?_⟩
  have : ¬ 0 < (((y.tms.getD 0 .zeroT)).kid 1).times 0 := q4
  omega
theorem isB_bound {k : Int} {t : Ty} {m : List Tm} {x z : Fm} (h : IsB k t x z) : (Fm.mk k t m [x]).bound.2.2.2 = true ∧ (x.kids.map Fm.cls).getD 1 .none = z.cls := by
  obtain ⟨j, t2, m2, u, hk, ht, rfl, hu⟩ := h
  refine ⟨?_, by simp [Fm.kids]⟩
  obtain ⟨all, hkj⟩ : ∃ (all : Bool), (k = 4 ∧ all = true ∧ j = 3) ∨ (k = 5 ∧ all = false ∧ j = 2) := by
    rcases hk with ⟨rfl, rfl⟩ | ⟨rfl, rfl⟩
    · exact ⟨true, .inl ⟨rfl, rfl, rfl⟩⟩
    · exact ⟨false, .inr ⟨rfl, rfl, rfl⟩⟩
  have hs := Fm.same_refl (less (.var 0) u)
  have hu' : ¬ 0 < u.times 0 := by omega
  rw [bound_q hkj]
  simp [less, Fm.eq, Tm.app2, Tm.app, Tm.node] at hs
  simp [ht, Fm.kid, Fm.kids, Fm.kind, less, Fm.eq, Fm.tms, Tm.app2, Tm.app, Tm.node, Tm.kind, Tm.kid, Tm.kids, hu', hs]
theorem cls_q_d {k : Int} (hk : k = 4 ∨ k = 5 ∨ k = 6 ∨ k = 7) {t : Ty} {m : List Tm} {x : Fm} (hx : x.ok = true) (h : (Fm.mk k t m [x]).cls.d = true) : ∃ z, IsB k t x z ∧ z.cls.d = true := by
  rw [cls_q hk] at h
  simp only at h
  split at h
  · rename_i hb
    obtain ⟨z, hz⟩ := bound_isB hx hb
    exact ⟨z, hz, by rw [(isB_bound (m := m) hz).2] at h; exact h⟩
  · cases h
theorem isB_cls {k : Int} (hk : k = 4 ∨ k = 5 ∨ k = 6 ∨ k = 7) {t : Ty} {m : List Tm} {x z : Fm} (h : IsB k t x z) (hz : z.cls.d = true) : (Fm.mk k t m [x]).cls.d = true := by
  obtain ⟨h1, h2⟩ := isB_bound (m := m) h
  rw [cls_q hk, h1, h2]
  simpa using hz
theorem fmQ_iff {k : Int} : fmQ k = true ↔ k = 4 ∨ k = 5 ∨ k = 6 ∨ k = 7 := by simp [fmQ]; omega
theorem cls_up (N : Nat) : ∀ f : Fm, f.size ≤ N → f.ok = true → ∀ a b : Int, 0 ≤ a → 0 ≤ b → (f.up a b).cls.q = f.cls.q ∧ (f.cls.d = true → (f.up a b).cls.d = true) := by
  induction N with
  | zero => intro f h; have := f.size_pos; omega
  | succ N ih =>
  rintro ⟨k, t, m, l⟩ hN hok a b ha hb
  rw [Fm.up_mk]
  rcases Fm.shape hok with ⟨rfl, rfl⟩ | ⟨hk, y, x, rfl, hy, hx⟩ | ⟨hk, ht, x, rfl, hx⟩
  · simp [cls_eq]
  · simp at hN
    have hq : fmQ k = false := by rcases hk with rfl | rfl <;> rfl
    obtain ⟨y1, y2⟩ := ih y (by omega) hy a b ha hb
    obtain ⟨x1, x2⟩ := ih x (by omega) hx a b ha hb
    simp only [hq, List.map_cons, List.map_nil, cls_two hk, Bool.and_eq_true]
    refine ⟨by simp [y1, x1], fun h => ⟨y2 h.1, x2 h.2⟩⟩
  · have hq : fmQ k = true := fmQ_iff.2 hk
    simp at hN
    simp only [hq, if_true, List.map_cons, List.map_nil]
    refine ⟨by rw [cls_q hk, cls_q hk], fun h => ?_⟩
    obtain ⟨z, ⟨j, t2, m2, u, h1, h2, rfl, h4⟩, hz⟩ := cls_q_d hk hx h
    have hjq : fmQ j = false := by rcases h1 with ⟨_, rfl⟩ | ⟨_, rfl⟩ <;> rfl
    simp only [Fm.ok_mk, Bool.and_eq_true, Fm.oks_iff] at hx
    simp at hN
    refine isB_cls hk (z := z.up (a + 1) b) ⟨j, t2, m2.map fun x => x.up (a + 1) b, u.up (a + 1) b, h1, h2, ?_, ?_⟩ ((ih z (by omega) (hx.2.2 z (by simp)) _ _ (by omega) hb).2 hz)
    · rw [Fm.up_mk]
      simp [hjq, less_up (show 0 < a + 1 by omega)]
    · rw [Tm.times_up_lt u _ _ _ hb (by omega)]; exact h4
theorem cls_put (s : Tm) (N : Nat) : ∀ f : Fm, f.size ≤ N → f.ok = true → ∀ a d : Int, 0 ≤ a → 0 ≤ d → (f.put a d s).cls.q = f.cls.q ∧ (f.cls.d = true → (f.put a d s).cls.d = true) := by
  induction N with
  | zero => intro f h; have := f.size_pos; omega
  | succ N ih =>
  rintro ⟨k, t, m, l⟩ hN hok a d ha hb
  rw [Fm.put_mk]
  rcases Fm.shape hok with ⟨rfl, rfl⟩ | ⟨hk, y, x, rfl, hy, hx⟩ | ⟨hk, ht, x, rfl, hx⟩
  · simp [cls_eq]
  · simp at hN
    have hq : fmQ k = false := by rcases hk with rfl | rfl <;> rfl
    obtain ⟨y1, y2⟩ := ih y (by omega) hy a d ha hb
    obtain ⟨x1, x2⟩ := ih x (by omega) hx a d ha hb
    simp only [hq, List.map_cons, List.map_nil, cls_two hk, Bool.and_eq_true]
    refine ⟨by simp [y1, x1], fun h => ⟨y2 h.1, x2 h.2⟩⟩
  · have hq : fmQ k = true := fmQ_iff.2 hk
    simp at hN
    simp only [hq, if_true, List.map_cons, List.map_nil]
    refine ⟨by rw [cls_q hk, cls_q hk], fun h => ?_⟩
    obtain ⟨z, ⟨j, t2, m2, u, h1, h2, rfl, h4⟩, hz⟩ := cls_q_d hk hx h
    have hjq : fmQ j = false := by rcases h1 with ⟨_, rfl⟩ | ⟨_, rfl⟩ <;> rfl
    simp only [Fm.ok_mk, Bool.and_eq_true, Fm.oks_iff] at hx
    have huo : u.ok = true := by
      have h := hx.2.2 (less (.var 0) u) (by simp)
      simp only [less, Fm.eq, Fm.ok_mk, Bool.and_eq_true, Tm.oks_iff] at h
      have h5 := h.2.1 (.app2 .sub (.node 5 [.var 0]) u) (by simp)
      simp only [Tm.app2, Tm.app, Tm.node, Tm.ok_mk, Bool.and_eq_true, Tm.oks_iff] at h5
      exact h5.2 u (by simp)
    simp at hN
    refine isB_cls hk (z := z.put a (d + 1) s) ⟨j, t2, m2.map fun x => x.put a (d + 1) s, u.put a (d + 1) s, h1, h2, ?_, ?_⟩ ((ih z (by omega) (hx.2.2 z (by simp)) _ _ ha (by omega)).2 hz)
    · rw [Fm.put_mk]
      simp [hjq, less_put (show 0 < a + (d + 1) by omega)]
    · rw [Tm.times_put s u huo _ _ _ (by omega) (by omega)]; exact h4
theorem has_up (f : Fm) : ∀ a b, (f.up a b).has = f.has := by
  induction f using Fm.ind with
  | _ k t m l ih =>
    intro a b
    rw [Fm.up_mk, Fm.has_mk, Fm.has_mk, List.map_map]
    have e : l.map (Fm.has ∘ fun x => x.up (if fmQ k = true then a + 1 else a) b) = l.map Fm.has := List.map_congr_left fun x hx => ih x hx _ _
    rw [e]
theorem has_put (s : Tm) (f : Fm) : ∀ a d, (f.put a d s).has = f.has := by
  induction f using Fm.ind with
  | _ k t m l ih =>
    intro a d
    rw [Fm.put_mk, Fm.has_mk, Fm.has_mk, List.map_map]
    have e : l.map (Fm.has ∘ fun x => x.put a (if fmQ k = true then d + 1 else d) s) = l.map Fm.has := List.map_congr_left fun x hx => ih x hx _ _
    rw [e]
theorem cls_free (f : Fm) : f.ok = true → f.cls.q = true → f.cls.d = true := by
  induction f using Fm.ind with
  | _ k t m l ih =>
    intro hok h
    rcases Fm.shape hok with ⟨rfl, rfl⟩ | ⟨hk, y, x, rfl, hy, hx⟩ | ⟨hk, ht, x, rfl, hx⟩
    · simp [cls_eq]
    · rw [cls_two hk] at h ⊢
      simp only [Bool.and_eq_true] at h ⊢
      exact ⟨ih y (by simp) hy h.1, ih x (by simp) hx h.2⟩
    · rw [cls_q hk] at h; cases h
end Go.Proofs.YtcgmhnlmgomlgaaGreatDoor.V


namespace Go.Proofs.YtcgmhnlmgomlgaaGreatDoor.V
open Go
def CntF (B : Nat) (V : Int) (f : Fm) : Prop := f.count ≤ B ∧ ∀ c, 0 ≤ c → f.times c ≤ V
theorem CntF.mono {B B' : Nat} {V V' : Int} {t : Fm} (h : CntF B V t) (hB : B ≤ B') (hV : V ≤ V') : CntF B' V' t := ⟨Nat.le_trans h.1 hB, fun c hc => Int.le_trans (h.2 c hc) hV⟩
theorem cnt_eqF {B B' : Nat} {V V' : Int} {s t : Tm} (hs : Cnt B V s) (ht : Cnt B' V' t) : CntF (1 + B + B') (V + V') (.eq s t) :=
  ⟨by have := hs.1; have := ht.1; simp [Fm.eq]; omega, fun c hc => by have := hs.2 c hc; have := ht.2 c hc; simp [Fm.eq, Fm.times_mk, Tm.timess, Fm.timess]; omega⟩
theorem cnt_twoF {k : Int} (hk : k = 2 ∨ k = 3) {B B' : Nat} {V V' : Int} {f g : Fm} (hf : CntF B V f) (hg : CntF B' V' g) : CntF (1 + B + B') (V + V') (.two k f g) := by
  have hq : fmQ k = false := by rcases hk with rfl | rfl <;> rfl
  exact ⟨by have := hf.1; have := hg.1; simp [Fm.two]; omega, fun c hc => by have := hf.2 c hc; have := hg.2 c hc; simp [Fm.two, Fm.times_mk, Tm.timess, Fm.timess, hq]; omega⟩
theorem cnt_qF {k : Int} (hk : k = 4 ∨ k = 5 ∨ k = 6 ∨ k = 7) {s : Ty} {B : Nat} {V : Int} {f : Fm} (hf : CntF B V f) : CntF (1 + B) V (.q k s f) := by
  have hq : fmQ k = true := fmQ_iff.2 hk
  exact ⟨by have := hf.1; simp [Fm.q]; omega, fun c hc => by have := hf.2 (c + 1) (by omega); simp [Fm.q, Fm.times_mk, Tm.timess, Fm.timess, hq]; omega⟩
theorem cnt_less {B : Nat} {V : Int} {t : Tm} (ht : Cnt B V t) : (less (.var 0) t).count ≤ 22 + B ∧ ∀ c, 0 < c → (less (.var 0) t).times c ≤ V := by
  refine ⟨?_, fun c hc => ?_⟩
  · have := ht.1
    simp [less, Fm.eq, Tm.app2, Tm.app, Tm.node, Tm.sub_count, Tm.var]
    omega
  · have := ht.2 c (by omega)
    have hs := Tm.sub_times (c := c) (by omega)
    have h0 : ¬ (0 : Int) = c := by omega
    simp [less, Fm.eq, Tm.app2, Tm.app, Tm.node, Tm.var, Fm.times_mk, Tm.times_mk, Tm.timess, Fm.timess, hs, h0]
    omega
def fcB : Nat → Nat
  | 0 => 49
  | d + 1 => 2 * fcB d + 1
def fvB : Nat → Int
  | 0 => 6
  | d + 1 => 2 * fvB d
theorem fcB_ge (d : Nat) : 49 ≤ fcB d := by induction d with
  | zero => simp [fcB]
  | succ d ih => simp only [fcB]; omega
theorem fvB_ge (d : Nat) : 6 ≤ fvB d := by induction d with
  | zero => simp [fvB]
  | succ d ih => simp only [fvB]; omega
theorem eqn_cnt (g : List Ty) (r : List Int) (hg : Good 3 g) (d : Nat) : CntF (fcB d) (fvB d) (.eq (mkTerm 1 g .nat r).1 (mkTerm 1 g .nat (mkTerm 1 g .nat r).2).1) :=
  (cnt_eqF (mkTerm1_nat g r hg) (mkTerm1_nat g _ hg)).mono (by have := fcB_ge d; omega) (by have := fvB_ge d; omega)
theorem mkFormula_cnt (d : Nat) : ∀ (g : List Ty) (r : List Int), Good 3 g → CntF (fcB d) (fvB d) (mkFormula d g r).1 := by
  induction d with
  | zero => exact fun g r hg => eqn_cnt g r hg 0
  | succ d ih =>
    intro g r hg
    have h49 := fcB_ge d
    have h6 := fvB_ge d
    have two : ∀ k, k = 2 ∨ k = 3 → CntF (fcB (d + 1)) (fvB (d + 1)) (.two k (mkFormula d g (next 9 r).2).1 (mkFormula d g (mkFormula d g (next 9 r).2).2).1) := fun k hk => (cnt_twoF hk (ih _ _ hg) (ih _ _ hg)).mono (by simp only [fcB]; omega) (by simp only [fvB]; omega)
    have q : ∀ k s r', k = 4 ∨ k = 5 ∨ k = 6 ∨ k = 7 → s.ok = true ∧ s.size ≤ 3 → CntF (fcB (d + 1)) (fvB (d + 1)) (.q k s (mkFormula d (g ++ [s]) r').1) := fun k s r' hk hs => (cnt_qF hk (ih _ _ (hg.app (Good.one hs)))).mono (by simp only [fcB]; omega) (by simp only [fvB]; omega)
    unfold mkFormula
    simp only
    split
    · exact two 2 (.inl rfl)
    · split
      · exact two 3 (.inr rfl)
      · split
        · exact q 4 _ _ (by simp) (mkType1 _)
        · split
          · exact q 5 _ _ (by simp) (mkType1 _)
          · split
            · refine q _ _ _ ?_ ⟨(mkType0 _).1, by have := (mkType0 (next 9 r).2).2; omega⟩
              have := next_range (n := 2) (by omega) (mkType 0 (next 9 r).2).2
              omega
            · exact eqn_cnt g _ hg (d + 1)
theorem mkDec_cnt (d : Nat) : ∀ (g : List Ty) (r : List Int), Good 3 g → CntF (fcB d) (fvB d) (mkDec d g r).1 := by
  induction d with
  | zero => exact fun g r hg => eqn_cnt g r hg 0
  | succ d ih =>
    intro g r hg
    have h49 := fcB_ge d
    have h6 := fvB_ge d
    have two : ∀ k, k = 2 ∨ k = 3 → CntF (fcB (d + 1)) (fvB (d + 1)) (.two k (mkDec d g (next 6 r).2).1 (mkDec d g (mkDec d g (next 6 r).2).2).1) := fun k hk => (cnt_twoF hk (ih _ _ hg) (ih _ _ hg)).mono (by simp only [fcB]; omega) (by simp only [fvB]; omega)
    have eqn : ∀ r', CntF (fcB (d + 1)) (fvB (d + 1)) (mkEq g r').1 := fun r' => eqn_cnt g r' hg (d + 1)
    unfold mkDec
    simp only
    split
    · exact two 2 (.inl rfl)
    · split
      · exact two 3 (.inr rfl)
      · split
        · split
          · rename_i hb
            obtain ⟨b1, b2, b3, b4⟩ := bounded_ok hb
            simp only
            rw [b3]
            have ht := mkTerm1_nat g (next 2 (next 6 r).2).2 hg
            have hf := ih (g ++ [.nat]) (mkTerm 1 g .nat (next 2 (next 6 r).2).2).2 (hg.app (Good.one ⟨Ty.nat_ok, by simp⟩))
            generalize (mkTerm 1 g .nat (next 2 (next 6 r).2).2).1 = t at ht
            generalize (mkDec d (g ++ [.nat]) (mkTerm 1 g .nat (next 2 (next 6 r).2).2).2).1 = f at hf
            generalize ((next 2 (next 6 r).2).1 == 0) = all
            obtain ⟨l1, l2⟩ := cnt_less (B := 24) (V := 1000) (t := t.up 0 1) ⟨by rw [Tm.up_count]; exact ht.1, fun c hc => by
              by_cases h : c = 0
              · rw [h, Tm.times_up t 0 1 0 (by omega) (by omega)]; omega
              · have := Tm.times_up_ge t 0 1 (c - 1) (by omega) (by omega)
                rw [show c - 1 + 1 = c by omega] at this
                rw [this]
                have := ht.2 (c - 1) (by omega)
                omega⟩
            have l3 : ∀ c, 0 < c → (less (.var 0) (t.up 0 1)).times c ≤ 3 := fun c hc => by
              have h1 := Tm.times_up_ge t 0 1 (c - 1) (by omega) (by omega)
              rw [show c - 1 + 1 = c by omega] at h1
              have h2 := ht.2 (c - 1) (by omega)
              have hs := Tm.sub_times (c := c) (by omega)
              have h0 : ¬ (0 : Int) = c := by omega
              simp [less, Fm.eq, Tm.app2, Tm.app, Tm.node, Tm.var, Fm.times_mk, Tm.times_mk, Tm.timess, Fm.timess, hs, h0]
              omega
            refine ⟨?_, fun c hc => ?_⟩
            · have := hf.1
              simp [bform, Fm.q, Fm.two]
              simp only [fcB]
              omega
            · have h1 := hf.2 (c + 1) (by omega)
              have h2 := l3 (c + 1) (by omega)
              have q1 : fmQ (if all = true then 4 else 5) = true := by cases all <;> rfl
              have q2 : fmQ (if all = true then 3 else 2) = false := by cases all <;> rfl
              simp [bform, Fm.q, Fm.two, Fm.times_mk, Tm.timess, Fm.timess, q1, q2]
              simp only [fvB]
              omega
          · exact eqn _
        · exact eqn _
theorem put_small {f : Fm} {s : Tm} (hf : CntF 399 48 f) (hk : f.ok = true) (hs : s.count ≤ 76) (hso : s.ok = true) (hfl : f.least 536870912 = true) (hsl : s.least 536870912 = true) :
    f.putIn 0 s = (f.put 0 0 s, 0) ∧ (f.put 0 0 s).check = 0 := by
  have hfc := Fm.check_small hk (Nat.le_trans hf.1 (by omega))
  have hsc : s.check = 0 := by unfold Tm.check; rw [if_pos hso, if_pos (by omega)]
  have hs1 : 1 ≤ s.count := by cases s; simp
  have ht := hf.2 0 (by omega)
  have hm : f.times 0 * ((s.count : Int) - 1) ≤ 48 * 75 :=
    Int.le_trans (Int.mul_le_mul_of_nonneg_right ht (by omega)) (Int.mul_le_mul_of_nonneg_left (by omega) (by omega))
  have hc := hf.1
  have hb : ¬ 4096 < (f.count : Int) + f.times 0 * ((s.count : Int) - 1) := by omega
  refine ⟨by simp [Fm.putIn, hfc, hsc, hfl, hsl, hb], ?_⟩
  refine Fm.check_small (Fm.put_ok f hso _ _ (by omega) (by omega) hk) ?_
  have := Fm.put_count f s 0 0 hk
  rw [show (0 : Int) + 0 = 0 from rfl] at this
  omega
theorem lift_small {f : Fm} (hf : CntF 399 48 f) (hk : f.ok = true) (hfl : f.least 536870912 = true) : f.lift 0 2 = (f.up 0 2, 0) ∧ (f.up 0 2).check = 0 := by
  have hfc := Fm.check_small hk (Nat.le_trans hf.1 (by omega))
  refine ⟨by simp [Fm.lift, hfc, hfl], Fm.check_small (Fm.up_ok f _ _ (by omega) hk) ?_⟩
  rw [Fm.up_count]
  exact Nat.le_trans hf.1 (by omega)
end Go.Proofs.YtcgmhnlmgomlgaaGreatDoor.V


namespace Go.Proofs.YtcgmhnlmgomlgaaGreatDoor.V
open Go
theorem Tm.least_mono {m M : Int} (h : m ≤ M) (t : Tm) : t.least m = true → t.least M = true := by
  induction t using Tm.ind with
  | _ k i s l ih =>
    rw [Tm.least, Tm.least]
    simp only [Bool.and_eq_true, decide_eq_true_eq, Tm.leasts_iff]
    exact fun ⟨h1, h2⟩ => ⟨by omega, fun x hx => ih x hx (h2 x hx)⟩
theorem Tm.put_least {m M : Int} {s : Tm} (hs : s.least m = true) (t : Tm) : ∀ a d : Int, 0 ≤ a → 0 ≤ d → m + a + d + t.size ≤ M → t.least m = true → (t.put a d s).least M = true := by
  induction t using Tm.ind with
  | _ k i y l ih =>
    intro a d ha hd hM h
    have h' := h
    rw [Tm.least] at h
    simp only [Bool.and_eq_true, decide_eq_true_eq, Tm.leasts_iff] at h
    simp at hM
    rw [Tm.put_mk]
    split
    · split
      · exact Tm.least_mono (by omega) _ (Tm.up_least (by omega) s 0 hs)
      · split
        · exact Tm.var_least (by omega)
        · exact Tm.least_mono (by omega) _ h'
    · rw [Tm.least]
      simp only [Bool.and_eq_true, decide_eq_true_eq, Tm.leasts_iff]
      refine ⟨by omega, fun x hx => ?_⟩
      obtain ⟨z, hz, rfl⟩ := List.mem_map.1 hx
      have hsz := Tm.sizes_mem hz
      have hp := y.size_pos
      exact ih z hz _ _ ha (by split <;> omega) (by split <;> omega) (h.2 z hz)
theorem Fm.up_least {m b : Int} (hb : 0 ≤ b) (f : Fm) : ∀ a, f.least m = true → (f.up a b).least (m + b) = true := by
  induction f using Fm.ind with
  | _ k t n l ih =>
    intro a h
    rw [Fm.up_mk, Fm.least]
    rw [Fm.least] at h
    simp only [Bool.and_eq_true, Tm.leasts_iff, Fm.leasts_iff] at h ⊢
    refine ⟨fun x hx => ?_, fun x hx => ?_⟩
    · obtain ⟨y, hy, rfl⟩ := List.mem_map.1 hx
      exact Tm.up_least hb y _ (h.1 y hy)
    · obtain ⟨y, hy, rfl⟩ := List.mem_map.1 hx
      exact ih y hy _ (h.2 y hy)
theorem Fm.put_least {m M : Int} {s : Tm} (hs : s.least m = true) (f : Fm) : ∀ a d : Int, 0 ≤ a → 0 ≤ d → m + a + d + f.size ≤ M → f.least m = true → (f.put a d s).least M = true := by
  induction f using Fm.ind with
  | _ k t n l ih =>
    intro a d ha hd hM h
    simp at hM
    rw [Fm.put_mk, Fm.least]
    rw [Fm.least] at h
    simp only [Bool.and_eq_true, Tm.leasts_iff, Fm.leasts_iff] at h ⊢
    refine ⟨fun x hx => ?_, fun x hx => ?_⟩
    · obtain ⟨y, hy, rfl⟩ := List.mem_map.1 hx
      have := Tm.sizes_mem hy
      exact Tm.put_least hs y _ _ ha hd (by omega) (h.1 y hy)
    · obtain ⟨y, hy, rfl⟩ := List.mem_map.1 hx
      have := Fm.sizes_mem hy
      have hp := t.size_pos
      exact ih y hy _ _ ha (by split <;> omega) (by split <;> omega) (h.2 y hy)
theorem Fm.least_mono {m M : Int} (h : m ≤ M) (t : Fm) : t.least m = true → t.least M = true := by
  induction t using Fm.ind with
  | _ k s n l ih =>
    rw [Fm.least, Fm.least]
    simp only [Bool.and_eq_true, Tm.leasts_iff, Fm.leasts_iff]
    exact fun ⟨h1, h2⟩ => ⟨fun x hx => Tm.least_mono h x (h1 x hx), fun x hx => ih x hx (h2 x hx)⟩
structure Stays (f : Fm) : Prop where
  ok : f.ok = true
  cnt : CntF 399 48 f
  size : f.size ≤ 3000
  least : f.least 536870912 = true
theorem Stays.check {f : Fm} (h : Stays f) : f.check = 0 := Fm.check_small h.ok (Nat.le_trans h.cnt.1 (by omega))
end Go.Proofs.YtcgmhnlmgomlgaaGreatDoor.V


set_option maxRecDepth 100000
namespace Go.Proofs.YtcgmhnlmgomlgaaGreatDoor.V
open Go Go.Proofs
theorem uand2' (x : Cls) : uand x.n 2 = if x.q = true then 2 else 0 := by
  obtain ⟨a, b, c⟩ := x
  cases a <;> cases b <;> cases c <;> rfl
theorem c24' (f : Fm) (hsz : f.size ≤ 549755813888) (hle : f.least 9223372036854775807 = true) (hc : f.check = 0) (σ : List Frm) : CallsV cfg 24 [.agg (encF f)] σ (.val (.tup [.one (.bool f.has), .one (.int .i64 0)])) σ := by
  have h := c24 f hsz hle σ
  rw [hasOf_eq hc, hc] at h
  exact h
theorem c25 (f : Fm) (hsz : f.size ≤ 549755813888) (hle : f.least 9223372036854775807 = true) (hc : f.check = 0) (σ : List Frm) : CallsV cfg 25 [.agg (encF f)] σ (.val (.tup [.one (.bool f.cls.q), .one (.int .i64 0)])) σ := by
  refine w25 (by simp) ?_
  rw [s25]
  simp
  refine opV_call (c76 f hsz hle 2 _) (by simp) ?_
  cases hf : f.cls.q <;> simp [hc, uand2', hf]
theorem c26 (f : Fm) (hsz : f.size ≤ 549755813888) (hle : f.least 9223372036854775807 = true) (hc : f.check = 0) (σ : List Frm) : CallsV cfg 26 [.agg (encF f)] σ (.val (.tup [.one (.bool f.cls.d), .one (.int .i64 0)])) σ := by
  refine w26 (by simp) ?_
  rw [s26]
  simp
  refine opV_call (c76 f hsz hle 4 _) (by simp) ?_
  cases hf : f.cls.d <;> simp [hc, uand4', hf]
structure Kept (f x : Fm) : Prop where
  check : x.check = 0
  size : x.size ≤ 549755813888
  least : x.least 9223372036854775807 = true
  has : x.has = f.has
  q : x.cls.q = f.cls.q
  d : f.cls.d = true → x.cls.d = true
theorem kept_up {f : Fm} (h : Stays f) : Kept f (f.up 0 2) := by
  obtain ⟨h1, h2⟩ := lift_small h.cnt h.ok h.least
  obtain ⟨q, d⟩ := cls_up f.size f (Nat.le_refl _) h.ok 0 2 (by omega) (by omega)
  have hl := Fm.up_least (b := 2) (by omega) f 0 h.least
  exact ⟨h2, by rw [Fm.up_size]; have := h.size; omega, Fm.least_mono (by omega) _ hl, has_up f 0 2, q, d⟩
theorem kept_put {f : Fm} {s : Tm} (h : Stays f) (hs : s.count ≤ 76) (hz : s.size ≤ 1000) (hso : s.ok = true) (hsl : s.least 536870912 = true) : Kept f (f.put 0 0 s) := by
  obtain ⟨h1, h2⟩ := put_small h.cnt h.ok hs hso h.least hsl
  obtain ⟨q, d⟩ := cls_put s f.size f (Nat.le_refl _) h.ok 0 0 (by omega) (by omega)
  have hl := Fm.put_least (M := 9223372036854775807) hsl f 0 0 (by omega) (by omega) (by have := h.size; omega) h.least
  have hp := Fm.put_size f s 0 0
  have ht := h.cnt.2 0 (by omega)
  have hm : f.times 0 * (s.size : Int) ≤ 48 * 1000 := Int.le_trans (Int.mul_le_mul_of_nonneg_right ht (by omega)) (Int.mul_le_mul_of_nonneg_left (by omega) (by omega))
  rw [show (0 : Int) + 0 = 0 from rfl] at hp
  have := h.size
  exact ⟨h2, by omega, hl, has_put s f 0 0, q, d⟩
def i4a (l : List Int) (g : List Ty) (s : Ty) (L : List Fm) (σ : List Frm) (j : Nat) : St → Prop
  | ⟨env, loc, σ', _⟩ => ∃ r, r <:+ l ∧ env 3 = .one (.box σ.length 33 0 0) ∧ env 4 = .one (.slice .no 2 (g.map enc)) ∧ env 5 = .one (.box σ.length 5 0 0) ∧ env 49 = .one (.slice .full 5 (L.map encF)) ∧ env 50 = .one (.int .i64 2) ∧ env 51 = .one (.int .i64 j) ∧
    loc 33 = [deckC l r] ∧ loc 5 = [enc s] ∧ σ' = σ
def i4b (l : List Int) (g : List Ty) (s : Ty) (L : List Fm) (f : Fm) (K : List Fm) (σ : List Frm) (i j : Nat) : St → Prop
  | ⟨env, loc, σ', _⟩ => ∃ r, r <:+ l ∧ env 3 = .one (.box σ.length 33 0 0) ∧ env 4 = .one (.slice .no 2 (g.map enc)) ∧ env 5 = .one (.box σ.length 5 0 0) ∧ env 13 = .one (.bool f.has) ∧ env 15 = .one (.bool f.cls.q) ∧ env 17 = .one (.bool f.cls.d) ∧ env 49 = .one (.slice .full 5 (L.map encF)) ∧ env 50 = .one (.int .i64 2) ∧ env 51 = .one (.int .i64 i) ∧
    env 103 = .one (.slice .full 5 (K.map encF)) ∧ env 104 = .one (.int .i64 2) ∧ env 105 = .one (.int .i64 j) ∧ loc 33 = [deckC l r] ∧ loc 5 = [enc s] ∧ σ' = σ
theorem law4 (l : List Int) (hi : i64s l) (σ : List Frm) : CallsV cfg 4 [.one (.slice .no 1 (encI l))] σ (.val (.one (.bool true))) σ := by
  refine w4 (by simp) ?_
  rw [s4]
  simp
  refine opV_call (c7 _) (by simp) ?_
  simp
  refine opV_call (c8 l _) (by simp) ?_
  by_cases hl : l.length ≤ 500
  rotate_left
  · simp [hl]
  simp [hl]
  have hd : Dk l := ⟨by omega, hi⟩
  refine opV_new (c9 l _) (by simp) ?_
  simp
  refine opV_own1 (d10 hd ⟨σ.length, 33, 0⟩ (List.suffix_refl l)) (by simp) (by simp [Pl.ptr]) ?_
  have hc := mkContext_good l
  have hcs := mkContext_suf l
  generalize (mkContext l).1 = g at hc
  generalize (mkContext l).2 = r1 at hcs
  have hg : Good 64 g := fun x hx => ⟨(hc.1 x hx).1, by have := (hc.1 x hx).2; omega⟩
  simp
  refine opV_own1 (d11 hd ⟨σ.length, 33, 0⟩ 1 (by omega) hcs) (by simp) (by simp [Pl.ptr]) ?_
  have ht := mkType1 r1
  have hr2 := (mkType_suf 1 r1).trans hcs
  generalize (mkType 1 r1).1 = s at ht
  generalize (mkType 1 r1).2 = r2 at hr2
  have hgs3 : Good 3 (g ++ [s]) := hc.1.app (Good.one ht)
  have hgs : Good 64 (g ++ [s]) := hg.app (Good.one ⟨ht.1, by have := ht.2; omega⟩)
  have h64 : s.ok = true ∧ s.size ≤ 64 := ⟨ht.1, by have := ht.2; omega⟩
  simp
  refine wpP_draw (fun _ _ _ => false) ?_
  simp
  refine ⟨by omega, by omega, by omega, by omega, ?_⟩
  refine opV_own1 (d20 hd ⟨σ.length, 33, 0⟩ 3 (by omega) (g ++ [s]) hgs (by simp; omega) hr2) (by simp) (by simp [Pl.ptr]) ?_
  have hf : Stays (mkFormula 3 (g ++ [s]) r2).1 := by
    have h1 := mkFormula_fine (m := 3) (by omega) (by omega) 3 (g ++ [s]) r2 hgs3
    have h2 : fmB 3 3 ≤ 3000 := by decide
    exact ⟨h1.1, mkFormula_cnt 3 _ _ hgs3, Nat.le_trans h1.2 h2, mkFormula_least 3 _ _ _ hgs (by simp; omega)⟩
  have hr3 := (mkFormula_suf 3 (g ++ [s]) r2).trans hr2
  generalize (mkFormula 3 (g ++ [s]) r2).1 = f1 at hf
  generalize (mkFormula 3 (g ++ [s]) r2).2 = r3 at hr3
  simp
  refine opV_own1 (d12 hd ⟨σ.length, 33, 0⟩ 3 (by omega) (g ++ [s]) hgs (by simp; omega) hr3) (by simp) (by simp [Pl.ptr]) ?_
  have hf2 : Stays (mkDec 3 (g ++ [s]) r3).1 := by
    have h1 := mkDec_fine (m := 3) (by omega) (by omega) 3 (g ++ [s]) r3 hgs3
    have h2 : dB 3 3 ≤ 3000 := by decide
    exact ⟨h1.1, mkDec_cnt 3 _ _ hgs3, Nat.le_trans h1.2.1 h2, mkDec_least 3 _ _ _ hgs (by simp; omega)⟩
  have hr4 := (mkDec_suf 3 (g ++ [s]) r3).trans hr3
  generalize (mkDec 3 (g ++ [s]) r3).1 = f2 at hf2
  generalize (mkDec 3 (g ++ [s]) r3).2 = r4 at hr4
  obtain ⟨L, hL⟩ : ∃ L, L = [f1, f2] := ⟨_, rfl⟩
  have hLk : ∀ j, j < 2 → ∃ f, L[j]? = some f ∧ Stays f := by
    intro j hj
    subst hL
    have : j = 0 ∨ j = 1 := by omega
    rcases this with rfl | rfl
    · exact ⟨f1, rfl, hf⟩
    · exact ⟨f2, rfl, hf2⟩
  simp
  refine wpP_range 2 (i4a l g s L σ) (by omega) ⟨r4, hr4, by simp, by simp, by simp, by simp [hL], by simp, by simp, by simp [setLoc], by simp [setLoc], rfl⟩ ?_ ?_ (hend := ?_)
  · rintro j ⟨env, loc, σ', live⟩ ⟨r, hr, e3, e4, e5, e49, e50, e51, l33, l5, rfl⟩
    exact ⟨e51, by simpa using e50⟩
  · rintro i ⟨env, loc, σ', live⟩ hj ⟨r, hr, e3, e4, e5, e49, e50, e51, l33, l5, rfl⟩
    obtain ⟨f, hfi, hst⟩ := hLk i hj
    have hsz := hst.size
    simp [e3, e4, e5, e49, e50, e51, l33, l5, hfi]
    obtain ⟨hl1, hl2⟩ := lift_small hst.cnt hst.ok hst.least
    refine opV_call (c21 f (by omega) 0 2 _) (by simp) ?_
    rw [hl1]
    simp [e3, e4, e5, e49, e50, e51, l33, l5]
    refine wpP_draw (atPl ⟨σ'.length, 33, 0⟩) ?_
    simp [atPl, e3, e4, e5, e49, e50, e51, l33, l5]
    refine stepD_own (d23 hd ⟨σ'.length, 33, 0⟩ 2 (by omega) g s hg h64 (by omega) hr) (by simp [l33]) (by simp [Pl.ptr]) ?_
    have htm := mkTerm_fine (m := 3) (by omega) 2 g s r hc.1 ht
    have htz : tmB 3 2 ≤ 1000 := by decide
    have htc := mkTerm2_cnt g s r hc.1 ht
    have htl := mkTerm_least 2 g s r 536870912 hg h64 (by omega)
    have hr' := (mkTerm_suf 2 g s r).trans hr
    generalize (mkTerm 2 g s r).1 = t at htm htc htl
    generalize (mkTerm 2 g s r).2 = r' at hr'
    have hts := htm.2
    obtain ⟨hp1, hp2⟩ := put_small hst.cnt hst.ok htc htm.1 hst.least htl
    simp [atPl, e3, e4, e5, e49, e50, e51, l33, l5]
    refine stepD_call (c22 f (by omega) 0 t (by omega) _) (by simp) ?_
    rw [hp1]
    simp [atPl, e3, e4, e5, e49, e50, e51, l33, l5]
    have hfl := Fm.least_mono (M := 9223372036854775807) (by omega) f hst.least
    have hfc := hst.check
    refine opV_call (c24' f (by omega) hfl hfc _) (by simp) ?_
    simp [e3, e4, e5, e49, e50, e51, l33, l5]
    refine opV_call (c25 f (by omega) hfl hfc _) (by simp) ?_
    simp [e3, e4, e5, e49, e50, e51, l33, l5]
    refine opV_call (c26 f (by omega) hfl hfc _) (by simp) ?_
    have k1 := kept_up hst
    have k2 := kept_put hst htc (by omega) htm.1 htl
    have hfree := cls_free f hst.ok
    obtain ⟨K, hK⟩ : ∃ K, K = [f.up 0 2, f.put 0 0 t] := ⟨_, rfl⟩
    have hKk : ∀ j, j < 2 → ∃ x, K[j]? = some x ∧ Kept f x := by
      intro j hj
      subst hK
      have : j = 0 ∨ j = 1 := by omega
      rcases this with rfl | rfl
      · exact ⟨_, rfl, k1⟩
      · exact ⟨_, rfl, k2⟩
    have hqd : (f.cls.q = true ∧ f.cls.d = true) ∨ (f.cls.q = false ∧ f.cls.d = true) ∨ (f.cls.q = false ∧ f.cls.d = false) := by
      cases hq : f.cls.q with
      | true => exact .inl ⟨rfl, hfree hq⟩
      | false =>
        cases hdd : f.cls.d with
        | true => exact .inr (.inl ⟨rfl, rfl⟩)
        | false => exact .inr (.inr ⟨rfl, rfl⟩)
    have hxd : ∀ x, Kept f x → f.cls.d = true → x.cls.d = true := fun x h => h.d
    rcases hqd with ⟨hq, hdd⟩ | ⟨hq, hdd⟩ | ⟨hq, hdd⟩
    all_goals
      simp [e3, e4, e5, e49, e50, e51, l33, l5, hq, hdd]
      refine wpP_range 2 (i4b l g s L f K σ' i) (by omega) ⟨r', hr', by simp, by simp, by simp, by simp, by simp [hq], by simp [hdd], by simp, by simp, by simp, by simp [hK], by simp, by simp, by simp [setLoc, l33], by simp [setLoc, l5], rfl⟩ ?_ ?_ (hend := ?_)
      · rintro j ⟨env, loc, σ'', live⟩ ⟨r, hr, e3, e4, e5, e13, e15, e17, e49, e50, e51, e103, e104, e105, l33, l5, rfl⟩
        exact ⟨e105, by simpa using e104⟩
      · rintro j ⟨env, loc, σ'', live⟩ hj2 ⟨r, hr, e3, e4, e5, e13, e15, e17, e49, e50, e51, e103, e104, e105, l33, l5, rfl⟩
        obtain ⟨x, hx, hkx⟩ := hKk j hj2
        have hd2 := hkx.d
        rw [hdd] at hd2
        simp only [hq] at e15
        simp only [hdd] at e17
        have qx := hkx.q
        rw [hq] at qx
        simp [e3, e4, e5, e13, e15, e17, e49, e50, e51, e103, e104, e105, l33, l5, hx]
        refine opV_call (c24' x hkx.size hkx.least hkx.check _) (by simp) ?_
        simp [e3, e4, e5, e13, e15, e17, e49, e50, e51, e103, e104, e105, l33, l5]
        refine opV_call (c25 x hkx.size hkx.least hkx.check _) (by simp) ?_
        simp [e3, e4, e5, e13, e15, e17, e49, e50, e51, e103, e104, e105, l33, l5]
        refine opV_call (c26 x hkx.size hkx.least hkx.check _) (by simp) ?_
        rw [hkx.has, qx]
        simp [e3, e4, e5, e13, e15, e17, e49, e50, e51, e103, e104, e105, l33, l5, hd2]
        exact ⟨r, hr, by simp, by simp, by simp, by simp, by simp [hq], by simp [hdd], by simp, by simp, by simp, by simp, by simp, by simp, by simp [l33], by simp [l5], rfl⟩
      · rintro ⟨env, loc, σ'', live⟩ ⟨r, hr, e3, e4, e5, e13, e15, e17, e49, e50, e51, e103, e104, e105, l33, l5, rfl⟩
        simp [e3, e4, e5, e49, e50, e51, l33, l5]
        exact ⟨r, hr, by simp, by simp, by simp, by simp, by simp, by simp, by simp [l33], by simp [l5], rfl⟩
  · rintro ⟨env, loc, σ', live⟩ ⟨r, hr, e3, e4, e5, e49, e50, e51, l33, l5, rfl⟩
    simp
end Go.Proofs.YtcgmhnlmgomlgaaGreatDoor.V


namespace Go.Proofs.YtcgmhnlmgomlgaaGreatDoor.V
open Go Go.RowKit
section
variable {H : Type} {henc : TypeId × Value → H} {P : Program} {W : World} {M : Map}
def RepL (W : World) (M : Map) (cs : List Cell) (vs : List Value) : Prop := cs.length = vs.length ∧ ∀ (i : Nat) (c : Cell) (v : Value), cs[i]? = some c → vs[i]? = some v → RepC W M c v
theorem RepL.app {a b : List Cell} {va vb : List Value} (h : RepL W M a va) (k : RepL W M b vb) : RepL W M (a ++ b) (va ++ vb) := by
  refine ⟨by simp [h.1, k.1], fun i c v hc hv => ?_⟩
  by_cases hi : i < a.length
  · rw [List.getElem?_append_left hi] at hc
    rw [List.getElem?_append_left (by rw [← h.1]; exact hi)] at hv
    exact h.2 i c v hc hv
  · rw [List.getElem?_append_right (by omega)] at hc
    rw [List.getElem?_append_right (by rw [← h.1]; omega), ← h.1] at hv
    exact k.2 _ c v hc hv
theorem RepL.one {c : Cell} {v : Value} (h : RepC W M c v) : RepL W M [c] [v] := by
  refine ⟨rfl, fun i c' v' hc hv => ?_⟩
  cases i with
  | zero => cases hc; cases hv; exact h
  | succ i => simp at hc
abbrev tr (henc : TypeId × Value → H) (P : Program) (W : World) (n : Nat) (t : TypeId) (cs : List Value) : Option (DataW H × List MemPlace) := DataW.trod henc P W 0 (fun _ => true) true n t cs
theorem mapM_get {α β : Type} {f : α → Option β} : ∀ {l : List α} {r : List β}, l.mapM f = some r → r.length = l.length ∧ ∀ (i : Nat) (x : α), l[i]? = some x → f x = r[i]?
  | [], r, h => by simp at h; subst h; simp
  | x :: l, r, h => by
    simp only [List.mapM_cons, Option.bind_eq_bind, Option.bind_eq_some_iff, Option.pure_def, Option.some.injEq] at h
    obtain ⟨y, h1, ys, h2, rfl⟩ := h
    obtain ⟨h3, h4⟩ := mapM_get h2
    refine ⟨by simp [h3], fun i z hz => ?_⟩
    cases i with
    | zero => simp at hz; subst hz; simpa using h1
    | succ i => simp at hz ⊢; exact h4 i z hz
theorem cells_get {base : Nat} {a : Addr} {n : Nat} {cs : List Value} (h : W.cells? base a n = some cs) : cs.length = n ∧ ∀ i, i < n → W.cell? (a.add i) = cs[i]? := by
  unfold World.cells? at h
  split at h
  · obtain ⟨h1, h2⟩ := mapM_get h
    refine ⟨by simpa using h1, fun i hi => ?_⟩
    exact h2 i i (by simp [hi])
  · cases h
theorem read_slice {α : Type} {encA : α → List Cell} {t e : TypeId} {sz fuel : Nat} {cs : List Value} {x : DataW H × List MemPlace} (hprot : ∀ b i v, W.cell? ⟨b, i, none⟩ = some v → i < M.prot b) (ht : P.underlying t = some (.slice e)) (hsz : P.cellsOf e = sz) (hpos : 0 < sz)
    (hread : ∀ n, n < fuel → ∀ cs x, tr henc P W n e cs = some x → ∃ a : α, RepL W M (encA a) cs) (h : tr henc P W fuel t cs = some x) : ∃ l : List α, RepL W M [.slice .no sz (l.map encA)] cs := by
  rcases DataW.trod_slice ht h with ⟨rfl, _⟩ | ⟨a, len, cap, elems, rest, n, rfl, rfl, _, _, hlc, _, hlen, hel, _, _⟩
  · exact ⟨[], .one (.nil _ _ _ _ (fun h => by cases h))⟩
  · rw [hsz] at hel
    have key : ∀ i, i < len → ∃ (y : α) (vs : List Value), W.cells? 0 (a.add (i * sz)) sz = some vs ∧ RepL W M (encA y) vs := by
      intro i hi
      have h1 := hel i hi
      rw [List.getElem?_eq_getElem (by omega)] at h1
      obtain ⟨vs, h2, h3⟩ := Option.bind_eq_some_iff.1 h1
      obtain ⟨y, hy⟩ := hread n (by omega) vs _ h3
      exact ⟨y, vs, h2, hy⟩
    have hl : ∃ l : List α, l.length = len ∧ ∀ (i : Nat) (y : α), l[i]? = some y → ∃ vs, W.cells? 0 (a.add (i * sz)) sz = some vs ∧ RepL W M (encA y) vs := by
      clear hel hlen
      have : ∀ m, m ≤ len → ∃ l : List α, l.length = m ∧ ∀ (i : Nat) (y : α), l[i]? = some y → ∃ vs, W.cells? 0 (a.add (i * sz)) sz = some vs ∧ RepL W M (encA y) vs := by
        intro m
        induction m with
        | zero => intro _; exact ⟨[], rfl, fun i y h => by simp at h⟩
        | succ m ih =>
          intro hm
          obtain ⟨l, h1, h2⟩ := ih (by omega)
          obtain ⟨y, vs, h3, h4⟩ := key m (by omega)
          refine ⟨l ++ [y], by simp [h1], fun i z hz => ?_⟩
          by_cases hi : i < l.length
          · rw [List.getElem?_append_left hi] at hz; exact h2 i z hz
          · rw [List.getElem?_append_right (by omega)] at hz
            have : i = m := by
              have := (List.getElem?_eq_some_iff.1 hz).1
              simp at this
              omega
            subst this
            rw [h1] at hz
            simp at hz
            subst hz
            exact ⟨vs, h3, h4⟩
      exact this len (Nat.le_refl _)
    obtain ⟨l, hll, hl⟩ := hl
    refine ⟨l, .one ?_⟩
    cases hz : l with
    | nil =>
      rw [hz] at hll
      simp at hll
      subst hll
      exact .nil _ _ _ _ (fun h => by cases h)
    | cons y0 l0 =>
      have hspot : a.spot = none := by
        obtain ⟨vs, h2, h3⟩ := hl 0 y0 (by rw [hz]; try rfl)
        obtain ⟨h4, h5⟩ := cells_get h2
        have h6 := h5 0 hpos
        rw [List.getElem?_eq_getElem (by omega)] at h6
        have := World.cell?_spot h6
        simpa [Addr.add] using this
      obtain ⟨b, off, spot⟩ := a
      simp only at hspot
      subst hspot
      rw [← hz]
      have hcell : ∀ (j i : Nat) (y : α) (c : Cell), l[j]? = some y → (encA y)[i]? = some c → (∃ v, W.cell? ⟨b, off + (j * sz + i), none⟩ = some v ∧ RepC W M c v) ∧ (encA y).length = sz := by
        intro j i y c hy hc
        obtain ⟨vs, h2, h3⟩ := hl j y hy
        obtain ⟨h4, h5⟩ := cells_get h2
        have hi := (List.getElem?_eq_some_iff.1 hc).1
        have hle : (encA y).length = sz := by rw [h3.1, h4]
        have h6 := h5 i (by omega)
        rw [List.getElem?_eq_getElem (by omega)] at h6
        refine ⟨⟨_, ?_, h3.2 i c _ hc (List.getElem?_eq_getElem (by omega))⟩, hle⟩
        rw [← h6]
        congr 1
        simp only [Addr.add]
        repeat' split
        all_goals first
          | (simp_all; done)
          | (simp; omega)
      have hlens : ∀ y ∈ l, (encA y).length = sz := by
        intro y hy
        obtain ⟨j, hj⟩ := List.getElem?_of_mem hy
        obtain ⟨vs, h2, h3⟩ := hl j y hj
        rw [h3.1, (cells_get h2).1]
      rw [← hll]
      have hcap : l.length ≤ cap := by omega
      have hf := RepC.slice (w := W) (M := M) .no sz (l.map encA) b off cap (fun j i => (W.cell? ⟨b, off + (j * sz + i), none⟩).getD undef) (fun e he => by
          obtain ⟨y, hy, rfl⟩ := List.mem_map.1 he; exact hlens y hy) ?_ (fun h => by cases h) (by simpa using hcap) ?_ ?_
      · simpa using hf
      · -- the last cell
        have hne : l.length - 1 < l.length := by rw [hz]; simp
        obtain ⟨y, hy⟩ : ∃ y, l[l.length - 1]? = some y := ⟨_, List.getElem?_eq_getElem hne⟩
        have hly := hlens y (List.mem_of_getElem? hy)
        obtain ⟨c, hc⟩ : ∃ c, (encA y)[sz - 1]? = some c := ⟨_, List.getElem?_eq_getElem (by omega)⟩
        obtain ⟨⟨v, hv, _⟩, _⟩ := hcell _ _ y c hy hc
        have := hprot _ _ _ hv
        rw [List.length_map]
        have e : l.length * sz = (l.length - 1) * sz + sz := by
          rw [Nat.sub_mul, Nat.one_mul]
          have : sz ≤ l.length * sz := Nat.le_mul_of_pos_left _ (by omega)
          omega
        omega
      · intro j i es c hj hi
        rw [List.getElem?_map] at hj
        obtain ⟨y, hy, rfl⟩ := Option.map_eq_some_iff.1 hj
        obtain ⟨⟨v, hv, _⟩, _⟩ := hcell j i y c hy hi
        rw [hv]; try rfl
      · intro j i es c hj hi
        rw [List.getElem?_map] at hj
        obtain ⟨y, hy, rfl⟩ := Option.map_eq_some_iff.1 hj
        obtain ⟨⟨v, hv, hr⟩, _⟩ := hcell j i y c hy hi
        rw [hv]; exact hr
theorem read_int {t : TypeId} {k : IntKind} {fuel : Nat} {cs : List Value} {x : DataW H × List MemPlace} (ht : P.underlying t = some (.int k)) (h : tr henc P W fuel t cs = some x) : ∃ n, (Lit.int k n).wf = true ∧ RepL W M [.int k n] cs := by
  obtain ⟨n, rfl, _, h2⟩ := DataW.trod_int ht h
  exact ⟨n, h2, .one (.int k n)⟩
theorem wf_i64 {n : Int} (h : (Lit.int .i64 n).wf = true) : -9223372036854775808 ≤ n ∧ n ≤ 9223372036854775807 := by
  simp only [Lit.wf, Bool.and_eq_true, decide_eq_true_eq] at h
  have e1 : IntKind.min .i64 = -9223372036854775808 := by decide
  have e2 : IntKind.max .i64 = 9223372036854775807 := by decide
  rw [e1, e2] at h
  exact h
def structOf (P : Program) (t : TypeId) : List (TypeId × Nat) := match P.underlying t with
  | some (.struct fs) => fs.toList.map fun f => (f.type, f.offset)
  | _ => []
theorem read_struct {t : TypeId} {l : List (TypeId × Nat)} {n : Nat} {cs : List Value} {x : DataW H × List MemPlace} (hs : structOf P t = l) (hne : l ≠ []) (h : tr henc P W n t cs = some x) :
    ∃ m, n = m + 1 ∧ cs.length = P.cellsOf t ∧ ∀ (j tj oj : Nat), l[j]? = some (tj, oj) → ∃ y, tr henc P W m tj ((cs.drop oj).take (P.cellsOf tj)) = some y := by
  unfold structOf at hs
  split at hs
  · rename_i fs hu
    obtain ⟨xs, m, rfl, _, hl, hxs, hel⟩ := DataW.trod_struct hu h
    refine ⟨m, rfl, hl, fun j tj oj hj => ?_⟩
    rw [← hs, List.getElem?_map] at hj
    obtain ⟨f, hf, he⟩ := Option.map_eq_some_iff.1 hj
    cases he
    have hf' : fs[j]? = some f := by simpa using hf
    have hlt : j < xs.length := by rw [hxs]; exact (Array.getElem?_eq_some_iff.1 hf').1
    exact ⟨xs[j], (hel j f hf').trans (List.getElem?_eq_getElem hlt)⟩
  · exact absurd hs.symm hne
noncomputable def map0 (W : World) : Map := ⟨fun b => match W.heap[b]? with
  | some (.cells c _ _) => c.size
  | _ => 0, fun _ _ _ => .none, fun _ => .none⟩
theorem map0_prot (W : World) : ∀ b i v, W.cell? ⟨b, i, .none⟩ = some v → i < (map0 W).prot b := by
  intro b i v h
  unfold World.cell? at h
  simp only [map0]
  split at h
  · rename_i c _ _ hb
    rw [hb]
    simp at h
    exact (Array.getElem?_eq_some_iff.1 h).1
  · cases h
theorem base0 {C : Cfg} {W : World} (hg : Globs C W (map0 W)) : Base C W (map0 W) [] := by
  have hn : ∀ d t v b, (map0 W).box d t v ≠ some b := fun d t v b h => by simp [map0] at h
  refine ⟨fun d t v b h => absurd h (hn d t v b), fun d t v d' t' v' b h => absurd h (hn d t v b), hg, fun b hb => ?_⟩
  simp only [map0]
  rw [Array.getElem?_eq_none hb]
theorem law_calls {C : Cfg} {f : FuncId} {ps : List PV} (h : CallsV C f ps [] (.val (.one (.bool true))) []) {W : World} (hg : Globs C W (map0 W)) {args : Array Value} (hl : args.size = ps.length) (ha : ∀ (i : Nat) (p : PV), ps[i]? = some p → RepV W (map0 W) p (args.getD i undef)) :
    Calls C.P f args W fun e W' => e = .returned (.bool true) ∧ Below W.heap.size W W' := by
  obtain ⟨_, _, h⟩ := h
  refine (h W (map0 W) args (base0 hg) hl ha).mono fun e W' ⟨M', v, he, hk, _, _, hr⟩ => ?_
  subst he
  refine ⟨?_, ⟨hk.os, hk.tape, hk.output, hk.size, fun b hb => hk.keep b hb fun d t v h => by cases h⟩⟩
  obtain ⟨_, hr⟩ := hr
  cases hr with
  | one c v h => cases h; rfl
theorem repV_one {W : World} {M : Map} {c : Cell} {v : Value} (h : RepL W M [c] v.cells.toList) (hv : v.cells.toList = [v]) : RepV W M (.one c) v := by
  rw [hv] at h
  exact .one c v (h.2 0 c v rfl rfl)
theorem repV_agg {W : World} {M : Map} {cs : List Cell} {vs : Array Value} (h : RepL W M cs (Value.cells (.agg vs)).toList) : RepV W M (.agg cs) (.agg vs) := by
  have e : (Value.cells (.agg vs)).toList = vs.toList := rfl
  rw [e] at h
  refine .agg cs vs (by simpa using h.1.symm) fun i c hc => ?_
  have hi : i < vs.size := by have := (List.getElem?_eq_some_iff.1 hc).1; have := h.1; simp at this; omega
  have := h.2 i c (vs.getD i undef) hc (by simp [Array.getD, hi])
  exact this
end
end Go.Proofs.YtcgmhnlmgomlgaaGreatDoor.V


set_option maxRecDepth 100000
namespace Go.Proofs.YtcgmhnlmgomlgaaGreatDoor.V
open Go Go.Proofs Go.RowKit Go.ChangeShapes Go.WideShapes Go.ChangeAt
section
variable {H : Type} {henc : TypeId × Value → H} {W : World}
theorem st30 : structOf Tryz.prog 30 = [(3, 0), (27, 1)] := by kernel_rfl
theorem st51 : structOf Tryz.prog 51 = [(3, 0), (3, 1), (30, 2), (32, 4)] := by kernel_rfl
theorem st35 : structOf Tryz.prog 35 = [(3, 0), (30, 1), (32, 3), (33, 4)] := by kernel_rfl
theorem un3 : Tryz.prog.underlying 3 = some (.int .i64) := by kernel_rfl
theorem un4 : Tryz.prog.underlying 4 = some .bool := by kernel_rfl
theorem un22 : Tryz.prog.underlying 22 = some (.slice 3) := by kernel_rfl
theorem un27 : Tryz.prog.underlying 27 = some (.slice 30) := by kernel_rfl
theorem un32 : Tryz.prog.underlying 32 = some (.slice 51) := by kernel_rfl
theorem un33 : Tryz.prog.underlying 33 = some (.slice 35) := by kernel_rfl
theorem ce3 : Tryz.prog.cellsOf 3 = 1 := by kernel_rfl
theorem ce22 : Tryz.prog.cellsOf 22 = 1 := by kernel_rfl
theorem ce27 : Tryz.prog.cellsOf 27 = 1 := by kernel_rfl
theorem ce30 : Tryz.prog.cellsOf 30 = 2 := by kernel_rfl
theorem ce32 : Tryz.prog.cellsOf 32 = 1 := by kernel_rfl
theorem ce33 : Tryz.prog.cellsOf 33 = 1 := by kernel_rfl
theorem ce35 : Tryz.prog.cellsOf 35 = 5 := by kernel_rfl
theorem ce51 : Tryz.prog.cellsOf 51 = 5 := by kernel_rfl
theorem read_ty : ∀ (n : Nat) (cs : List Value) (x : DataW H × List MemPlace), tr henc Tryz.prog W n 30 cs = some x → ∃ t : Ty, RepL W (map0 W) (enc t) cs := by
  intro n
  induction n using Nat.strongRecOn with
  | ind n ih =>
  intro cs x h
  obtain ⟨m, rfl, hl, hf⟩ := read_struct st30 (by simp) h
  rw [ce30] at hl
  match cs, hl with
  | [a, b], _ =>
    obtain ⟨y0, h0⟩ := hf 0 3 0 rfl
    obtain ⟨y1, h1⟩ := hf 1 27 1 rfl
    rw [ce3] at h0
    rw [ce27] at h1
    obtain ⟨k, _, hk⟩ := read_int (M := map0 W) un3 h0
    obtain ⟨l, hl⟩ := read_slice (map0_prot W) un27 ce30 (by omega) (fun k hk cs x h => ih k (by omega) cs x h) h1
    refine ⟨.mk k l, ?_⟩
    rw [enc_mk]
    exact RepL.app hk hl
theorem read_tm : ∀ (n : Nat) (cs : List Value) (x : DataW H × List MemPlace), tr henc Tryz.prog W n 51 cs = some x → ∃ t : Tm, RepL W (map0 W) (encT t) cs := by
  intro n
  induction n using Nat.strongRecOn with
  | ind n ih =>
  intro cs x h
  obtain ⟨m, rfl, hl, hf⟩ := read_struct st51 (by simp) h
  rw [ce51] at hl
  match cs, hl with
  | [a, b, c, d, e], _ =>
    obtain ⟨y0, h0⟩ := hf 0 3 0 rfl
    obtain ⟨y1, h1⟩ := hf 1 3 1 rfl
    obtain ⟨y2, h2⟩ := hf 2 30 2 rfl
    obtain ⟨y3, h3⟩ := hf 3 32 4 rfl
    rw [ce3] at h0 h1
    rw [ce30] at h2
    rw [ce32] at h3
    obtain ⟨k, _, hk⟩ := read_int (M := map0 W) un3 h0
    obtain ⟨i, _, hi⟩ := read_int (M := map0 W) un3 h1
    obtain ⟨t, ht⟩ := read_ty _ _ _ h2
    obtain ⟨l, hl⟩ := read_slice (map0_prot W) un32 ce51 (by omega) (fun k hk cs x h => ih k (by omega) cs x h) h3
    refine ⟨.mk k i t l, ?_⟩
    rw [encT_mk]
    exact RepL.app hk (RepL.app hi (RepL.app ht hl))
theorem read_fm : ∀ (n : Nat) (cs : List Value) (x : DataW H × List MemPlace), tr henc Tryz.prog W n 35 cs = some x → ∃ t : Fm, RepL W (map0 W) (encF t) cs := by
  intro n
  induction n using Nat.strongRecOn with
  | ind n ih =>
  intro cs x h
  obtain ⟨m, rfl, hl, hf⟩ := read_struct st35 (by simp) h
  rw [ce35] at hl
  match cs, hl with
  | [a, b, c, d, e], _ =>
    obtain ⟨y0, h0⟩ := hf 0 3 0 rfl
    obtain ⟨y1, h1⟩ := hf 1 30 1 rfl
    obtain ⟨y2, h2⟩ := hf 2 32 3 rfl
    obtain ⟨y3, h3⟩ := hf 3 33 4 rfl
    rw [ce3] at h0
    rw [ce30] at h1
    rw [ce32] at h2
    rw [ce33] at h3
    obtain ⟨k, _, hk⟩ := read_int (M := map0 W) un3 h0
    obtain ⟨t, ht⟩ := read_ty _ _ _ h1
    obtain ⟨q, hq⟩ := read_slice (map0_prot W) un32 ce51 (by omega) (fun k hk cs x h => read_tm k cs x h) h2
    obtain ⟨l, hl⟩ := read_slice (map0_prot W) un33 ce35 (by omega) (fun k hk cs x h => ih k (by omega) cs x h) h3
    refine ⟨.mk k t q l, ?_⟩
    rw [encF_mk]
    exact RepL.app hk (RepL.app ht (RepL.app hq hl))
theorem read_nums {n : Nat} {cs : List Value} {x : DataW H × List MemPlace} (h : tr henc Tryz.prog W n 22 cs = some x) : ∃ l : List Int, i64s l ∧ RepL W (map0 W) [.slice .no 1 (encI l)] cs := by
  obtain ⟨l, hl⟩ := read_slice (α := {k : Int // -9223372036854775808 ≤ k ∧ k ≤ 9223372036854775807}) (encA := fun k => [.int .i64 k.1]) (map0_prot W) un22 ce3 (by omega) (fun k hk cs x h => by
    obtain ⟨n, h1, h2⟩ := read_int (M := map0 W) un3 h
    exact ⟨⟨n, wf_i64 h1⟩, h2⟩) h
  refine ⟨l.map (·.1), fun k hk => ?_, ?_⟩
  · obtain ⟨y, _, rfl⟩ := List.mem_map.1 hk
    exact y.2
  · have e : encI (l.map (·.1)) = l.map fun k => [.int .i64 k.1] := by simp [encI]
    rw [e]
    exact hl
end
def laidL : List (String × DataW Unit) := [("proofprograms/tree.arities", Rows.laid_proofprograms_tree_arities)]
theorem gArities : Tryz.prog.globalNamed "proofprograms/tree.arities" = some 0 := by kernel_rfl
theorem tArities : (Tryz.prog.globals[0]?).map (·.type) = some 138 := by kernel_rfl
theorem un138 : Tryz.prog.underlying 138 = some (.array 14 3) := by kernel_rfl
theorem ce138 : Tryz.prog.cellsOf 138 = 14 := by kernel_rfl
theorem own : ownKnob Tryz.prog.godebug = none := by kernel_rfl
theorem laidOut : laidOutB Tryz.prog = true := by kernel_rfl
theorem door_met (os : Os) (args : Array Value) : laidMetH Tryz.prog laidL ((World.doorLaid Tryz.prog 400 os).forCall (fun _ _ => 0) ⟨#[], args, []⟩).memory :=
  laidMetH_of_parts3 (fuel := 8) (laidMet_of_run' 8 (by kernel_rfl) (by kernel_rfl)) (by kernel_rfl) (by kernel_rfl)
def arityInts : List Int := [0, 0, 1, 2, 0, 1, 3, 0, 2, 3, 2, 1, 1, 0]
theorem arity_eq : arity = arityInts.map fun n => Cell.int .i64 n := rfl
theorem globs_of_laid {W : World} (h : laidMetH Tryz.prog laidL W) : Globs cfg W (map0 W) := by
  rw [MakeChecks.laidMetH_plain _ _ _ (by kernel_rfl)] at h
  obtain ⟨ps, ⟨g0, t0, cs0, f0, p0, q0, hg0, ht0, hv0, hd0, _, _⟩, _, _⟩ := h
  obtain rfl := Option.some.inj (gArities.symm.trans hg0)
  obtain rfl := Option.some.inj (tArities.symm.trans ht0)
  obtain ⟨xs, m, rfl, hx, hl, hxl, hel⟩ := DataW.trod_array un138 hd0
  rw [ce138] at hl
  have hxm : xs.map (·.1) = arityInts.map fun n => (DataW.lit (.int .i64 n) : DataW Unit) := by
    simp only [Prod.mk.injEq] at hx
    have := hx.1
    unfold Rows.laid_proofprograms_tree_arities at this
    injection this with this
    rw [← this]
    try rfl
  have key : ∀ (i : Nat) (n : Int), arityInts[i]? = some n → W.cell? ⟨0, i, none⟩ = some (.int .i64 n) := by
    intro i n hi
    have hi14 : i < 14 := (List.getElem?_eq_some_iff.1 hi).1
    have h1 := hel i hi14
    rw [ce3, Nat.mul_one] at h1
    have h2 : (xs.map (·.1))[i]? = some (.lit (.int .i64 n)) := by rw [hxm, List.getElem?_map, hi]; try rfl
    rw [List.getElem?_map] at h2
    obtain ⟨y, hy, hy2⟩ := Option.map_eq_some_iff.1 h2
    rw [hy] at h1
    obtain ⟨k, e1, e2, _⟩ := DataW.trod_int un3 h1
    have hk : k = n := by
      rw [e2] at hy2
      simp at hy2
      exact hy2
    subst hk
    have h3 := World.var?_cell hg0 hv0 i
    rw [h3]
    have h4 : (cs0.toList.drop i).take 1 = [Value.int .i64 k] := e1
    have h5 : cs0.toList[i]? = some (Value.int .i64 k) := by
      have := congrArg (fun l => l[0]?) h4
      simpa using this
    simpa using h5
  intro g cs hg
  have : g = 0 ∧ cs = arity := by
    simp only [cfg] at hg
    split at hg
    · rename_i e; exact ⟨e, (Option.some.inj hg).symm⟩
    · cases hg
  obtain ⟨rfl, rfl⟩ := this
  have hc := RepC.cptr (w := W) (M := map0 W) arity 0 0 0 (fun i => .int .i64 (arityInts.getD i 0)) ?_ ?_ ?_
  · exact hc
  · have := map0_prot W 0 13 _ (key 13 0 rfl)
    simp only [arity_eq, List.length_map]
    show 0 + 14 ≤ _
    omega
  · intro i c hi
    rw [arity_eq, List.getElem?_map] at hi
    obtain ⟨n, hn, _⟩ := Option.map_eq_some_iff.1 hi
    rw [Nat.zero_add, key i n hn, List.getD_eq_getElem?_getD, hn]
    try rfl
  · intro i c hi
    rw [arity_eq, List.getElem?_map] at hi
    obtain ⟨n, hn, rfl⟩ := Option.map_eq_some_iff.1 hi
    rw [List.getD_eq_getElem?_getD, hn]
    exact .int .i64 n
end Go.Proofs.YtcgmhnlmgomlgaaGreatDoor.V
