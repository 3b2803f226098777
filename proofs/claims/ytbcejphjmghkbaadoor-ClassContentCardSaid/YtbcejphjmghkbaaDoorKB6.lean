/-
Parts of the proof of one law, put together by program: part 6.
-/
import Derived.Test.YtbcejphjmghkbaaDoorKB5
set_option linter.unusedSimpArgs false
set_option linter.unusedVariables false

set_option maxRecDepth 100000
namespace Go.Proofs.YtbcejphjmghkbaaDoor.V
open Go Go.Proofs
theorem c99 (f : Fm) : f.ok = true → ∀ (σ : List Frm), CallsV cfg 99 [.agg (encF f)] σ (.val (.one (.bool f.has))) σ := by
  induction f using Fm.ind with
  | _ k t m l ih =>
  intro hok σ
  refine w99 (by simp) ?_
  rw [s99, Fm.has_mk]
  rcases Fm.shape hok with ⟨rfl, rfl⟩ | ⟨rfl | rfl, y, x, rfl, hy, hx⟩ | ⟨hk, ht, x, rfl, hx⟩
  · simp
  · simp
    refine opV_call (ih y (by simp) hy _) (by simp) ?_
    cases hyh : y.has with
    | true => simp
    | false =>
      simp
      refine opV_call (ih x (by simp) hx _) (by simp) ?_
      simp
  · simp [wrap_id]
    refine opV_call (ih x (by simp) hx _) (by simp) ?_
    simp
  · rcases hk with rfl | rfl | rfl | rfl
    · simp [wrap_id]
      refine opV_call (ih x (by simp) hx _) (by simp) ?_
      simp
    · simp
    · simp [wrap_id]
      refine opV_call (ih x (by simp) hx _) (by simp) ?_
      simp
    · simp [wrap_id]
      refine opV_call (ih x (by simp) hx _) (by simp) ?_
      simp
def hasOf (f : Fm) : Bool := if f.check = 0 then f.has else false
theorem c39 (f : Fm) (hsz : f.size ≤ 1099511627776) (σ : List Frm) : CallsV cfg 39 [.agg (encF f)] σ (.val (.tup [.one (.bool (hasOf f)), .one (.int .i64 f.check)])) σ := by
  refine w39 (by simp) ?_
  rw [s39]
  simp
  refine opV_call (c77 f hsz _) (by simp) ?_
  by_cases hc : f.check = 0
  · simp [hc, bne, hasOf]
    refine opV_call (c99 f (Fm.check_ok hc) _) (by simp) ?_
    simp
  · simp [hc, bne, hasOf]
theorem c81 (f : Fm) (hsz : f.size ≤ 1099511627776) (σ : List Frm) : CallsV cfg 81 [.agg (encF f)] σ (.val (.one (.bool (hasOf f)))) σ := by
  refine w81 (by simp) ?_
  rw [s81]
  simp
  refine opV_call (c39 f hsz _) (by simp) ?_
  simp
theorem c162 (t : Ty) (hsz : t.size ≤ 1099511627776) (σ : List Frm) : CallsV cfg 162 [.agg (enc t)] σ (.val (.tup [.one (.int .i64 (if t.check = 0 then (t.size : Int) else 0)), .one (.int .i64 t.check)])) σ := by
  refine w162 (by simp) ?_
  rw [s162]
  simp
  refine opV_call (c132 t hsz _) (by simp) ?_
  by_cases hc : t.check = 0
  · simp [hc, bne]
    refine opV_call (c164 t hsz _) (by simp) ?_
    simp
  · simp [hc, bne]
theorem c130 (t : Ty) (e : Int) (hsz : t.size ≤ 1099511627776) (σ : List Frm) : CallsV cfg 130 [.agg (enc t), .one (.int .i64 e)] σ (.val (enc2 (fits t e))) σ := by
  refine w130 (by simp) ?_
  rw [s130]
  by_cases he : e = 0
  · simp [he, bne]
    refine opV_call (c162 t hsz _) (by simp) ?_
    by_cases hc : t.check = 0
    · simp [hc, bne, fits, enc2]
    · simp [hc, bne, fits, enc2, Ty.zero]
  · simp [he, bne, fits, enc2, Ty.zero]
theorem fits_size {t : Ty} {e : Int} : (fits t e).1.size ≤ 64 := by
  unfold fits
  split
  · simp
  · split
    · simp
    · rename_i h; exact Ty.check_size (by simpa using h)
theorem rstep_size {k : Int} {t : Ty} {b : Bool} {f l : Bool × Ty × Int} (hf : f.2.1.size ≤ 64) (hl : l.2.1.size ≤ 64) (ht : k = 5 → t.size ≤ 64) : (rstep k t b f l).1.size ≤ 64 := by
  unfold rstep
  repeat' split
  all_goals first
    | assumption
    | exact fits_size
    | (simp; done)
    | exact ht (by assumption)
theorem Fm.rof_size (f : Fm) : f.ok = true → f.rof.1.size ≤ 64 := by
  induction f using Fm.ind with
  | _ k t m l ih =>
    intro hok
    rw [Fm.rof_mk]
    rcases Fm.shape hok with ⟨rfl, rfl⟩ | ⟨hk, y, x, rfl, hy, hx⟩ | ⟨hk, ht, x, rfl, hx⟩
    · simp [rstep, Fm.has_mk]
    · exact rstep_size (ih y (by simp) hy) (ih x (by simp) hx) (fun h => by omega)
    · exact rstep_size (ih x (by simp) hx) (ih x (by simp) hx) (fun _ => Ty.check_size ht)
theorem Fm.check_part {k : Int} {t : Ty} {m : List Tm} {l : List Fm} (h : (Fm.mk k t m l).check = 0) {x : Fm} (hx : x ∈ l) : x.check = 0 := by
  have h2 := Fm.check_ok2 h
  simp only [Fm.ok_mk, Bool.and_eq_true, Fm.oks_iff, Fm.count_mk] at h2
  refine Fm.check_small (h2.1.2.2 x hx) ?_
  have : x.count ≤ Fm.counts l := by
    clear h h2
    induction l with
    | nil => simp at hx
    | cons y l ih =>
      rcases List.mem_cons.1 hx with rfl | hx
      · simp
      · have := ih hx; simp; omega
  omega
theorem hasOf_ok {f : Fm} (h : f.check = 0) : hasOf f = f.has := by simp [hasOf, h]
theorem c78 (f : Fm) : f.check = 0 → f.size ≤ 1099511627770 → ∀ (σ : List Frm), CallsV cfg 78 [.agg (encF f)] σ (.val (enc2 f.rof)) σ := by
  induction f using Fm.ind with
  | _ k t m l ih =>
  intro hc hsz σ
  have hh := c81 (.mk k t m l) (by omega)
  rw [hasOf_ok hc] at hh
  have hok := Fm.check_ok hc
  simp at hsz hh
  refine w78 (by simp) ?_
  rw [s78, Fm.rof_mk]
  simp
  refine opV_call (hh _) (by simp) ?_
  cases hhas : (Fm.mk k t m l).has with
  | false =>
    simp
    refine opV_call (c129 _) (by simp) ?_
    simp [rstep, enc2]
  | true =>
    have hp : ∀ x ∈ l, x.check = 0 := fun x hx => Fm.check_part hc hx
    rcases Fm.shape hok with ⟨rfl, rfl⟩ | ⟨hk, y, x, rfl, hy, hx⟩ | ⟨hk, ht, x, rfl, hx⟩
    · rw [Fm.has_mk] at hhas; simp at hhas
    · have cy := hp y (by simp)
      have cx := hp x (by simp)
      simp at hsz
      have hyh := c81 y (by omega)
      have hxh := c81 x (by omega)
      rw [hasOf_ok cy] at hyh
      rw [hasOf_ok cx] at hxh
      have sy := Fm.rof_size y hy
      have sx := Fm.rof_size x hx
      rcases hk with rfl | rfl
      · simp
        refine opV_call (hyh _) (by simp) ?_
        cases hyv : y.has with
        | false =>
          simp
          refine opV_call (ih x (by simp) cx (by omega) _) (by simp) ?_
          simp [rstep, enc2]
        | true =>
          simp
          refine opV_call (hxh _) (by simp) ?_
          cases hxv : x.has with
          | false =>
            simp
            refine opV_call (ih y (by simp) cy (by omega) _) (by simp) ?_
            simp [rstep, enc2]
          | true =>
            simp
            refine opV_call (ih y (by simp) cy (by omega) _) (by simp) ?_
            by_cases he : y.rof.2 = 0
            · simp [enc2, he, bne]
              refine opV_call (ih x (by simp) cx (by omega) _) (by simp) ?_
              simp [enc2]
              refine opV_call (c43 y.rof.1 x.rof.1 _) (by simp) ?_
              simp
              refine opV_call (c130 (.pair y.rof.1 x.rof.1) x.rof.2 (by simp; omega) _) (by simp) ?_
              simp [enc2, rstep, he]
            · simp [enc2, he, bne, rstep, Ty.zero]
      · simp
        refine opV_call (hyh _) (by simp) ?_
        cases hyv : y.has with
        | false =>
          simp
          refine opV_call (ih x (by simp) cx (by omega) _) (by simp) ?_
          simp [rstep, enc2]
        | true =>
          simp
          refine opV_call (ih y (by simp) cy (by omega) _) (by simp) ?_
          by_cases he : y.rof.2 = 0
          · simp [enc2, he, bne]
            refine opV_call (ih x (by simp) cx (by omega) _) (by simp) ?_
            simp [enc2]
            refine opV_call (c41 y.rof.1 x.rof.1 _) (by simp) ?_
            simp
            refine opV_call (c130 (.fn y.rof.1 x.rof.1) x.rof.2 (by simp; omega) _) (by simp) ?_
            simp [enc2, rstep, he]
          · simp [enc2, he, bne, rstep, Ty.zero]
    · have cx := hp x (by simp)
      simp at hsz
      have hxh := c81 x (by omega)
      rw [hasOf_ok cx] at hxh
      have sx := Fm.rof_size x hx
      have st := Ty.check_size ht
      rcases hk with rfl | rfl | rfl | rfl
      · simp
        refine opV_call (ih x (by simp) cx (by omega) _) (by simp) ?_
        simp [enc2]
        refine opV_call (c41 t x.rof.1 _) (by simp) ?_
        simp
        refine opV_call (c130 (.fn t x.rof.1) x.rof.2 (by simp; omega) _) (by simp) ?_
        simp [enc2, rstep]
      · simp
        refine opV_call (hxh _) (by simp) ?_
        cases hxv : x.has with
        | false => simp [rstep, enc2]
        | true =>
          simp
          refine opV_call (ih x (by simp) cx (by omega) _) (by simp) ?_
          simp [enc2]
          refine opV_call (c43 t x.rof.1 _) (by simp) ?_
          simp
          refine opV_call (c130 (.pair t x.rof.1) x.rof.2 (by simp; omega) _) (by simp) ?_
          simp [enc2, rstep]
      · simp
        refine opV_call (ih x (by simp) cx (by omega) _) (by simp) ?_
        simp [enc2, rstep]
      · simp
        refine opV_call (ih x (by simp) cx (by omega) _) (by simp) ?_
        simp [enc2, rstep]
theorem c25 (f : Fm) (hsz : f.size ≤ 1099511627770) (σ : List Frm) : CallsV cfg 25 [.agg (encF f)] σ (.val (enc2 f.rtype)) σ := by
  refine w25 (by simp) ?_
  rw [s25]
  simp
  refine opV_call (c77 f (by omega) _) (by simp) ?_
  by_cases hc : f.check = 0
  · simp [hc, bne]
    refine opV_call (c78 f hc hsz _) (by simp) ?_
    simp [enc2, Fm.rtype, hc]
  · simp [hc, bne, enc2, Fm.rtype, Ty.zero]
def i80 (l : List Ty) (σ : List Frm) (j : Nat) : St → Prop
  | ⟨env, _, σ', _⟩ => env 9 = .one (.slice .no 2 (l.map enc)) ∧ env 10 = .one (.int .i64 l.length) ∧ env 11 = .one (.int .i64 j) ∧ σ' = σ ∧ checks l = checks (l.drop j)
theorem c80 (l : List Ty) (hsz : Ty.sizes l ≤ 1099511627776) (σ : List Frm) : CallsV cfg 80 [.one (.slice .no 2 (l.map enc))] σ (.val (.one (.int .i64 (ctxCheck l)))) σ := by
  have hlen := Ty.length_le l
  refine w80 (by simp) ?_
  rw [s80]
  by_cases h : 16 < l.length
  · have h' : (16 : Int) < l.length := by omega
    simp [h', ctxCheck, h]
  have h' : ¬ (16 : Int) < l.length := by omega
  simp [h', ctxCheck, h]
  refine wpP_range l.length (i80 l σ) (by omega) ⟨by simp, by simp, by simp, rfl, by simp⟩ ?_ ?_ (hend := ?_)
  · rintro j ⟨env, loc, σ', live⟩ ⟨h9, h10, h11, rfl, hs⟩
    exact ⟨h11, h10⟩
  · rintro j ⟨env, loc, σ', live⟩ hj ⟨h9, h10, h11, rfl, hs⟩
    obtain ⟨x, hx, hd, hmx⟩ := drop_cons hj
    have := Ty.sizes_mem hmx
    rw [hd, checks] at hs
    simp [h9, h10, h11, hx]
    refine opV_call (c132 x (by omega) _) (by simp) ?_
    by_cases hc : x.check = 0
    · rw [if_pos hc] at hs
      simp [hc, bne]
      exact ⟨by simp, by simp, by simp, rfl, hs⟩
    · rw [if_neg hc] at hs
      simp [hc, bne, hs]
  · rintro ⟨env, loc, σ', live⟩ ⟨h9, h10, h11, rfl, hs⟩
    rw [List.drop_length] at hs
    simp [hs, checks]
end Go.Proofs.YtbcejphjmghkbaaDoor.V


set_option maxRecDepth 100000
namespace Go.Proofs.YtbcejphjmghkbaaDoor.V
open Go Go.Proofs
theorem Fm.rtype_check {f : Fm} (h : f.rtype.2 = 0) : f.check = 0 := by
  by_cases hc : f.check = 0
  · exact hc
  · simp [Fm.rtype, hc] at h
def i28 (ts : List Ty) (hs : List Fm) (σ : List Frm) (r : Nat) : St → Prop
  | ⟨env, loc, σ', live⟩ => ∃ (j : Nat) (us : List Ty) (ow : Own), r = hs.length - j ∧ j ≤ hs.length ∧ env 1 = .one (.box σ.length 1 0 0) ∧ env 5 = .one (.slice ow 2 (us.map enc)) ∧ env 6 = .one (.int .i64 j) ∧ loc 1 = [encS ts hs] ∧ σ' = σ ∧ okOwn live ow ∧
    us.length ≤ 16 + j ∧ rctx ts hs = rctx us (hs.drop j)
def encC (r : List Ty × Int) : PV := .tup [.one (.slice .no 2 (r.1.map enc)), .one (.int .i64 r.2)]
@[simp] theorem encC_er (r : List Ty × Int) : erV (encC r) = encC r := by simp [encC]
theorem c28 (ts : List Ty) (hs : List Fm) (hts : Ty.sizes ts ≤ 1099511627776) (hhs : Fm.sizes hs ≤ 1099511627770) (σ : List Frm) : CallsV cfg 28 [.agg (encS ts hs)] σ (.val (encC (rctxs ts hs))) σ := by
  have hlen := Fm.length_le hs
  refine w28 (by simp) ?_
  rw [s28]
  simp [encS]
  refine opV_call (c80 ts hts _) (by simp) ?_
  by_cases hc : ctxCheck ts = 0
  rotate_left
  · simp [hc, bne, rctxs, encC]
  have hl16 := ctx_len hc
  by_cases hh : 16 < hs.length
  · have hh' : (16 : Int) < hs.length := by omega
    simp [hc, bne, rctxs, encC, hh, hh']
  have hh' : ¬ (16 : Int) < hs.length := by omega
  simp [hc, bne, rctxs, hh, hh']
  refine ⟨by omega, by omega, ?_⟩
  refine wpP_loop (i28 ts hs σ) hs.length ⟨0, ts, .tip 0, by omega, by omega, by simp, by simp, by simp, by simp [encS], rfl, by simp, by omega, by simp⟩ ?_
  rintro r ⟨env, loc, σ', live⟩ ⟨j, us, ow, hr, hj, e1, e5, e6, l1, rfl, how, hu, he⟩
  by_cases hlt : j < hs.length
  · obtain ⟨x, hx, hd, hm⟩ := drop_cons hlt
    have hsx := Fm.sizes_mem hm
    have hlt' : (j : Int) < hs.length := by omega
    rw [hd, rctx] at he
    simp [e1, e5, e6, l1, encS, hlt', hx]
    refine opV_call (c25 x (by omega) _) (by simp) ?_
    by_cases hxe : x.rtype.2 = 0
    · rw [if_neg (by simpa using hxe)] at he
      have hxc := Fm.rtype_check hxe
      have hhx := c81 x (by omega)
      rw [hasOf_ok hxc] at hhx
      simp [e1, e5, e6, l1, encS, hx, enc2, hxe, bne]
      refine opV_call (hhx _) (by simp) ?_
      cases hxb : x.has with
      | true =>
        rw [hxb, if_pos rfl] at he
        simp [e1, e5, e6, l1, how]
        rw [wrap_id (by omega) (by omega)]
        exact ⟨by omega, by omega, loopK_normal (hs.length - (j + 1)) (by omega) ⟨j + 1, us ++ [x.rtype.1], .tip live.nx, rfl, by omega, by simp, by simp, by simp, by simp [l1, encS], rfl, grown_on, by simp; omega, he⟩⟩
      | false =>
        rw [hxb, if_neg (by simp)] at he
        simp [e1, e5, e6, l1]
        rw [wrap_id (by omega) (by omega)]
        exact loopK_normal (hs.length - (j + 1)) (by omega) ⟨j + 1, us, ow, rfl, by omega, by simp, by simp [e5], by simp, by simp [l1, encS], rfl, how, by omega, he⟩
    · rw [if_pos hxe] at he
      simp [e1, e5, e6, l1, encS, hx, enc2, hxe, bne, encC, he]
  · have hlt' : ¬ (j : Int) < hs.length := by omega
    obtain rfl : j = hs.length := by omega
    rw [List.drop_length, rctx] at he
    simp [e1, e5, e6, l1, encS, encC, he]
def i30 (ts : List Ty) (hs : List Fm) (σ : List Frm) (r : Nat) : St → Prop
  | ⟨env, loc, σ', live⟩ => ∃ (j : Nat) (ps : List Int) (n : Nat) (ow : Own), r = hs.length - j ∧ j ≤ hs.length ∧ env 1 = .one (.box σ.length 1 0 0) ∧ env 6 = .one (.slice ow 1 (encI ps)) ∧ env 7 = .one (.int .i64 n) ∧ env 8 = .one (.int .i64 j) ∧ loc 1 = [encS ts hs] ∧ σ' = σ ∧ okOwn live ow ∧
    ps.length ≤ j ∧ n ≤ 16 + j ∧ rplace ts.length hs = ps ++ rplace n (hs.drop j)
def encP (r : List Int × Int) : PV := .tup [.one (.slice .no 1 (encI r.1)), .one (.int .i64 r.2)]
@[simp] theorem encP_er (r : List Int × Int) : erV (encP r) = encP r := by simp [encP]
theorem rctx_ok {hs : List Fm} : ∀ {ts : List Ty}, (rctx ts hs).2 = 0 → ∀ f ∈ hs, f.check = 0 := by
  induction hs with
  | nil => intro ts _ f hf; simp at hf
  | cons x hs ih =>
    intro ts h f hf
    rw [rctx] at h
    by_cases hx : x.rtype.2 = 0
    · rw [if_neg (by simpa using hx)] at h
      rcases List.mem_cons.1 hf with rfl | hf
      · exact Fm.rtype_check hx
      · split at h
        · exact ih h f hf
        · exact ih h f hf
    · rw [if_pos hx] at h
      exact absurd h hx
theorem c30 (ts : List Ty) (hs : List Fm) (hts : Ty.sizes ts ≤ 1099511627776) (hhs : Fm.sizes hs ≤ 1099511627770) (σ : List Frm) : CallsV cfg 30 [.agg (encS ts hs)] σ (.val (encP (rplaces ts hs))) σ := by
  have hlen := Fm.length_le hs
  refine w30 (by simp) ?_
  rw [s30]
  simp [encS]
  refine opV_call (c28 ts hs hts hhs _) (by simp [encS]) ?_
  by_cases he : (rctxs ts hs).2 = 0
  rotate_left
  · simp [encC, he, bne, rplaces, encP]
  have hok : ctxCheck ts = 0 ∧ ¬ 16 < hs.length ∧ (rctx ts hs).2 = 0 := by
    unfold rctxs at he
    split at he
    · rename_i h; exact absurd he h
    · split at he
      · cases he
      · rename_i h1 h2; exact ⟨by simpa using h1, h2, he⟩
  have hl16 := ctx_len hok.1
  have hall := rctx_ok hok.2.2
  simp [encC, he, bne, rplaces]
  refine wpP_loop (i30 ts hs σ) hs.length ⟨0, [], ts.length, .full, by omega, by omega, by simp, by simp, by simp, by simp, by simp [encS], rfl, by simp, by simp, by omega, by simp⟩ ?_
  rintro r ⟨env, loc, σ', live⟩ ⟨j, ps, n, ow, hr, hj, e1, e6, e7, e8, l1, rfl, how, hp, hn, hs2⟩
  by_cases hlt : j < hs.length
  · obtain ⟨x, hx, hd, hm⟩ := drop_cons hlt
    have hsx := Fm.sizes_mem hm
    have hhx := c81 x (by omega)
    rw [hasOf_ok (hall x hm)] at hhx
    rw [hd, rplace] at hs2
    have hlt' : (j : Int) < hs.length := by omega
    simp [e1, e6, e7, e8, l1, encS, hlt', hx]
    refine opV_call (hhx _) (by simp) ?_
    cases hxb : x.has with
    | true =>
      rw [hxb, if_pos rfl] at hs2
      simp [e1, e6, e7, e8, l1, how]
      rw [wrap_id (by omega) (by omega), wrap_id (by omega) (by omega)]
      exact ⟨by omega, by omega, loopK_normal (hs.length - (j + 1)) (by omega) ⟨j + 1, ps ++ [(n : Int)], n + 1, .tip live.nx, rfl, by omega, by simp, by simp, by simp, by simp, by simp [l1, encS], rfl, grown_on, by simp; omega, by omega, by simpa using hs2⟩⟩
    | false =>
      rw [hxb, if_neg (by simp)] at hs2
      simp [e1, e6, e7, e8, l1, how]
      rw [wrap_id (by omega) (by omega)]
      exact ⟨by omega, by omega, loopK_normal (hs.length - (j + 1)) (by omega) ⟨j + 1, ps ++ [-1], n, .tip live.nx, rfl, by omega, by simp, by simp, by simp [e7], by simp, by simp [l1, encS], rfl, grown_on, by simp; omega, by omega, by simpa using hs2⟩⟩
  · obtain rfl : j = hs.length := by omega
    rw [List.drop_length, rplace, List.append_nil] at hs2
    simp [e1, e6, e7, e8, l1, encS, encP, hs2]
def fAwake : Fm := .q 4 .nat (.q 5 .nat .bad)
theorem fAwake_type : ctype fAwake = (.fn .nat .nat, 0) := by kernel_rfl
theorem fAwake_look : looks [.nat] [.bad, fAwake] = ([.nat, .fn .nat .nat], [-1, 1], 0) := by kernel_rfl
theorem fAwake_size : fAwake.size ≤ 100 := by decide +kernel
theorem bad_size : Fm.bad.size ≤ 100 := by decide +kernel
theorem nat_same : Ty.same (.fn .nat .nat) (.fn .nat .nat) = true := by decide +kernel
theorem nn_size : (Ty.fn .nat .nat).size = 3 := by decide +kernel
theorem c15 (σ : List Frm) : CallsV cfg 15 [] σ (.val (.one (.bool true))) σ := by
  have h1 := fAwake_size
  have h2 := bad_size
  have e24 := c24 fAwake (by omega)
  rw [fAwake_type] at e24
  have e27 := c27 [.nat] [.bad, fAwake] (by simp) (by simp; omega)
  have e29 := c29 [.nat] [.bad, fAwake] (by simp) (by simp; omega)
  rw [fAwake_look] at e27 e29
  refine w15 (by simp) ?_
  rw [s15]
  simp
  refine wpP_draw (fun _ _ _ => false) ?_
  simp
  refine stepD_call (c69 _) (by simp) ?_
  simp
  refine opV_call (e24 _) (by simp [fAwake, Fm.q, Ty.nat]) ?_
  simp [enc2]
  refine wpP_draw (fun _ _ _ => false) ?_
  simp
  refine stepD_call (c69 _) (by simp) ?_
  simp
  refine stepD_call (e27 _) (by simp [encS, fAwake, Fm.q, Ty.nat]) ?_
  simp
  refine wpP_draw (fun _ _ _ => false) ?_
  simp
  refine stepD_call (c69 _) (by simp) ?_
  simp
  refine stepD_call (e29 _) (by simp [encS, fAwake, Fm.q, Ty.nat]) ?_
  simp
  refine wpP_draw (fun _ _ _ => false) ?_
  simp
  refine stepD_call (c41 .nat .nat _) (by simp [Ty.nat]) ?_
  simp
  refine stepD_call (c26 (.fn .nat .nat) (.fn .nat .nat) (by rw [nn_size]; omega) _) (by simp) ?_
  rw [nat_same]
  simp [encI]
end Go.Proofs.YtbcejphjmghkbaaDoor.V


set_option maxRecDepth 100000
namespace Go.Proofs.YtbcejphjmghkbaaDoor.V
open Go Go.Proofs
theorem Fm.rtype_size {f : Fm} : f.rtype.1.size ≤ 64 := by
  unfold Fm.rtype
  split
  · simp
  · rename_i h; exact Fm.rof_size f (Fm.check_ok (by simpa using h))
theorem rctx_size (hs : List Fm) : ∀ ts, Ty.sizes (rctx ts hs).1 ≤ Ty.sizes ts + 64 * hs.length := by
  induction hs with
  | nil => intro ts; simp [rctx]
  | cons x hs ih =>
    intro ts
    have hx := x.rtype_size
    rw [rctx]
    split
    · simp
    · split
      · have := ih (ts ++ [x.rtype.1])
        simp at this ⊢
        omega
      · have := ih ts
        simp
        omega
theorem rctxs_size (ts : List Ty) (hs : List Fm) : Ty.sizes (rctxs ts hs).1 ≤ Ty.sizes ts + 64 * hs.length := by
  unfold rctxs
  split
  · simp
  · split
    · simp
    · exact rctx_size hs ts
theorem rplace_len (hs : List Fm) : ∀ n, (rplace n hs).length = hs.length := by
  induction hs with
  | nil => intro n; rfl
  | cons x hs ih => intro n; rw [rplace]; split <;> simp [ih]
theorem rplaces_len (ts : List Ty) (hs : List Fm) : (rplaces ts hs).1.length ≤ hs.length := by
  unfold rplaces
  split
  · simp
  · simp [rplace_len]
theorem Ty.same_refl (t : Ty) : Ty.same t t = true := (Ty.same_iff t t).2 rfl
theorem Ty.sames_refl (l : List Ty) : Ty.sames l l = true := by
  induction l with
  | nil => simp
  | cons x l ih => simp [Ty.same_refl, ih]
def i3a (ts : List Ty) (hs : List Fm) (us : List Ty) (gs : List Fm) (L : List Fm) (σ : List Frm) (j : Nat) : St → Prop
  | ⟨env, loc, σ', live⟩ => env 5 = .one (.box σ.length 5 0 0) ∧ env 8 = .one (.box σ.length 8 0 0) ∧ env 64 = .one (.slice .full 5 (L.map encF)) ∧ env 65 = .one (.int .i64 2) ∧ env 66 = .one (.int .i64 j) ∧ loc 5 = [encS ts hs] ∧ loc 8 = [encS us gs] ∧ σ' = σ
def i3b (ts : List Ty) (hs : List Fm) (us : List Ty) (gs : List Fm) (σ : List Frm) (j : Nat) : St → Prop
  | ⟨env, loc, σ', live⟩ => env 92 = .one (.slice .full 2 [encS ts hs, encS us gs]) ∧ env 93 = .one (.int .i64 2) ∧ env 94 = .one (.int .i64 j) ∧ σ' = σ
theorem Fm.sizes_le {l : List Fm} {m : Nat} (h : ∀ f ∈ l, f.size ≤ m) : Fm.sizes l ≤ l.length * m := by
  induction l with
  | nil => simp
  | cons x l ih =>
    have h1 := h x (by simp)
    have h2 := ih fun y hy => h y (by simp [hy])
    simp [Nat.add_mul]
    omega
theorem law3 (l : List Int) (hi : i64s l) (raw : Fm) (ts : List Ty) (hs : List Fm) (σ : List Frm) : CallsV cfg 3 [.one (.slice .no 1 (encI l)), .agg (encF raw), .agg (encS ts hs)] σ (.val (.one (.bool true))) σ := by
  refine w3 (by simp) ?_
  rw [s3]
  simp [encS]
  refine wpP_draw (fun _ _ _ => false) ?_
  simp
  refine stepD_call (c15 _) (by simp) ?_
  simp
  refine stepD_call (c16 l _) (by simp) ?_
  by_cases hl : l.length ≤ 500
  rotate_left
  · simp [hl]
    refine opV_call (c15 _) (by simp) ?_
    simp
  simp [hl]
  refine stepD_call (c17 _) (by simp) ?_
  simp
  have hb1 := sumFm_bd [raw] 0
  refine stepD_call (c18 [raw] 0 (by omega) (by omega) _) (by simp) ?_
  simp [encS]
  have hb2 := sumTy_bd ts (sumFm [raw] 0)
  have hb3 := sumFm_bd hs (sumTy ts (sumFm [raw] 0))
  refine stepD_call (c19 ts hs (sumFm [raw] 0) (by omega) (by omega) _) (by simp [encS]) ?_
  simp
  refine stepD_call (c20 (sumFm hs (sumTy ts (sumFm [raw] 0))) _) (by simp) ?_
  by_cases hfew : sumFm hs (sumTy ts (sumFm [raw] 0)) ≤ 20000
  rotate_left
  · simp [hfew]
    refine opV_call (c15 _) (by simp) ?_
    simp
  have q1 := sumFm_eq [raw] 0 (by omega) (by omega)
  have q2 := sumTy_eq ts (sumFm [raw] 0) (by omega) (by omega)
  have q3 := sumFm_eq hs (sumTy ts (sumFm [raw] 0)) (by omega) hfew
  simp only [Fm.sizes_cons, Fm.sizes_nil] at q1
  by_cases h40 : 40 < ts.length
  · have h40' : (40 : Int) < ts.length := by omega
    simp [hfew, h40']
    refine opV_call (c15 _) (by simp) ?_
    simp
  have h40' : ¬ (40 : Int) < ts.length := by omega
  by_cases h30 : 30 < hs.length
  · have h30' : (30 : Int) < hs.length := by omega
    simp [hfew, h40', h30']
    refine opV_call (c15 _) (by simp) ?_
    simp
  have h30' : ¬ (30 : Int) < hs.length := by omega
  simp [hfew, h40', h30']
  have hd : Dk l := ⟨by omega, hi⟩
  refine opV_new (c21 l _) (by simp) ?_
  simp
  refine opV_own1 (d22 hd ⟨σ.length, 56, 0⟩ (List.suffix_refl l)) (by simp) (by simp [Pl.ptr]) ?_
  have hms := mkSequent_fine l
  have hss := mkSequent_suf l
  have hfB : fmB 3 2 ≤ 2000 := by decide
  have hgs := Fm.sizes_le (l := (mkSequent l).1.2) (m := 2000) fun f hf => Nat.le_trans (hms.2.2.1 f hf).2 hfB
  have hus := hms.1.sizes
  generalize (mkSequent l).1.1 = us at hms hus
  generalize (mkSequent l).1.2 = gs at hms hgs
  have hus2 : Ty.sizes us ≤ 9 := by have : us.length * 3 ≤ 3 * 3 := Nat.mul_le_mul_right _ hms.2.1; omega
  have hgs2 : Fm.sizes gs ≤ 4000 := by have : gs.length * 2000 ≤ 2 * 2000 := Nat.mul_le_mul_right _ hms.2.2.2; omega
  have hug : Good 64 us := fun x hx => ⟨(hms.1 x hx).1, by have := (hms.1 x hx).2; omega⟩
  have hf4 := mkFormula_fine (m := 64) (by omega) (by omega) 4 us (mkSequent l).2 hug
  have hf4b : (mkFormula 4 us (mkSequent l).2).1.size ≤ 200000 := Nat.le_trans hf4.2 (fmB_small 4 (by omega))
  simp [encS]
  refine wpP_draw (atPl ⟨σ.length, 56, 0⟩) ?_
  simp [atPl]
  refine stepD_own (d23 hd ⟨σ.length, 56, 0⟩ 4 (by omega) us hug (by omega) hss) (by simp) (by simp [Pl.ptr]) ?_
  generalize (mkFormula 4 us (mkSequent l).2).1 = f at hf4b
  simp
  obtain ⟨L, hL⟩ : ∃ L, L = [raw, f] := ⟨_, rfl⟩
  refine wpP_range 2 (i3a ts hs us gs L σ) (by omega) ⟨by simp, by simp, by simp [hL], by simp, by simp, by simp [encS], by simp [encS], rfl⟩ ?_ ?_ (hend := ?_)
  · rintro j ⟨env, loc, σ', live⟩ ⟨e5, e8, e64, e65, e66, l5, l8, rfl⟩
    exact ⟨e66, by simpa using e65⟩
  · rintro j ⟨env, loc, σ', live⟩ hj ⟨e5, e8, e64, e65, e66, l5, l8, rfl⟩
    obtain ⟨x, hx, hxs⟩ : ∃ x : Fm, L[j]? = some x ∧ x.size ≤ 200000 := by
      subst hL
      have : j = 0 ∨ j = 1 := by omega
      rcases this with rfl | rfl
      · exact ⟨raw, rfl, by omega⟩
      · exact ⟨f, rfl, by omega⟩
    simp [e5, e8, e64, e65, e66, l5, l8, hx]
    have e24 := c24 x (by omega)
    rw [ctype_eq] at e24
    have hrs := x.rtype_size
    refine opV_call (e24 _) (by simp) ?_
    simp [enc2, e5, e8, e64, e65, e66, l5, l8]
    refine opV_call (c25 x (by omega) _) (by simp) ?_
    simp [enc2, e5, e8, e64, e65, e66, l5, l8, bne]
    refine opV_call (c26 x.rtype.1 x.rtype.1 (by omega) _) (by simp) ?_
    rw [Ty.same_refl]
    simp [e5, e8, e64, e65, e66, l5, l8]
    exact ⟨by simp, by simp, by simp, by simp, by simp, by simp [l5], by simp [l8], rfl⟩
  · rintro ⟨env, loc, σ', live⟩ ⟨e5, e8, e64, e65, e66, l5, l8, rfl⟩
    simp [e5, e8, l5, l8, encS]
    refine wpP_range 2 (i3b ts hs us gs σ') (by omega) ⟨by simp [encS], by simp, by simp, rfl⟩ ?_ ?_ (hend := ?_)
    · rintro j ⟨env, loc, σ', live⟩ ⟨e92, e93, e94, rfl⟩
      exact ⟨e94, by simpa using e93⟩
    · rintro j ⟨env, loc, σ', live⟩ hj ⟨e92, e93, e94, rfl⟩
      obtain ⟨vs, fs, hx, hv, hf, hfl⟩ : ∃ (vs : List Ty) (fs : List Fm), [encS ts hs, encS us gs][j]? = some (encS vs fs) ∧ Ty.sizes vs ≤ 20000 ∧ Fm.sizes fs ≤ 20000 ∧ fs.length ≤ 30 := by
        have : j = 0 ∨ j = 1 := by omega
        rcases this with rfl | rfl
        · exact ⟨ts, hs, rfl, by omega, by omega, by omega⟩
        · exact ⟨us, gs, rfl, by omega, by omega, by omega⟩
      obtain ⟨k1, k2, k3, k4⟩ := looks_eq vs fs
      have e27 := c27 vs fs (by omega) (by omega)
      have e29 := c29 vs fs (by omega) (by omega)
      rw [k1, k2] at e27
      rw [k3, k4] at e29
      have s1 := rctxs_size vs fs
      have s2 := rplaces_len vs fs
      simp [e92, e93, e94, hx]
      simp [encS]
      refine opV_call (e27 _) (by simp [encS]) ?_
      simp [e92, e93, e94]
      refine opV_call (c28 vs fs (by omega) (by omega) _) (by simp [encS]) ?_
      simp [e92, e93, e94, encC]
      refine opV_call (e29 _) (by simp [encS]) ?_
      simp [e92, e93, e94]
      refine opV_call (c30 vs fs (by omega) (by omega) _) (by simp [encS]) ?_
      simp [e92, e93, e94, encP, bne]
      refine opV_call (c31 (rctxs vs fs).1 (rctxs vs fs).1 (by omega) _) (by simp) ?_
      rw [Ty.sames_refl]
      simp
      refine opV_call (c32 (rplaces vs fs).1 (rplaces vs fs).1 (by omega) _) (by simp) ?_
      simp [e92, e93, e94]
      exact ⟨by simp [encS], by simp, by simp, rfl⟩
    · rintro ⟨env, loc, σ', live⟩ ⟨e92, e93, e94, rfl⟩
      simp
end Go.Proofs.YtbcejphjmghkbaaDoor.V


set_option maxRecDepth 100000
namespace Go.Proofs.YtbcejphjmghkbaaDoor.V
open Go Go.Proofs
noncomputable section
def a82 : List Ann := [⟨[0], [], []⟩,
 ⟨[0], [], []⟩]
def s82 : SC := .seq (.ops [⟨some 0, .alloc 25, 0, .always⟩] [0])
 (.seq (.ops [⟨some 1, .build 25 #[(0, .const (.int .i64 1))], 25, .always⟩,
 ⟨none, .store 25 (.tmp 0) (.tmp 1), 0, .always⟩] [0])
 (.ret))
theorem w82 {args : List PV} {σ σ' : List Frm} {r : Ret} (hr : ∀ p, r = .val p → erV p = p) (h : wpP cfg s82 (QEndP cfg [.cell 0 25] σ' r) ⟨initEnv args, fun _ => [], σ, ⟨fun _ => false, 0⟩⟩) : CallsV cfg 82 args σ r σ' :=
 callsV_of_p follows cfgT a82 (fn := Tryd.f82) (c := Tryd.f82.body.getD .skip) (by kernel_rfl) (by kernel_rfl) (by kernel_rfl) (by kernel_rfl) (by kernel_rfl) (sc := s82) (by kernel_rfl) [.cell 0 25] (by kernel_rfl) hr h
def a34 : List Ann := [⟨[0], [], []⟩,
 ⟨[0], [], []⟩]
def s34 : SC := .seq (.ops [⟨some 0, .alloc 25, 0, .always⟩] [0])
 (.seq (.ops [⟨some 1, .call { callee := .value (.func 82), args := #[], argTypes := #[] }, 25, .always⟩,
 ⟨none, .store 25 (.tmp 0) (.tmp 1), 0, .always⟩] [0])
 (.ret))
theorem w34 {args : List PV} {σ σ' : List Frm} {r : Ret} (hr : ∀ p, r = .val p → erV p = p) (h : wpP cfg s34 (QEndP cfg [.cell 0 25] σ' r) ⟨initEnv args, fun _ => [], σ, ⟨fun _ => false, 0⟩⟩) : CallsV cfg 34 args σ r σ' :=
 callsV_of_p follows cfgT a34 (fn := Tryd.f34) (c := Tryd.f34.body.getD .skip) (by kernel_rfl) (by kernel_rfl) (by kernel_rfl) (by kernel_rfl) (by kernel_rfl) (sc := s34) (by kernel_rfl) [.cell 0 25] (by kernel_rfl) hr h
def a87 : List Ann := [⟨[1, 2], [], []⟩,
 ⟨[1, 2, 10], [], []⟩,
 ⟨[4], [], []⟩,
 ⟨[1, 12, 13, 14], [], []⟩,
 ⟨[1, 12, 13, 14, 15], [], []⟩,
 ⟨[1, 6, 12, 13, 14], [], []⟩,
 ⟨[1, 12, 13, 14, 21], [], []⟩,
 ⟨[4], [], []⟩,
 ⟨[1, 12, 13, 14], [], []⟩,
 ⟨[4], [], []⟩]
def s87 : SC := .seq (.ops [⟨some 2, .box 62 (.tmp 0), 0, .always⟩,
 ⟨some 4, .assign (.const (.bool false)), 4, .always⟩] [1, 2])
 (.seq (.seq (.ops [⟨some 7, .fieldAddr 62 (.tmp 2) 1, 0, .always⟩,
 ⟨some 8, .load 3 (.tmp 7), 3, .always⟩,
 ⟨some 9, .move (.tmp 1), 3, .always⟩,
 ⟨some 10, .binOp .gtr 3 (.tmp 8) (.tmp 9) 3, 4, .always⟩] [1, 2, 10])
 (.cond (.tmp 10)
 (.seq (.ops [⟨some 4, .assign (.const (.bool false)), 4, .always⟩] [4])
 (.ret))
 (.skip)))
 (.seq (.seq (.ops [⟨some 11, .fieldAddr 62 (.tmp 2) 3, 0, .always⟩,
 ⟨some 12, .load 26 (.tmp 11), 26, .always⟩,
 ⟨some 13, .call { callee := .builtin .len, args := #[.tmp 12], argTypes := #[26] }, 3, .always⟩,
 ⟨some 14, .move (.const (.int .i64 0)), 3, .always⟩] [1, 12, 13, 14])
 (.block 0
 (.loop
 (.seq (.ops [⟨some 15, .binOp .lss 3 (.tmp 14) (.tmp 13) 3, 0, .always⟩] [1, 12, 13, 14, 15])
 (.seq (.cond (.tmp 15)
 (.skip)
 (.exit 0))
 (.seq (.block 1
 (.seq (.ops [⟨some 16, .indexAddr 26 (.tmp 12) (.tmp 14), 0, .always⟩,
 ⟨some 17, .load 62 (.tmp 16), 62, .always⟩,
 ⟨some 6, .alloc 62, 0, .always⟩,
 ⟨none, .store 62 (.tmp 6) (.tmp 17), 0, .always⟩] [1, 6, 12, 13, 14])
 (.seq (.ops [⟨some 18, .load 62 (.tmp 6), 62, .always⟩,
 ⟨some 19, .move (.tmp 1), 3, .always⟩,
 ⟨some 20, .call { callee := .value (.func 87), args := #[.tmp 18, .tmp 19], argTypes := #[62, 3] }, 4, .always⟩,
 ⟨some 21, .unOp .not 4 (.tmp 20), 4, .always⟩] [1, 12, 13, 14, 21])
 (.cond (.tmp 21)
 (.seq (.ops [⟨some 4, .assign (.const (.bool false)), 4, .always⟩] [4])
 (.ret))
 (.skip)))))
 (.ops [⟨some 22, .binOp .add 3 (.tmp 14) (.const (.int .i64 1)) 3, 3, .always⟩,
 ⟨some 14, .move (.tmp 22), 3, .always⟩] [1, 12, 13, 14])))))))
 (.seq (.ops [⟨some 4, .assign (.const (.bool true)), 4, .always⟩] [4])
 (.ret))))
theorem w87 {args : List PV} {σ σ' : List Frm} {r : Ret} (hr : ∀ p, r = .val p → erV p = p) (h : wpP cfg s87 (QEndP cfg [.tmp 4] σ' r) ⟨initEnv args, fun _ => [], σ, ⟨fun _ => false, 0⟩⟩) : CallsV cfg 87 args σ r σ' :=
 callsV_of_p follows cfgT a87 (fn := Tryd.f87) (c := Tryd.f87.body.getD .skip) (by kernel_rfl) (by kernel_rfl) (by kernel_rfl) (by kernel_rfl) (by kernel_rfl) (sc := s87) (by kernel_rfl) [.tmp 4] (by kernel_rfl) hr h
def a83 : List Ann := [⟨[1, 2], [], []⟩,
 ⟨[1, 2, 10, 11, 12], [], []⟩,
 ⟨[1, 2, 10, 11, 12, 13], [], []⟩,
 ⟨[1, 2, 6, 10, 11, 12], [], []⟩,
 ⟨[1, 2, 10, 11, 12, 19], [], []⟩,
 ⟨[4], [], []⟩,
 ⟨[1, 2, 10, 11, 12], [], []⟩,
 ⟨[1, 22, 23, 24], [], []⟩,
 ⟨[1, 22, 23, 24, 25], [], []⟩,
 ⟨[1, 8, 22, 23, 24], [], []⟩,
 ⟨[1, 22, 23, 24, 31], [], []⟩,
 ⟨[4], [], []⟩,
 ⟨[1, 22, 23, 24], [], []⟩,
 ⟨[4], [], []⟩]
def s83 : SC := .seq (.ops [⟨some 2, .box 29 (.tmp 0), 0, .always⟩,
 ⟨some 4, .assign (.const (.bool false)), 4, .always⟩] [1, 2])
 (.seq (.seq (.ops [⟨some 9, .fieldAddr 29 (.tmp 2) 2, 0, .always⟩,
 ⟨some 10, .load 26 (.tmp 9), 26, .always⟩,
 ⟨some 11, .call { callee := .builtin .len, args := #[.tmp 10], argTypes := #[26] }, 3, .always⟩,
 ⟨some 12, .move (.const (.int .i64 0)), 3, .always⟩] [1, 2, 10, 11, 12])
 (.block 0
 (.loop
 (.seq (.ops [⟨some 13, .binOp .lss 3 (.tmp 12) (.tmp 11) 3, 0, .always⟩] [1, 2, 10, 11, 12, 13])
 (.seq (.cond (.tmp 13)
 (.skip)
 (.exit 0))
 (.seq (.block 1
 (.seq (.ops [⟨some 14, .indexAddr 26 (.tmp 10) (.tmp 12), 0, .always⟩,
 ⟨some 15, .load 62 (.tmp 14), 62, .always⟩,
 ⟨some 6, .alloc 62, 0, .always⟩,
 ⟨none, .store 62 (.tmp 6) (.tmp 15), 0, .always⟩] [1, 2, 6, 10, 11, 12])
 (.seq (.ops [⟨some 16, .load 62 (.tmp 6), 62, .always⟩,
 ⟨some 17, .move (.tmp 1), 3, .always⟩,
 ⟨some 18, .call { callee := .value (.func 87), args := #[.tmp 16, .tmp 17], argTypes := #[62, 3] }, 4, .always⟩,
 ⟨some 19, .unOp .not 4 (.tmp 18), 4, .always⟩] [1, 2, 10, 11, 12, 19])
 (.cond (.tmp 19)
 (.seq (.ops [⟨some 4, .assign (.const (.bool false)), 4, .always⟩] [4])
 (.ret))
 (.skip)))))
 (.ops [⟨some 20, .binOp .add 3 (.tmp 12) (.const (.int .i64 1)) 3, 3, .always⟩,
 ⟨some 12, .move (.tmp 20), 3, .always⟩] [1, 2, 10, 11, 12])))))))
 (.seq (.seq (.ops [⟨some 21, .fieldAddr 29 (.tmp 2) 3, 0, .always⟩,
 ⟨some 22, .load 27 (.tmp 21), 27, .always⟩,
 ⟨some 23, .call { callee := .builtin .len, args := #[.tmp 22], argTypes := #[27] }, 3, .always⟩,
 ⟨some 24, .move (.const (.int .i64 0)), 3, .always⟩] [1, 22, 23, 24])
 (.block 2
 (.loop
 (.seq (.ops [⟨some 25, .binOp .lss 3 (.tmp 24) (.tmp 23) 3, 0, .always⟩] [1, 22, 23, 24, 25])
 (.seq (.cond (.tmp 25)
 (.skip)
 (.exit 2))
 (.seq (.block 3
 (.seq (.ops [⟨some 26, .indexAddr 27 (.tmp 22) (.tmp 24), 0, .always⟩,
 ⟨some 27, .load 29 (.tmp 26), 29, .always⟩,
 ⟨some 8, .alloc 29, 0, .always⟩,
 ⟨none, .store 29 (.tmp 8) (.tmp 27), 0, .always⟩] [1, 8, 22, 23, 24])
 (.seq (.ops [⟨some 28, .load 29 (.tmp 8), 29, .always⟩,
 ⟨some 29, .move (.tmp 1), 3, .always⟩,
 ⟨some 30, .call { callee := .value (.func 83), args := #[.tmp 28, .tmp 29], argTypes := #[29, 3] }, 4, .always⟩,
 ⟨some 31, .unOp .not 4 (.tmp 30), 4, .always⟩] [1, 22, 23, 24, 31])
 (.cond (.tmp 31)
 (.seq (.ops [⟨some 4, .assign (.const (.bool false)), 4, .always⟩] [4])
 (.ret))
 (.skip)))))
 (.ops [⟨some 32, .binOp .add 3 (.tmp 24) (.const (.int .i64 1)) 3, 3, .always⟩,
 ⟨some 24, .move (.tmp 32), 3, .always⟩] [1, 22, 23, 24])))))))
 (.seq (.ops [⟨some 4, .assign (.const (.bool true)), 4, .always⟩] [4])
 (.ret))))
theorem w83 {args : List PV} {σ σ' : List Frm} {r : Ret} (hr : ∀ p, r = .val p → erV p = p) (h : wpP cfg s83 (QEndP cfg [.tmp 4] σ' r) ⟨initEnv args, fun _ => [], σ, ⟨fun _ => false, 0⟩⟩) : CallsV cfg 83 args σ r σ' :=
 callsV_of_p follows cfgT a83 (fn := Tryd.f83) (c := Tryd.f83.body.getD .skip) (by kernel_rfl) (by kernel_rfl) (by kernel_rfl) (by kernel_rfl) (by kernel_rfl) (sc := s83) (by kernel_rfl) [.tmp 4] (by kernel_rfl) hr h
def a154 : List Ann := [⟨[1], [], []⟩,
 ⟨[5], [], []⟩,
 ⟨[2], [], []⟩,
 ⟨[2], [], []⟩]
def s154 : SC := .seq (.ops [⟨some 1, .box 62 (.tmp 0), 0, .always⟩,
 ⟨some 2, .assign (.const (.int .i64 0)), 3, .always⟩] [1])
 (.seq (.seq (.ops [⟨some 3, .fieldAddr 62 (.tmp 1) 0, 0, .always⟩,
 ⟨some 4, .load 3 (.tmp 3), 3, .always⟩,
 ⟨some 5, .binOp .eql 3 (.tmp 4) (.const (.int .i64 2)) 3, 4, .always⟩] [5])
 (.cond (.tmp 5)
 (.seq (.ops [⟨some 2, .assign (.const (.int .i64 1)), 3, .always⟩] [2])
 (.ret))
 (.skip)))
 (.seq (.ops [⟨some 2, .assign (.const (.int .i64 0)), 3, .always⟩] [2])
 (.ret)))
theorem w154 {args : List PV} {σ σ' : List Frm} {r : Ret} (hr : ∀ p, r = .val p → erV p = p) (h : wpP cfg s154 (QEndP cfg [.tmp 2] σ' r) ⟨initEnv args, fun _ => [], σ, ⟨fun _ => false, 0⟩⟩) : CallsV cfg 154 args σ r σ' :=
 callsV_of_p follows cfgT a154 (fn := Tryd.f154) (c := Tryd.f154.body.getD .skip) (by kernel_rfl) (by kernel_rfl) (by kernel_rfl) (by kernel_rfl) (by kernel_rfl) (sc := s154) (by kernel_rfl) [.tmp 2] (by kernel_rfl) hr h
def a133 : List Ann := [⟨[1, 2, 3, 6], [], []⟩,
 ⟨[1, 2, 3, 6, 7], [], []⟩,
 ⟨[1, 2, 3, 6, 7, 25], [], []⟩,
 ⟨[1, 2, 3, 6, 7], [], []⟩,
 ⟨[1, 2, 3, 6, 7, 32, 33, 34], [], []⟩,
 ⟨[1, 2, 3, 6, 7, 32, 33, 34, 35], [], []⟩,
 ⟨[1, 2, 3, 6, 7, 9, 32, 33, 34], [], []⟩,
 ⟨[1, 2, 3, 6, 7, 32, 33, 34], [0, 1, 0, 0, 0, 16, 56, 0, 252, 508, 1023, 2047, 4095], [false, true, true, false, false, true, false, false, true, false, false, false, false]⟩,
 ⟨[1, 2, 3, 6, 7, 32, 33, 34], [], []⟩,
 ⟨[6], [], []⟩]
def s133 : SC := .seq (.ops [⟨some 3, .box 62 (.tmp 0), 0, .always⟩,
 ⟨some 6, .alloc 62, 0, .always⟩] [1, 2, 3, 6])
 (.seq (.ops [⟨some 10, .fieldAddr 62 (.tmp 3) 0, 0, .always⟩,
 ⟨some 11, .load 3 (.tmp 10), 3, .always⟩,
 ⟨some 12, .fieldAddr 62 (.tmp 3) 1, 0, .always⟩,
 ⟨some 13, .load 3 (.tmp 12), 3, .always⟩,
 ⟨some 14, .fieldAddr 62 (.tmp 3) 2, 0, .always⟩,
 ⟨some 15, .load 25 (.tmp 14), 25, .always⟩,
 ⟨some 16, .build 62 #[(0, .tmp 11), (1, .tmp 13), (2, .tmp 15)], 62, .always⟩,
 ⟨some 7, .alloc 62, 0, .always⟩,
 ⟨none, .store 62 (.tmp 7) (.tmp 16), 0, .always⟩] [1, 2, 3, 6, 7])
 (.seq (.seq (.ops [⟨some 17, .fieldAddr 62 (.tmp 3) 0, 0, .always⟩,
 ⟨some 18, .load 3 (.tmp 17), 3, .always⟩,
 ⟨some 19, .binOp .eql 3 (.tmp 18) (.const (.int .i64 1)) 3, 4, .always⟩,
 ⟨some 20, .move (.tmp 19), 4, .always⟩,
 ⟨some 21, .fieldAddr 62 (.tmp 3) 1, 0, .tmp 20 true⟩,
 ⟨some 22, .load 3 (.tmp 21), 3, .tmp 20 true⟩,
 ⟨some 23, .move (.tmp 1), 3, .tmp 20 true⟩,
 ⟨some 24, .binOp .geq 3 (.tmp 22) (.tmp 23) 3, 4, .tmp 20 true⟩,
 ⟨some 25, .pick (.tmp 20) (.tmp 24) (.const (.bool false)), 4, .always⟩] [1, 2, 3, 6, 7, 25])
 (.cond (.tmp 25)
 (.ops [⟨some 26, .fieldAddr 62 (.tmp 7) 1, 0, .always⟩,
 ⟨some 27, .load 3 (.tmp 26), 3, .always⟩,
 ⟨some 28, .move (.tmp 2), 3, .always⟩,
 ⟨some 29, .binOp .add 3 (.tmp 27) (.tmp 28) 3, 3, .always⟩,
 ⟨some 30, .fieldAddr 62 (.tmp 7) 1, 0, .always⟩,
 ⟨none, .store 3 (.tmp 30) (.tmp 29), 0, .always⟩] [1, 2, 3, 6, 7])
 (.skip)))
 (.seq (.seq (.ops [⟨some 31, .fieldAddr 62 (.tmp 3) 3, 0, .always⟩,
 ⟨some 32, .load 26 (.tmp 31), 26, .always⟩,
 ⟨some 33, .call { callee := .builtin .len, args := #[.tmp 32], argTypes := #[26] }, 3, .always⟩,
 ⟨some 34, .move (.const (.int .i64 0)), 3, .always⟩] [1, 2, 3, 6, 7, 32, 33, 34])
 (.block 0
 (.loop
 (.seq (.ops [⟨some 35, .binOp .lss 3 (.tmp 34) (.tmp 33) 3, 0, .always⟩] [1, 2, 3, 6, 7, 32, 33, 34, 35])
 (.seq (.cond (.tmp 35)
 (.skip)
 (.exit 0))
 (.seq (.block 1
 (.seq (.ops [⟨some 36, .indexAddr 26 (.tmp 32) (.tmp 34), 0, .always⟩,
 ⟨some 37, .load 62 (.tmp 36), 62, .always⟩,
 ⟨some 9, .alloc 62, 0, .always⟩,
 ⟨none, .store 62 (.tmp 9) (.tmp 37), 0, .always⟩] [1, 2, 3, 6, 7, 9, 32, 33, 34])
 (.draw [⟨some 38, .fieldAddr 62 (.tmp 7) 3, 0, .always⟩,
 ⟨some 39, .load 26 (.tmp 38), 26, .always⟩,
 ⟨some 40, .load 62 (.tmp 9), 62, .always⟩,
 ⟨some 41, .move (.tmp 1), 3, .always⟩,
 ⟨some 42, .load 62 (.tmp 3), 62, .always⟩,
 ⟨some 43, .call { callee := .value (.func 154), args := #[.tmp 42], argTypes := #[62] }, 3, .always⟩,
 ⟨some 44, .binOp .add 3 (.tmp 41) (.tmp 43) 3, 3, .always⟩,
 ⟨some 45, .move (.tmp 2), 3, .always⟩,
 ⟨some 46, .call { callee := .value (.func 133), args := #[.tmp 40, .tmp 44, .tmp 45], argTypes := #[62, 3, 3] }, 62, .always⟩,
 ⟨some 47, .buildSlice 26 1 #[(0, .tmp 46)], 26, .always⟩,
 ⟨some 48, .call { callee := .builtin .append, args := #[.tmp 39, .tmp 47], argTypes := #[26, 26] }, 26, .always⟩,
 ⟨some 49, .fieldAddr 62 (.tmp 7) 3, 0, .always⟩,
 ⟨none, .store 26 (.tmp 49) (.tmp 48), 0, .always⟩] [false, true, true, false, false, true, false, false, true, false, false, false, false] [1, 2, 3, 6, 7, 32, 33, 34])))
 (.ops [⟨some 50, .binOp .add 3 (.tmp 34) (.const (.int .i64 1)) 3, 3, .always⟩,
 ⟨some 34, .move (.tmp 50), 3, .always⟩] [1, 2, 3, 6, 7, 32, 33, 34])))))))
 (.seq (.ops [⟨some 51, .load 62 (.tmp 7), 62, .always⟩,
 ⟨none, .store 62 (.tmp 6) (.tmp 51), 0, .always⟩] [6])
 (.ret)))))
theorem w133 {args : List PV} {σ σ' : List Frm} {r : Ret} (hr : ∀ p, r = .val p → erV p = p) (h : wpP cfg s133 (QEndP cfg [.cell 6 62] σ' r) ⟨initEnv args, fun _ => [], σ, ⟨fun _ => false, 0⟩⟩) : CallsV cfg 133 args σ r σ' :=
 callsV_of_p follows cfgT a133 (fn := Tryd.f133) (c := Tryd.f133.body.getD .skip) (by kernel_rfl) (by kernel_rfl) (by kernel_rfl) (by kernel_rfl) (by kernel_rfl) (sc := s133) (by kernel_rfl) [.cell 6 62] (by kernel_rfl) hr h
def a134 : List Ann := [⟨[1], [], []⟩,
 ⟨[5], [], []⟩,
 ⟨[2], [], []⟩,
 ⟨[2], [], []⟩]
def s134 : SC := .seq (.ops [⟨some 1, .box 29 (.tmp 0), 0, .always⟩,
 ⟨some 2, .assign (.const (.int .i64 0)), 3, .always⟩] [1])
 (.seq (.seq (.ops [⟨some 3, .fieldAddr 29 (.tmp 1) 0, 0, .always⟩,
 ⟨some 4, .load 3 (.tmp 3), 3, .always⟩,
 ⟨some 5, .call { callee := .value (.func 161), args := #[.tmp 4], argTypes := #[3] }, 4, .always⟩] [5])
 (.cond (.tmp 5)
 (.seq (.ops [⟨some 2, .assign (.const (.int .i64 1)), 3, .always⟩] [2])
 (.ret))
 (.skip)))
 (.seq (.ops [⟨some 2, .assign (.const (.int .i64 0)), 3, .always⟩] [2])
 (.ret)))
theorem w134 {args : List PV} {σ σ' : List Frm} {r : Ret} (hr : ∀ p, r = .val p → erV p = p) (h : wpP cfg s134 (QEndP cfg [.tmp 2] σ' r) ⟨initEnv args, fun _ => [], σ, ⟨fun _ => false, 0⟩⟩) : CallsV cfg 134 args σ r σ' :=
 callsV_of_p follows cfgT a134 (fn := Tryd.f134) (c := Tryd.f134.body.getD .skip) (by kernel_rfl) (by kernel_rfl) (by kernel_rfl) (by kernel_rfl) (by kernel_rfl) (sc := s134) (by kernel_rfl) [.tmp 2] (by kernel_rfl) hr h
def a85 : List Ann := [⟨[1, 2, 3, 6], [], []⟩,
 ⟨[1, 2, 3, 6, 7], [], []⟩,
 ⟨[1, 2, 3, 6, 7, 18, 19, 20], [], []⟩,
 ⟨[1, 2, 3, 6, 7, 18, 19, 20, 21], [], []⟩,
 ⟨[1, 2, 3, 6, 7, 9, 18, 19, 20], [], []⟩,
 ⟨[1, 2, 3, 6, 7, 18, 19, 20], [0, 1, 0, 0, 0, 28, 60, 127, 255, 511], [false, true, false, false, false, true, false, false, false, false]⟩,
 ⟨[1, 2, 3, 6, 7, 18, 19, 20], [], []⟩,
 ⟨[1, 2, 3, 6, 7, 35, 36, 37], [], []⟩,
 ⟨[1, 2, 3, 6, 7, 35, 36, 37, 38], [], []⟩,
 ⟨[1, 2, 3, 6, 7, 11, 35, 36, 37], [], []⟩,
 ⟨[1, 2, 3, 6, 7, 35, 36, 37], [0, 1, 0, 0, 0, 16, 56, 0, 252, 508, 1023, 2047, 4095], [false, true, true, false, false, true, false, false, true, false, false, false, false]⟩,
 ⟨[1, 2, 3, 6, 7, 35, 36, 37], [], []⟩,
 ⟨[6], [], []⟩]
def s85 : SC := .seq (.ops [⟨some 3, .box 29 (.tmp 0), 0, .always⟩,
 ⟨some 6, .alloc 29, 0, .always⟩] [1, 2, 3, 6])
 (.seq (.ops [⟨some 12, .fieldAddr 29 (.tmp 3) 0, 0, .always⟩,
 ⟨some 13, .load 3 (.tmp 12), 3, .always⟩,
 ⟨some 14, .fieldAddr 29 (.tmp 3) 1, 0, .always⟩,
 ⟨some 15, .load 25 (.tmp 14), 25, .always⟩,
 ⟨some 16, .build 29 #[(0, .tmp 13), (1, .tmp 15)], 29, .always⟩,
 ⟨some 7, .alloc 29, 0, .always⟩,
 ⟨none, .store 29 (.tmp 7) (.tmp 16), 0, .always⟩] [1, 2, 3, 6, 7])
 (.seq (.seq (.ops [⟨some 17, .fieldAddr 29 (.tmp 3) 2, 0, .always⟩,
 ⟨some 18, .load 26 (.tmp 17), 26, .always⟩,
 ⟨some 19, .call { callee := .builtin .len, args := #[.tmp 18], argTypes := #[26] }, 3, .always⟩,
 ⟨some 20, .move (.const (.int .i64 0)), 3, .always⟩] [1, 2, 3, 6, 7, 18, 19, 20])
 (.block 0
 (.loop
 (.seq (.ops [⟨some 21, .binOp .lss 3 (.tmp 20) (.tmp 19) 3, 0, .always⟩] [1, 2, 3, 6, 7, 18, 19, 20, 21])
 (.seq (.cond (.tmp 21)
 (.skip)
 (.exit 0))
 (.seq (.block 1
 (.seq (.ops [⟨some 22, .indexAddr 26 (.tmp 18) (.tmp 20), 0, .always⟩,
 ⟨some 23, .load 62 (.tmp 22), 62, .always⟩,
 ⟨some 9, .alloc 62, 0, .always⟩,
 ⟨none, .store 62 (.tmp 9) (.tmp 23), 0, .always⟩] [1, 2, 3, 6, 7, 9, 18, 19, 20])
 (.draw [⟨some 24, .fieldAddr 29 (.tmp 7) 2, 0, .always⟩,
 ⟨some 25, .load 26 (.tmp 24), 26, .always⟩,
 ⟨some 26, .load 62 (.tmp 9), 62, .always⟩,
 ⟨some 27, .move (.tmp 1), 3, .always⟩,
 ⟨some 28, .move (.tmp 2), 3, .always⟩,
 ⟨some 29, .call { callee := .value (.func 133), args := #[.tmp 26, .tmp 27, .tmp 28], argTypes := #[62, 3, 3] }, 62, .always⟩,
 ⟨some 30, .buildSlice 26 1 #[(0, .tmp 29)], 26, .always⟩,
 ⟨some 31, .call { callee := .builtin .append, args := #[.tmp 25, .tmp 30], argTypes := #[26, 26] }, 26, .always⟩,
 ⟨some 32, .fieldAddr 29 (.tmp 7) 2, 0, .always⟩,
 ⟨none, .store 26 (.tmp 32) (.tmp 31), 0, .always⟩] [false, true, false, false, false, true, false, false, false, false] [1, 2, 3, 6, 7, 18, 19, 20])))
 (.ops [⟨some 33, .binOp .add 3 (.tmp 20) (.const (.int .i64 1)) 3, 3, .always⟩,
 ⟨some 20, .move (.tmp 33), 3, .always⟩] [1, 2, 3, 6, 7, 18, 19, 20])))))))
 (.seq (.seq (.ops [⟨some 34, .fieldAddr 29 (.tmp 3) 3, 0, .always⟩,
 ⟨some 35, .load 27 (.tmp 34), 27, .always⟩,
 ⟨some 36, .call { callee := .builtin .len, args := #[.tmp 35], argTypes := #[27] }, 3, .always⟩,
 ⟨some 37, .move (.const (.int .i64 0)), 3, .always⟩] [1, 2, 3, 6, 7, 35, 36, 37])
 (.block 2
 (.loop
 (.seq (.ops [⟨some 38, .binOp .lss 3 (.tmp 37) (.tmp 36) 3, 0, .always⟩] [1, 2, 3, 6, 7, 35, 36, 37, 38])
 (.seq (.cond (.tmp 38)
 (.skip)
 (.exit 2))
 (.seq (.block 3
 (.seq (.ops [⟨some 39, .indexAddr 27 (.tmp 35) (.tmp 37), 0, .always⟩,
 ⟨some 40, .load 29 (.tmp 39), 29, .always⟩,
 ⟨some 11, .alloc 29, 0, .always⟩,
 ⟨none, .store 29 (.tmp 11) (.tmp 40), 0, .always⟩] [1, 2, 3, 6, 7, 11, 35, 36, 37])
 (.draw [⟨some 41, .fieldAddr 29 (.tmp 7) 3, 0, .always⟩,
 ⟨some 42, .load 27 (.tmp 41), 27, .always⟩,
 ⟨some 43, .load 29 (.tmp 11), 29, .always⟩,
 ⟨some 44, .move (.tmp 1), 3, .always⟩,
 ⟨some 45, .load 29 (.tmp 3), 29, .always⟩,
 ⟨some 46, .call { callee := .value (.func 134), args := #[.tmp 45], argTypes := #[29] }, 3, .always⟩,
 ⟨some 47, .binOp .add 3 (.tmp 44) (.tmp 46) 3, 3, .always⟩,
 ⟨some 48, .move (.tmp 2), 3, .always⟩,
 ⟨some 49, .call { callee := .value (.func 85), args := #[.tmp 43, .tmp 47, .tmp 48], argTypes := #[29, 3, 3] }, 29, .always⟩,
 ⟨some 50, .buildSlice 27 1 #[(0, .tmp 49)], 27, .always⟩,
 ⟨some 51, .call { callee := .builtin .append, args := #[.tmp 42, .tmp 50], argTypes := #[27, 27] }, 27, .always⟩,
 ⟨some 52, .fieldAddr 29 (.tmp 7) 3, 0, .always⟩,
 ⟨none, .store 27 (.tmp 52) (.tmp 51), 0, .always⟩] [false, true, true, false, false, true, false, false, true, false, false, false, false] [1, 2, 3, 6, 7, 35, 36, 37])))
 (.ops [⟨some 53, .binOp .add 3 (.tmp 37) (.const (.int .i64 1)) 3, 3, .always⟩,
 ⟨some 37, .move (.tmp 53), 3, .always⟩] [1, 2, 3, 6, 7, 35, 36, 37])))))))
 (.seq (.ops [⟨some 54, .load 29 (.tmp 7), 29, .always⟩,
 ⟨none, .store 29 (.tmp 6) (.tmp 54), 0, .always⟩] [6])
 (.ret)))))
theorem w85 {args : List PV} {σ σ' : List Frm} {r : Ret} (hr : ∀ p, r = .val p → erV p = p) (h : wpP cfg s85 (QEndP cfg [.cell 6 29] σ' r) ⟨initEnv args, fun _ => [], σ, ⟨fun _ => false, 0⟩⟩) : CallsV cfg 85 args σ r σ' :=
 callsV_of_p follows cfgT a85 (fn := Tryd.f85) (c := Tryd.f85.body.getD .skip) (by kernel_rfl) (by kernel_rfl) (by kernel_rfl) (by kernel_rfl) (by kernel_rfl) (sc := s85) (by kernel_rfl) [.cell 6 29] (by kernel_rfl) hr h
def a35 : List Ann := [⟨[1, 2, 3, 6], [], []⟩,
 ⟨[1, 2, 3, 6, 8], [], []⟩,
 ⟨[1, 2, 3, 6, 8, 12], [], []⟩,
 ⟨[6, 7], [], []⟩,
 ⟨[1, 2, 3, 6, 33], [], []⟩,
 ⟨[6, 7], [], []⟩,
 ⟨[6, 7], [], []⟩]
def s35 : SC := .seq (.ops [⟨some 3, .box 29 (.tmp 0), 0, .always⟩,
 ⟨some 6, .alloc 29, 0, .always⟩,
 ⟨some 7, .assign (.const (.int .i64 0)), 43, .always⟩] [1, 2, 3, 6])
 (.seq (.seq (.ops [⟨some 9, .load 29 (.tmp 3), 29, .always⟩,
 ⟨some 10, .call { callee := .value (.func 77), args := #[.tmp 9], argTypes := #[29] }, 43, .always⟩,
 ⟨some 8, .assign (.tmp 10), 43, .always⟩] [1, 2, 3, 6, 8])
 (.seq (.ops [⟨some 11, .move (.tmp 8), 43, .always⟩,
 ⟨some 12, .binOp .neq 43 (.tmp 11) (.const (.int .i64 0)) 43, 4, .always⟩] [1, 2, 3, 6, 8, 12])
 (.cond (.tmp 12)
 (.seq (.ops [⟨some 13, .build 29 #[], 29, .always⟩,
 ⟨some 14, .move (.tmp 8), 43, .always⟩,
 ⟨none, .store 29 (.tmp 6) (.tmp 13), 0, .always⟩,
 ⟨some 7, .assign (.tmp 14), 43, .always⟩] [6, 7])
 (.ret))
 (.skip))))
 (.seq (.seq (.ops [⟨some 15, .move (.tmp 1), 3, .always⟩,
 ⟨some 16, .binOp .lss 3 (.tmp 15) (.const (.int .i64 0)) 3, 4, .always⟩,
 ⟨some 17, .move (.tmp 16), 4, .always⟩,
 ⟨some 18, .move (.tmp 1), 3, .tmp 17 false⟩,
 ⟨some 19, .binOp .gtr 3 (.tmp 18) (.const (.int .i64 4096)) 3, 4, .tmp 17 false⟩,
 ⟨some 20, .pick (.tmp 17) (.const (.bool true)) (.tmp 19), 4, .always⟩,
 ⟨some 21, .move (.tmp 20), 4, .always⟩,
 ⟨some 22, .move (.tmp 2), 3, .tmp 21 false⟩,
 ⟨some 23, .binOp .lss 3 (.tmp 22) (.const (.int .i64 0)) 3, 4, .tmp 21 false⟩,
 ⟨some 24, .pick (.tmp 21) (.const (.bool true)) (.tmp 23), 4, .always⟩,
 ⟨some 25, .move (.tmp 24), 4, .always⟩,
 ⟨some 26, .move (.tmp 2), 3, .tmp 25 false⟩,
 ⟨some 27, .binOp .gtr 3 (.tmp 26) (.const (.int .i64 4096)) 3, 4, .tmp 25 false⟩,
 ⟨some 28, .pick (.tmp 25) (.const (.bool true)) (.tmp 27), 4, .always⟩,
 ⟨some 29, .move (.tmp 28), 4, .always⟩,
 ⟨some 30, .load 29 (.tmp 3), 29, .tmp 29 false⟩,
 ⟨some 31, .call { callee := .value (.func 83), args := #[.tmp 30, .const (.int .i64 536870912)], argTypes := #[29, 3] }, 4, .tmp 29 false⟩,
 ⟨some 32, .unOp .not 4 (.tmp 31), 4, .tmp 29 false⟩,
 ⟨some 33, .pick (.tmp 29) (.const (.bool true)) (.tmp 32), 4, .always⟩] [1, 2, 3, 6, 33])
 (.cond (.tmp 33)
 (.seq (.ops [⟨some 34, .build 29 #[], 29, .always⟩,
 ⟨none, .store 29 (.tmp 6) (.tmp 34), 0, .always⟩,
 ⟨some 7, .assign (.const (.int .i64 1)), 43, .always⟩] [6, 7])
 (.ret))
 (.skip)))
 (.seq (.ops [⟨some 35, .load 29 (.tmp 3), 29, .always⟩,
 ⟨some 36, .move (.tmp 1), 3, .always⟩,
 ⟨some 37, .move (.tmp 2), 3, .always⟩,
 ⟨some 38, .call { callee := .value (.func 85), args := #[.tmp 35, .tmp 36, .tmp 37], argTypes := #[29, 3, 3] }, 29, .always⟩,
 ⟨some 39, .call { callee := .value (.func 84), args := #[.tmp 38], argTypes := #[29] }, 29, .always⟩,
 ⟨none, .store 29 (.tmp 6) (.tmp 39), 0, .always⟩,
 ⟨some 7, .assign (.const (.int .i64 0)), 43, .always⟩] [6, 7])
 (.ret))))
theorem w35 {args : List PV} {σ σ' : List Frm} {r : Ret} (hr : ∀ p, r = .val p → erV p = p) (h : wpP cfg s35 (QEndP cfg [.cell 6 29, .tmp 7] σ' r) ⟨initEnv args, fun _ => [], σ, ⟨fun _ => false, 0⟩⟩) : CallsV cfg 35 args σ r σ' :=
 callsV_of_p follows cfgT a35 (fn := Tryd.f35) (c := Tryd.f35.body.getD .skip) (by kernel_rfl) (by kernel_rfl) (by kernel_rfl) (by kernel_rfl) (by kernel_rfl) (sc := s35) (by kernel_rfl) [.cell 6 29, .tmp 7] (by kernel_rfl) hr h
def a86 : List Ann := [⟨[1], [], []⟩,
 ⟨[1, 5], [], []⟩,
 ⟨[2], [], []⟩,
 ⟨[8], [], []⟩,
 ⟨[2], [], []⟩,
 ⟨[2], [], []⟩]
def s86 : SC := .seq (.ops [⟨some 1, .box 62 (.tmp 0), 0, .always⟩,
 ⟨some 2, .assign (.const (.int .i64 0)), 43, .always⟩] [1])
 (.seq (.seq (.ops [⟨some 3, .load 62 (.tmp 1), 62, .always⟩,
 ⟨some 4, .call { callee := .value (.func 135), args := #[.tmp 3], argTypes := #[62] }, 4, .always⟩,
 ⟨some 5, .unOp .not 4 (.tmp 4), 4, .always⟩] [1, 5])
 (.cond (.tmp 5)
 (.seq (.ops [⟨some 2, .assign (.const (.int .i64 2)), 43, .always⟩] [2])
 (.ret))
 (.skip)))
 (.seq (.seq (.ops [⟨some 6, .load 62 (.tmp 1), 62, .always⟩,
 ⟨some 7, .call { callee := .value (.func 90), args := #[.tmp 6], argTypes := #[62] }, 3, .always⟩,
 ⟨some 8, .binOp .gtr 3 (.tmp 7) (.const (.int .i64 4096)) 3, 4, .always⟩] [8])
 (.cond (.tmp 8)
 (.seq (.ops [⟨some 2, .assign (.const (.int .i64 4)), 43, .always⟩] [2])
 (.ret))
 (.skip)))
 (.seq (.ops [⟨some 2, .assign (.const (.int .i64 0)), 43, .always⟩] [2])
 (.ret))))
theorem w86 {args : List PV} {σ σ' : List Frm} {r : Ret} (hr : ∀ p, r = .val p → erV p = p) (h : wpP cfg s86 (QEndP cfg [.tmp 2] σ' r) ⟨initEnv args, fun _ => [], σ, ⟨fun _ => false, 0⟩⟩) : CallsV cfg 86 args σ r σ' :=
 callsV_of_p follows cfgT a86 (fn := Tryd.f86) (c := Tryd.f86.body.getD .skip) (by kernel_rfl) (by kernel_rfl) (by kernel_rfl) (by kernel_rfl) (by kernel_rfl) (sc := s86) (by kernel_rfl) [.tmp 2] (by kernel_rfl) hr h
def a136 : List Ann := [⟨[1, 2], [], []⟩,
 ⟨[1, 2, 5], [], []⟩,
 ⟨[1, 2, 5, 16], [], []⟩,
 ⟨[1, 2, 5], [], []⟩,
 ⟨[1, 2, 5, 20, 21, 22], [], []⟩,
 ⟨[1, 2, 5, 20, 21, 22, 23], [], []⟩,
 ⟨[1, 2, 5, 7, 20, 21, 22], [], []⟩,
 ⟨[1, 2, 5, 20, 21, 22], [0, 0, 0, 0, 8, 28, 62, 127, 255], [false, true, false, false, true, false, false, false, false]⟩,
 ⟨[1, 2, 5, 20, 21, 22], [], []⟩,
 ⟨[4], [], []⟩]
def s136 : SC := .seq (.ops [⟨some 2, .box 62 (.tmp 0), 0, .always⟩,
 ⟨some 4, .assign (.const (.int .i64 0)), 3, .always⟩] [1, 2])
 (.seq (.ops [⟨some 5, .assign (.const (.int .i64 0)), 3, .always⟩] [1, 2, 5])
 (.seq (.seq (.ops [⟨some 8, .fieldAddr 62 (.tmp 2) 0, 0, .always⟩,
 ⟨some 9, .load 3 (.tmp 8), 3, .always⟩,
 ⟨some 10, .binOp .eql 3 (.tmp 9) (.const (.int .i64 1)) 3, 4, .always⟩,
 ⟨some 11, .move (.tmp 10), 4, .always⟩,
 ⟨some 12, .fieldAddr 62 (.tmp 2) 1, 0, .tmp 11 true⟩,
 ⟨some 13, .load 3 (.tmp 12), 3, .tmp 11 true⟩,
 ⟨some 14, .move (.tmp 1), 3, .tmp 11 true⟩,
 ⟨some 15, .binOp .eql 3 (.tmp 13) (.tmp 14) 3, 4, .tmp 11 true⟩,
 ⟨some 16, .pick (.tmp 11) (.tmp 15) (.const (.bool false)), 4, .always⟩] [1, 2, 5, 16])
 (.cond (.tmp 16)
 (.ops [⟨some 17, .move (.tmp 5), 3, .always⟩,
 ⟨some 18, .binOp .add 3 (.tmp 17) (.const (.int .i64 1)) 3, 3, .always⟩,
 ⟨some 5, .assign (.tmp 18), 3, .always⟩] [1, 2, 5])
 (.skip)))
 (.seq (.seq (.ops [⟨some 19, .fieldAddr 62 (.tmp 2) 3, 0, .always⟩,
 ⟨some 20, .load 26 (.tmp 19), 26, .always⟩,
 ⟨some 21, .call { callee := .builtin .len, args := #[.tmp 20], argTypes := #[26] }, 3, .always⟩,
 ⟨some 22, .move (.const (.int .i64 0)), 3, .always⟩] [1, 2, 5, 20, 21, 22])
 (.block 0
 (.loop
 (.seq (.ops [⟨some 23, .binOp .lss 3 (.tmp 22) (.tmp 21) 3, 0, .always⟩] [1, 2, 5, 20, 21, 22, 23])
 (.seq (.cond (.tmp 23)
 (.skip)
 (.exit 0))
 (.seq (.block 1
 (.seq (.ops [⟨some 24, .indexAddr 26 (.tmp 20) (.tmp 22), 0, .always⟩,
 ⟨some 25, .load 62 (.tmp 24), 62, .always⟩,
 ⟨some 7, .alloc 62, 0, .always⟩,
 ⟨none, .store 62 (.tmp 7) (.tmp 25), 0, .always⟩] [1, 2, 5, 7, 20, 21, 22])
 (.draw [⟨some 26, .move (.tmp 5), 3, .always⟩,
 ⟨some 27, .load 62 (.tmp 7), 62, .always⟩,
 ⟨some 28, .move (.tmp 1), 3, .always⟩,
 ⟨some 29, .load 62 (.tmp 2), 62, .always⟩,
 ⟨some 30, .call { callee := .value (.func 154), args := #[.tmp 29], argTypes := #[62] }, 3, .always⟩,
 ⟨some 31, .binOp .add 3 (.tmp 28) (.tmp 30) 3, 3, .always⟩,
 ⟨some 32, .call { callee := .value (.func 136), args := #[.tmp 27, .tmp 31], argTypes := #[62, 3] }, 3, .always⟩,
 ⟨some 33, .binOp .add 3 (.tmp 26) (.tmp 32) 3, 3, .always⟩,
 ⟨some 5, .assign (.tmp 33), 3, .always⟩] [false, true, false, false, true, false, false, false, false] [1, 2, 5, 20, 21, 22])))
 (.ops [⟨some 34, .binOp .add 3 (.tmp 22) (.const (.int .i64 1)) 3, 3, .always⟩,
 ⟨some 22, .move (.tmp 34), 3, .always⟩] [1, 2, 5, 20, 21, 22])))))))
 (.seq (.ops [⟨some 35, .move (.tmp 5), 3, .always⟩,
 ⟨some 4, .assign (.tmp 35), 3, .always⟩] [4])
 (.ret)))))
theorem w136 {args : List PV} {σ σ' : List Frm} {r : Ret} (hr : ∀ p, r = .val p → erV p = p) (h : wpP cfg s136 (QEndP cfg [.tmp 4] σ' r) ⟨initEnv args, fun _ => [], σ, ⟨fun _ => false, 0⟩⟩) : CallsV cfg 136 args σ r σ' :=
 callsV_of_p follows cfgT a136 (fn := Tryd.f136) (c := Tryd.f136.body.getD .skip) (by kernel_rfl) (by kernel_rfl) (by kernel_rfl) (by kernel_rfl) (by kernel_rfl) (sc := s136) (by kernel_rfl) [.tmp 4] (by kernel_rfl) hr h
def a89 : List Ann := [⟨[1, 2], [], []⟩,
 ⟨[1, 2, 5], [], []⟩,
 ⟨[1, 2, 5, 11, 12, 13], [], []⟩,
 ⟨[1, 2, 5, 11, 12, 13, 14], [], []⟩,
 ⟨[1, 2, 5, 7, 11, 12, 13], [], []⟩,
 ⟨[1, 2, 5, 11, 12, 13], [], []⟩,
 ⟨[1, 2, 5, 11, 12, 13], [], []⟩,
 ⟨[1, 2, 5, 24, 25, 26], [], []⟩,
 ⟨[1, 2, 5, 24, 25, 26, 27], [], []⟩,
 ⟨[1, 2, 5, 9, 24, 25, 26], [], []⟩,
 ⟨[1, 2, 5, 24, 25, 26], [0, 0, 0, 0, 8, 28, 62, 127, 255], [false, true, false, false, true, false, false, false, false]⟩,
 ⟨[1, 2, 5, 24, 25, 26], [], []⟩,
 ⟨[4], [], []⟩]
def s89 : SC := .seq (.ops [⟨some 2, .box 29 (.tmp 0), 0, .always⟩,
 ⟨some 4, .assign (.const (.int .i64 0)), 3, .always⟩] [1, 2])
 (.seq (.ops [⟨some 5, .assign (.const (.int .i64 0)), 3, .always⟩] [1, 2, 5])
 (.seq (.seq (.ops [⟨some 10, .fieldAddr 29 (.tmp 2) 2, 0, .always⟩,
 ⟨some 11, .load 26 (.tmp 10), 26, .always⟩,
 ⟨some 12, .call { callee := .builtin .len, args := #[.tmp 11], argTypes := #[26] }, 3, .always⟩,
 ⟨some 13, .move (.const (.int .i64 0)), 3, .always⟩] [1, 2, 5, 11, 12, 13])
 (.block 0
 (.loop
 (.seq (.ops [⟨some 14, .binOp .lss 3 (.tmp 13) (.tmp 12) 3, 0, .always⟩] [1, 2, 5, 11, 12, 13, 14])
 (.seq (.cond (.tmp 14)
 (.skip)
 (.exit 0))
 (.seq (.block 1
 (.seq (.ops [⟨some 15, .indexAddr 26 (.tmp 11) (.tmp 13), 0, .always⟩,
 ⟨some 16, .load 62 (.tmp 15), 62, .always⟩,
 ⟨some 7, .alloc 62, 0, .always⟩,
 ⟨none, .store 62 (.tmp 7) (.tmp 16), 0, .always⟩] [1, 2, 5, 7, 11, 12, 13])
 (.ops [⟨some 17, .move (.tmp 5), 3, .always⟩,
 ⟨some 18, .load 62 (.tmp 7), 62, .always⟩,
 ⟨some 19, .move (.tmp 1), 3, .always⟩,
 ⟨some 20, .call { callee := .value (.func 136), args := #[.tmp 18, .tmp 19], argTypes := #[62, 3] }, 3, .always⟩,
 ⟨some 21, .binOp .add 3 (.tmp 17) (.tmp 20) 3, 3, .always⟩,
 ⟨some 5, .assign (.tmp 21), 3, .always⟩] [1, 2, 5, 11, 12, 13])))
 (.ops [⟨some 22, .binOp .add 3 (.tmp 13) (.const (.int .i64 1)) 3, 3, .always⟩,
 ⟨some 13, .move (.tmp 22), 3, .always⟩] [1, 2, 5, 11, 12, 13])))))))
 (.seq (.seq (.ops [⟨some 23, .fieldAddr 29 (.tmp 2) 3, 0, .always⟩,
 ⟨some 24, .load 27 (.tmp 23), 27, .always⟩,
 ⟨some 25, .call { callee := .builtin .len, args := #[.tmp 24], argTypes := #[27] }, 3, .always⟩,
 ⟨some 26, .move (.const (.int .i64 0)), 3, .always⟩] [1, 2, 5, 24, 25, 26])
 (.block 2
 (.loop
 (.seq (.ops [⟨some 27, .binOp .lss 3 (.tmp 26) (.tmp 25) 3, 0, .always⟩] [1, 2, 5, 24, 25, 26, 27])
 (.seq (.cond (.tmp 27)
 (.skip)
 (.exit 2))
 (.seq (.block 3
 (.seq (.ops [⟨some 28, .indexAddr 27 (.tmp 24) (.tmp 26), 0, .always⟩,
 ⟨some 29, .load 29 (.tmp 28), 29, .always⟩,
 ⟨some 9, .alloc 29, 0, .always⟩,
 ⟨none, .store 29 (.tmp 9) (.tmp 29), 0, .always⟩] [1, 2, 5, 9, 24, 25, 26])
 (.draw [⟨some 30, .move (.tmp 5), 3, .always⟩,
 ⟨some 31, .load 29 (.tmp 9), 29, .always⟩,
 ⟨some 32, .move (.tmp 1), 3, .always⟩,
 ⟨some 33, .load 29 (.tmp 2), 29, .always⟩,
 ⟨some 34, .call { callee := .value (.func 134), args := #[.tmp 33], argTypes := #[29] }, 3, .always⟩,
 ⟨some 35, .binOp .add 3 (.tmp 32) (.tmp 34) 3, 3, .always⟩,
 ⟨some 36, .call { callee := .value (.func 89), args := #[.tmp 31, .tmp 35], argTypes := #[29, 3] }, 3, .always⟩,
 ⟨some 37, .binOp .add 3 (.tmp 30) (.tmp 36) 3, 3, .always⟩,
 ⟨some 5, .assign (.tmp 37), 3, .always⟩] [false, true, false, false, true, false, false, false, false] [1, 2, 5, 24, 25, 26])))
 (.ops [⟨some 38, .binOp .add 3 (.tmp 26) (.const (.int .i64 1)) 3, 3, .always⟩,
 ⟨some 26, .move (.tmp 38), 3, .always⟩] [1, 2, 5, 24, 25, 26])))))))
 (.seq (.ops [⟨some 39, .move (.tmp 5), 3, .always⟩,
 ⟨some 4, .assign (.tmp 39), 3, .always⟩] [4])
 (.ret)))))
theorem w89 {args : List PV} {σ σ' : List Frm} {r : Ret} (hr : ∀ p, r = .val p → erV p = p) (h : wpP cfg s89 (QEndP cfg [.tmp 4] σ' r) ⟨initEnv args, fun _ => [], σ, ⟨fun _ => false, 0⟩⟩) : CallsV cfg 89 args σ r σ' :=
 callsV_of_p follows cfgT a89 (fn := Tryd.f89) (c := Tryd.f89.body.getD .skip) (by kernel_rfl) (by kernel_rfl) (by kernel_rfl) (by kernel_rfl) (by kernel_rfl) (sc := s89) (by kernel_rfl) [.tmp 4] (by kernel_rfl) hr h
def a137 : List Ann := [⟨[1, 2, 4, 7, 8], [], []⟩,
 ⟨[1, 2, 4, 7, 8, 14], [], []⟩,
 ⟨[1, 2, 4, 7, 8, 20], [], []⟩,
 ⟨[8], [], []⟩,
 ⟨[4, 8, 31], [], []⟩,
 ⟨[8], [], []⟩,
 ⟨[8], [], []⟩,
 ⟨[1, 2, 4, 7, 8, 9], [], []⟩,
 ⟨[1, 2, 4, 7, 8, 9, 45, 46, 47], [], []⟩,
 ⟨[1, 2, 4, 7, 8, 9, 45, 46, 47, 48], [], []⟩,
 ⟨[1, 2, 4, 7, 8, 9, 11, 45, 46, 47], [], []⟩,
 ⟨[1, 2, 4, 7, 8, 9, 45, 46, 47], [0, 1, 0, 0, 0, 0, 32, 112, 0, 508, 1020, 2047, 4095, 8191], [false, true, true, false, false, false, true, false, true, true, false, false, false, false]⟩,
 ⟨[1, 2, 4, 7, 8, 9, 45, 46, 47], [], []⟩,
 ⟨[8], [], []⟩]
def s137 : SC := .seq (.ops [⟨some 4, .box 62 (.tmp 0), 0, .always⟩,
 ⟨some 7, .box 62 (.tmp 3), 0, .always⟩,
 ⟨some 8, .alloc 62, 0, .always⟩] [1, 2, 4, 7, 8])
 (.seq (.seq (.ops [⟨some 12, .fieldAddr 62 (.tmp 4) 0, 0, .always⟩,
 ⟨some 13, .load 3 (.tmp 12), 3, .always⟩,
 ⟨some 14, .binOp .eql 3 (.tmp 13) (.const (.int .i64 1)) 3, 4, .always⟩] [1, 2, 4, 7, 8, 14])
 (.cond (.tmp 14)
 (.seq (.seq (.ops [⟨some 15, .fieldAddr 62 (.tmp 4) 1, 0, .always⟩,
 ⟨some 16, .load 3 (.tmp 15), 3, .always⟩,
 ⟨some 17, .move (.tmp 1), 3, .always⟩,
 ⟨some 18, .move (.tmp 2), 3, .always⟩,
 ⟨some 19, .binOp .add 3 (.tmp 17) (.tmp 18) 3, 3, .always⟩,
 ⟨some 20, .binOp .eql 3 (.tmp 16) (.tmp 19) 3, 4, .always⟩] [1, 2, 4, 7, 8, 20])
 (.cond (.tmp 20)
 (.seq (.ops [⟨some 21, .load 62 (.tmp 7), 62, .always⟩,
 ⟨some 22, .move (.tmp 1), 3, .always⟩,
 ⟨some 23, .move (.tmp 2), 3, .always⟩,
 ⟨some 24, .binOp .add 3 (.tmp 22) (.tmp 23) 3, 3, .always⟩,
 ⟨some 25, .call { callee := .value (.func 133), args := #[.tmp 21, .const (.int .i64 0), .tmp 24], argTypes := #[62, 3, 3] }, 62, .always⟩,
 ⟨none, .store 62 (.tmp 8) (.tmp 25), 0, .always⟩] [8])
 (.ret))
 (.skip)))
 (.seq (.seq (.ops [⟨some 26, .fieldAddr 62 (.tmp 4) 1, 0, .always⟩,
 ⟨some 27, .load 3 (.tmp 26), 3, .always⟩,
 ⟨some 28, .move (.tmp 1), 3, .always⟩,
 ⟨some 29, .move (.tmp 2), 3, .always⟩,
 ⟨some 30, .binOp .add 3 (.tmp 28) (.tmp 29) 3, 3, .always⟩,
 ⟨some 31, .binOp .gtr 3 (.tmp 27) (.tmp 30) 3, 4, .always⟩] [4, 8, 31])
 (.cond (.tmp 31)
 (.seq (.ops [⟨some 32, .fieldAddr 62 (.tmp 4) 1, 0, .always⟩,
 ⟨some 33, .load 3 (.tmp 32), 3, .always⟩,
 ⟨some 34, .binOp .sub 3 (.tmp 33) (.const (.int .i64 1)) 3, 3, .always⟩,
 ⟨some 35, .call { callee := .value (.func 93), args := #[.tmp 34], argTypes := #[3] }, 62, .always⟩,
 ⟨none, .store 62 (.tmp 8) (.tmp 35), 0, .always⟩] [8])
 (.ret))
 (.skip)))
 (.seq (.ops [⟨some 36, .load 62 (.tmp 4), 62, .always⟩,
 ⟨none, .store 62 (.tmp 8) (.tmp 36), 0, .always⟩] [8])
 (.ret))))
 (.skip)))
 (.seq (.ops [⟨some 37, .fieldAddr 62 (.tmp 4) 0, 0, .always⟩,
 ⟨some 38, .load 3 (.tmp 37), 3, .always⟩,
 ⟨some 39, .fieldAddr 62 (.tmp 4) 1, 0, .always⟩,
 ⟨some 40, .load 3 (.tmp 39), 3, .always⟩,
 ⟨some 41, .fieldAddr 62 (.tmp 4) 2, 0, .always⟩,
 ⟨some 42, .load 25 (.tmp 41), 25, .always⟩,
 ⟨some 43, .build 62 #[(0, .tmp 38), (1, .tmp 40), (2, .tmp 42)], 62, .always⟩,
 ⟨some 9, .alloc 62, 0, .always⟩,
 ⟨none, .store 62 (.tmp 9) (.tmp 43), 0, .always⟩] [1, 2, 4, 7, 8, 9])
 (.seq (.seq (.ops [⟨some 44, .fieldAddr 62 (.tmp 4) 3, 0, .always⟩,
 ⟨some 45, .load 26 (.tmp 44), 26, .always⟩,
 ⟨some 46, .call { callee := .builtin .len, args := #[.tmp 45], argTypes := #[26] }, 3, .always⟩,
 ⟨some 47, .move (.const (.int .i64 0)), 3, .always⟩] [1, 2, 4, 7, 8, 9, 45, 46, 47])
 (.block 0
 (.loop
 (.seq (.ops [⟨some 48, .binOp .lss 3 (.tmp 47) (.tmp 46) 3, 0, .always⟩] [1, 2, 4, 7, 8, 9, 45, 46, 47, 48])
 (.seq (.cond (.tmp 48)
 (.skip)
 (.exit 0))
 (.seq (.block 1
 (.seq (.ops [⟨some 49, .indexAddr 26 (.tmp 45) (.tmp 47), 0, .always⟩,
 ⟨some 50, .load 62 (.tmp 49), 62, .always⟩,
 ⟨some 11, .alloc 62, 0, .always⟩,
 ⟨none, .store 62 (.tmp 11) (.tmp 50), 0, .always⟩] [1, 2, 4, 7, 8, 9, 11, 45, 46, 47])
 (.draw [⟨some 51, .fieldAddr 62 (.tmp 9) 3, 0, .always⟩,
 ⟨some 52, .load 26 (.tmp 51), 26, .always⟩,
 ⟨some 53, .load 62 (.tmp 11), 62, .always⟩,
 ⟨some 54, .move (.tmp 1), 3, .always⟩,
 ⟨some 55, .move (.tmp 2), 3, .always⟩,
 ⟨some 56, .load 62 (.tmp 4), 62, .always⟩,
 ⟨some 57, .call { callee := .value (.func 154), args := #[.tmp 56], argTypes := #[62] }, 3, .always⟩,
 ⟨some 58, .binOp .add 3 (.tmp 55) (.tmp 57) 3, 3, .always⟩,
 ⟨some 59, .load 62 (.tmp 7), 62, .always⟩,
 ⟨some 60, .call { callee := .value (.func 137), args := #[.tmp 53, .tmp 54, .tmp 58, .tmp 59], argTypes := #[62, 3, 3, 62] }, 62, .always⟩,
 ⟨some 61, .buildSlice 26 1 #[(0, .tmp 60)], 26, .always⟩,
 ⟨some 62, .call { callee := .builtin .append, args := #[.tmp 52, .tmp 61], argTypes := #[26, 26] }, 26, .always⟩,
 ⟨some 63, .fieldAddr 62 (.tmp 9) 3, 0, .always⟩,
 ⟨none, .store 26 (.tmp 63) (.tmp 62), 0, .always⟩] [false, true, true, false, false, false, true, false, true, true, false, false, false, false] [1, 2, 4, 7, 8, 9, 45, 46, 47])))
 (.ops [⟨some 64, .binOp .add 3 (.tmp 47) (.const (.int .i64 1)) 3, 3, .always⟩,
 ⟨some 47, .move (.tmp 64), 3, .always⟩] [1, 2, 4, 7, 8, 9, 45, 46, 47])))))))
 (.seq (.ops [⟨some 65, .load 62 (.tmp 9), 62, .always⟩,
 ⟨none, .store 62 (.tmp 8) (.tmp 65), 0, .always⟩] [8])
 (.ret)))))
theorem w137 {args : List PV} {σ σ' : List Frm} {r : Ret} (hr : ∀ p, r = .val p → erV p = p) (h : wpP cfg s137 (QEndP cfg [.cell 8 62] σ' r) ⟨initEnv args, fun _ => [], σ, ⟨fun _ => false, 0⟩⟩) : CallsV cfg 137 args σ r σ' :=
 callsV_of_p follows cfgT a137 (fn := Tryd.f137) (c := Tryd.f137.body.getD .skip) (by kernel_rfl) (by kernel_rfl) (by kernel_rfl) (by kernel_rfl) (by kernel_rfl) (sc := s137) (by kernel_rfl) [.cell 8 62] (by kernel_rfl) hr h
def a91 : List Ann := [⟨[1, 2, 4, 7, 8], [], []⟩,
 ⟨[1, 2, 4, 7, 8, 9], [], []⟩,
 ⟨[1, 2, 4, 7, 8, 9, 20, 21, 22], [], []⟩,
 ⟨[1, 2, 4, 7, 8, 9, 20, 21, 22, 23], [], []⟩,
 ⟨[1, 2, 4, 7, 8, 9, 11, 20, 21, 22], [], []⟩,
 ⟨[1, 2, 4, 7, 8, 9, 20, 21, 22], [0, 1, 0, 0, 0, 0, 60, 124, 255, 511, 1023], [false, true, false, false, false, false, true, false, false, false, false]⟩,
 ⟨[1, 2, 4, 7, 8, 9, 20, 21, 22], [], []⟩,
 ⟨[1, 2, 4, 7, 8, 9, 38, 39, 40], [], []⟩,
 ⟨[1, 2, 4, 7, 8, 9, 38, 39, 40, 41], [], []⟩,
 ⟨[1, 2, 4, 7, 8, 9, 13, 38, 39, 40], [], []⟩,
 ⟨[1, 2, 4, 7, 8, 9, 38, 39, 40], [0, 1, 0, 0, 0, 0, 32, 112, 0, 508, 1020, 2047, 4095, 8191], [false, true, true, false, false, false, true, false, true, true, false, false, false, false]⟩,
 ⟨[1, 2, 4, 7, 8, 9, 38, 39, 40], [], []⟩,
 ⟨[8], [], []⟩]
def s91 : SC := .seq (.ops [⟨some 4, .box 29 (.tmp 0), 0, .always⟩,
 ⟨some 7, .box 62 (.tmp 3), 0, .always⟩,
 ⟨some 8, .alloc 29, 0, .always⟩] [1, 2, 4, 7, 8])
 (.seq (.ops [⟨some 14, .fieldAddr 29 (.tmp 4) 0, 0, .always⟩,
 ⟨some 15, .load 3 (.tmp 14), 3, .always⟩,
 ⟨some 16, .fieldAddr 29 (.tmp 4) 1, 0, .always⟩,
 ⟨some 17, .load 25 (.tmp 16), 25, .always⟩,
 ⟨some 18, .build 29 #[(0, .tmp 15), (1, .tmp 17)], 29, .always⟩,
 ⟨some 9, .alloc 29, 0, .always⟩,
 ⟨none, .store 29 (.tmp 9) (.tmp 18), 0, .always⟩] [1, 2, 4, 7, 8, 9])
 (.seq (.seq (.ops [⟨some 19, .fieldAddr 29 (.tmp 4) 2, 0, .always⟩,
 ⟨some 20, .load 26 (.tmp 19), 26, .always⟩,
 ⟨some 21, .call { callee := .builtin .len, args := #[.tmp 20], argTypes := #[26] }, 3, .always⟩,
 ⟨some 22, .move (.const (.int .i64 0)), 3, .always⟩] [1, 2, 4, 7, 8, 9, 20, 21, 22])
 (.block 0
 (.loop
 (.seq (.ops [⟨some 23, .binOp .lss 3 (.tmp 22) (.tmp 21) 3, 0, .always⟩] [1, 2, 4, 7, 8, 9, 20, 21, 22, 23])
 (.seq (.cond (.tmp 23)
 (.skip)
 (.exit 0))
 (.seq (.block 1
 (.seq (.ops [⟨some 24, .indexAddr 26 (.tmp 20) (.tmp 22), 0, .always⟩,
 ⟨some 25, .load 62 (.tmp 24), 62, .always⟩,
 ⟨some 11, .alloc 62, 0, .always⟩,
 ⟨none, .store 62 (.tmp 11) (.tmp 25), 0, .always⟩] [1, 2, 4, 7, 8, 9, 11, 20, 21, 22])
 (.draw [⟨some 26, .fieldAddr 29 (.tmp 9) 2, 0, .always⟩,
 ⟨some 27, .load 26 (.tmp 26), 26, .always⟩,
 ⟨some 28, .load 62 (.tmp 11), 62, .always⟩,
 ⟨some 29, .move (.tmp 1), 3, .always⟩,
 ⟨some 30, .move (.tmp 2), 3, .always⟩,
 ⟨some 31, .load 62 (.tmp 7), 62, .always⟩,
 ⟨some 32, .call { callee := .value (.func 137), args := #[.tmp 28, .tmp 29, .tmp 30, .tmp 31], argTypes := #[62, 3, 3, 62] }, 62, .always⟩,
 ⟨some 33, .buildSlice 26 1 #[(0, .tmp 32)], 26, .always⟩,
 ⟨some 34, .call { callee := .builtin .append, args := #[.tmp 27, .tmp 33], argTypes := #[26, 26] }, 26, .always⟩,
 ⟨some 35, .fieldAddr 29 (.tmp 9) 2, 0, .always⟩,
 ⟨none, .store 26 (.tmp 35) (.tmp 34), 0, .always⟩] [false, true, false, false, false, false, true, false, false, false, false] [1, 2, 4, 7, 8, 9, 20, 21, 22])))
 (.ops [⟨some 36, .binOp .add 3 (.tmp 22) (.const (.int .i64 1)) 3, 3, .always⟩,
 ⟨some 22, .move (.tmp 36), 3, .always⟩] [1, 2, 4, 7, 8, 9, 20, 21, 22])))))))
 (.seq (.seq (.ops [⟨some 37, .fieldAddr 29 (.tmp 4) 3, 0, .always⟩,
 ⟨some 38, .load 27 (.tmp 37), 27, .always⟩,
 ⟨some 39, .call { callee := .builtin .len, args := #[.tmp 38], argTypes := #[27] }, 3, .always⟩,
 ⟨some 40, .move (.const (.int .i64 0)), 3, .always⟩] [1, 2, 4, 7, 8, 9, 38, 39, 40])
 (.block 2
 (.loop
 (.seq (.ops [⟨some 41, .binOp .lss 3 (.tmp 40) (.tmp 39) 3, 0, .always⟩] [1, 2, 4, 7, 8, 9, 38, 39, 40, 41])
 (.seq (.cond (.tmp 41)
 (.skip)
 (.exit 2))
 (.seq (.block 3
 (.seq (.ops [⟨some 42, .indexAddr 27 (.tmp 38) (.tmp 40), 0, .always⟩,
 ⟨some 43, .load 29 (.tmp 42), 29, .always⟩,
 ⟨some 13, .alloc 29, 0, .always⟩,
 ⟨none, .store 29 (.tmp 13) (.tmp 43), 0, .always⟩] [1, 2, 4, 7, 8, 9, 13, 38, 39, 40])
 (.draw [⟨some 44, .fieldAddr 29 (.tmp 9) 3, 0, .always⟩,
 ⟨some 45, .load 27 (.tmp 44), 27, .always⟩,
 ⟨some 46, .load 29 (.tmp 13), 29, .always⟩,
 ⟨some 47, .move (.tmp 1), 3, .always⟩,
 ⟨some 48, .move (.tmp 2), 3, .always⟩,
 ⟨some 49, .load 29 (.tmp 4), 29, .always⟩,
 ⟨some 50, .call { callee := .value (.func 134), args := #[.tmp 49], argTypes := #[29] }, 3, .always⟩,
 ⟨some 51, .binOp .add 3 (.tmp 48) (.tmp 50) 3, 3, .always⟩,
 ⟨some 52, .load 62 (.tmp 7), 62, .always⟩,
 ⟨some 53, .call { callee := .value (.func 91), args := #[.tmp 46, .tmp 47, .tmp 51, .tmp 52], argTypes := #[29, 3, 3, 62] }, 29, .always⟩,
 ⟨some 54, .buildSlice 27 1 #[(0, .tmp 53)], 27, .always⟩,
 ⟨some 55, .call { callee := .builtin .append, args := #[.tmp 45, .tmp 54], argTypes := #[27, 27] }, 27, .always⟩,
 ⟨some 56, .fieldAddr 29 (.tmp 9) 3, 0, .always⟩,
 ⟨none, .store 27 (.tmp 56) (.tmp 55), 0, .always⟩] [false, true, true, false, false, false, true, false, true, true, false, false, false, false] [1, 2, 4, 7, 8, 9, 38, 39, 40])))
 (.ops [⟨some 57, .binOp .add 3 (.tmp 40) (.const (.int .i64 1)) 3, 3, .always⟩,
 ⟨some 40, .move (.tmp 57), 3, .always⟩] [1, 2, 4, 7, 8, 9, 38, 39, 40])))))))
 (.seq (.ops [⟨some 58, .load 29 (.tmp 9), 29, .always⟩,
 ⟨none, .store 29 (.tmp 8) (.tmp 58), 0, .always⟩] [8])
 (.ret)))))
theorem w91 {args : List PV} {σ σ' : List Frm} {r : Ret} (hr : ∀ p, r = .val p → erV p = p) (h : wpP cfg s91 (QEndP cfg [.cell 8 29] σ' r) ⟨initEnv args, fun _ => [], σ, ⟨fun _ => false, 0⟩⟩) : CallsV cfg 91 args σ r σ' :=
 callsV_of_p follows cfgT a91 (fn := Tryd.f91) (c := Tryd.f91.body.getD .skip) (by kernel_rfl) (by kernel_rfl) (by kernel_rfl) (by kernel_rfl) (by kernel_rfl) (sc := s91) (by kernel_rfl) [.cell 8 29] (by kernel_rfl) hr h
def a37 : List Ann := [⟨[1, 3, 5, 6], [], []⟩,
 ⟨[1, 3, 5, 6, 8], [], []⟩,
 ⟨[1, 3, 5, 6, 8, 13], [], []⟩,
 ⟨[6, 7], [], []⟩,
 ⟨[1, 3, 5, 6, 21], [], []⟩,
 ⟨[6, 7], [], []⟩,
 ⟨[1, 3, 5, 6, 9], [], []⟩,
 ⟨[1, 3, 5, 6, 9, 26], [], []⟩,
 ⟨[6, 7], [], []⟩,
 ⟨[1, 3, 5, 6, 36], [], []⟩,
 ⟨[6, 7], [], []⟩,
 ⟨[1, 3, 5, 6, 48], [0, 1, 0, 0, 15, 0, 63, 127, 255, 511, 1023], [false, true, true, false, true, true, false, false, false, false, false]⟩,
 ⟨[6, 7], [], []⟩,
 ⟨[6, 7], [], []⟩]
def s37 : SC := .seq (.ops [⟨some 3, .box 29 (.tmp 0), 0, .always⟩,
 ⟨some 5, .box 62 (.tmp 2), 0, .always⟩,
 ⟨some 6, .alloc 29, 0, .always⟩,
 ⟨some 7, .assign (.const (.int .i64 0)), 43, .always⟩] [1, 3, 5, 6])
 (.seq (.seq (.ops [⟨some 10, .load 29 (.tmp 3), 29, .always⟩,
 ⟨some 11, .call { callee := .value (.func 77), args := #[.tmp 10], argTypes := #[29] }, 43, .always⟩,
 ⟨some 8, .assign (.tmp 11), 43, .always⟩] [1, 3, 5, 6, 8])
 (.seq (.ops [⟨some 12, .move (.tmp 8), 43, .always⟩,
 ⟨some 13, .binOp .neq 43 (.tmp 12) (.const (.int .i64 0)) 43, 4, .always⟩] [1, 3, 5, 6, 8, 13])
 (.cond (.tmp 13)
 (.seq (.ops [⟨some 14, .build 29 #[], 29, .always⟩,
 ⟨some 15, .move (.tmp 8), 43, .always⟩,
 ⟨none, .store 29 (.tmp 6) (.tmp 14), 0, .always⟩,
 ⟨some 7, .assign (.tmp 15), 43, .always⟩] [6, 7])
 (.ret))
 (.skip))))
 (.seq (.seq (.ops [⟨some 16, .move (.tmp 1), 3, .always⟩,
 ⟨some 17, .binOp .lss 3 (.tmp 16) (.const (.int .i64 0)) 3, 4, .always⟩,
 ⟨some 18, .move (.tmp 17), 4, .always⟩,
 ⟨some 19, .move (.tmp 1), 3, .tmp 18 false⟩,
 ⟨some 20, .binOp .gtr 3 (.tmp 19) (.const (.int .i64 4096)) 3, 4, .tmp 18 false⟩,
 ⟨some 21, .pick (.tmp 18) (.const (.bool true)) (.tmp 20), 4, .always⟩] [1, 3, 5, 6, 21])
 (.cond (.tmp 21)
 (.seq (.ops [⟨some 22, .build 29 #[], 29, .always⟩,
 ⟨none, .store 29 (.tmp 6) (.tmp 22), 0, .always⟩,
 ⟨some 7, .assign (.const (.int .i64 1)), 43, .always⟩] [6, 7])
 (.ret))
 (.skip)))
 (.seq (.seq (.ops [⟨some 23, .load 62 (.tmp 5), 62, .always⟩,
 ⟨some 24, .call { callee := .value (.func 86), args := #[.tmp 23], argTypes := #[62] }, 43, .always⟩,
 ⟨some 9, .assign (.tmp 24), 43, .always⟩] [1, 3, 5, 6, 9])
 (.seq (.ops [⟨some 25, .move (.tmp 9), 43, .always⟩,
 ⟨some 26, .binOp .neq 43 (.tmp 25) (.const (.int .i64 0)) 43, 4, .always⟩] [1, 3, 5, 6, 9, 26])
 (.cond (.tmp 26)
 (.seq (.ops [⟨some 27, .build 29 #[], 29, .always⟩,
 ⟨some 28, .move (.tmp 9), 43, .always⟩,
 ⟨none, .store 29 (.tmp 6) (.tmp 27), 0, .always⟩,
 ⟨some 7, .assign (.tmp 28), 43, .always⟩] [6, 7])
 (.ret))
 (.skip))))
 (.seq (.seq (.ops [⟨some 29, .load 29 (.tmp 3), 29, .always⟩,
 ⟨some 30, .call { callee := .value (.func 83), args := #[.tmp 29, .const (.int .i64 536870912)], argTypes := #[29, 3] }, 4, .always⟩,
 ⟨some 31, .unOp .not 4 (.tmp 30), 4, .always⟩,
 ⟨some 32, .move (.tmp 31), 4, .always⟩,
 ⟨some 33, .load 62 (.tmp 5), 62, .tmp 32 false⟩,
 ⟨some 34, .call { callee := .value (.func 87), args := #[.tmp 33, .const (.int .i64 536870912)], argTypes := #[62, 3] }, 4, .tmp 32 false⟩,
 ⟨some 35, .unOp .not 4 (.tmp 34), 4, .tmp 32 false⟩,
 ⟨some 36, .pick (.tmp 32) (.const (.bool true)) (.tmp 35), 4, .always⟩] [1, 3, 5, 6, 36])
 (.cond (.tmp 36)
 (.seq (.ops [⟨some 37, .build 29 #[], 29, .always⟩,
 ⟨none, .store 29 (.tmp 6) (.tmp 37), 0, .always⟩,
 ⟨some 7, .assign (.const (.int .i64 1)), 43, .always⟩] [6, 7])
 (.ret))
 (.skip)))
 (.seq (.seq (.draw [⟨some 38, .load 29 (.tmp 3), 29, .always⟩,
 ⟨some 39, .call { callee := .value (.func 88), args := #[.tmp 38], argTypes := #[29] }, 3, .always⟩,
 ⟨some 40, .load 29 (.tmp 3), 29, .always⟩,
 ⟨some 41, .move (.tmp 1), 3, .always⟩,
 ⟨some 42, .call { callee := .value (.func 89), args := #[.tmp 40, .tmp 41], argTypes := #[29, 3] }, 3, .always⟩,
 ⟨some 43, .load 62 (.tmp 5), 62, .always⟩,
 ⟨some 44, .call { callee := .value (.func 90), args := #[.tmp 43], argTypes := #[62] }, 3, .always⟩,
 ⟨some 45, .binOp .sub 3 (.tmp 44) (.const (.int .i64 1)) 3, 3, .always⟩,
 ⟨some 46, .binOp .mul 3 (.tmp 42) (.tmp 45) 3, 3, .always⟩,
 ⟨some 47, .binOp .add 3 (.tmp 39) (.tmp 46) 3, 3, .always⟩,
 ⟨some 48, .binOp .gtr 3 (.tmp 47) (.const (.int .i64 4096)) 3, 4, .always⟩] [false, true, true, false, true, true, false, false, false, false, false] [1, 3, 5, 6, 48])
 (.cond (.tmp 48)
 (.seq (.ops [⟨some 49, .build 29 #[], 29, .always⟩,
 ⟨none, .store 29 (.tmp 6) (.tmp 49), 0, .always⟩,
 ⟨some 7, .assign (.const (.int .i64 4)), 43, .always⟩] [6, 7])
 (.ret))
 (.skip)))
 (.seq (.ops [⟨some 50, .load 29 (.tmp 3), 29, .always⟩,
 ⟨some 51, .move (.tmp 1), 3, .always⟩,
 ⟨some 52, .load 62 (.tmp 5), 62, .always⟩,
 ⟨some 53, .call { callee := .value (.func 91), args := #[.tmp 50, .tmp 51, .const (.int .i64 0), .tmp 52], argTypes := #[29, 3, 3, 62] }, 29, .always⟩,
 ⟨some 54, .call { callee := .value (.func 84), args := #[.tmp 53], argTypes := #[29] }, 29, .always⟩,
 ⟨none, .store 29 (.tmp 6) (.tmp 54), 0, .always⟩,
 ⟨some 7, .assign (.const (.int .i64 0)), 43, .always⟩] [6, 7])
 (.ret)))))))
theorem w37 {args : List PV} {σ σ' : List Frm} {r : Ret} (hr : ∀ p, r = .val p → erV p = p) (h : wpP cfg s37 (QEndP cfg [.cell 6 29, .tmp 7] σ' r) ⟨initEnv args, fun _ => [], σ, ⟨fun _ => false, 0⟩⟩) : CallsV cfg 37 args σ r σ' :=
 callsV_of_p follows cfgT a37 (fn := Tryd.f37) (c := Tryd.f37.body.getD .skip) (by kernel_rfl) (by kernel_rfl) (by kernel_rfl) (by kernel_rfl) (by kernel_rfl) (sc := s37) (by kernel_rfl) [.cell 6 29, .tmp 7] (by kernel_rfl) hr h
def a4 : List Ann := [⟨[0], [], []⟩,
 ⟨[0, 22], [], []⟩,
 ⟨[2], [], []⟩,
 ⟨[3], [], []⟩,
 ⟨[3, 4], [], []⟩,
 ⟨[3, 4, 5], [], []⟩,
 ⟨[3, 4, 5, 6, 7], [], []⟩,
 ⟨[3, 4, 5, 6, 7, 8, 9], [0, 0, 2, 6, 15, 31, 63, 63, 0, 383, 1023], [true, false, true, false, true, false, false, false, true, false, false]⟩,
 ⟨[6, 7, 8, 9, 10, 11], [0, 0, 0, 0, 14, 31, 63, 127, 127, 0, 767, 2047], [true, false, false, true, true, true, false, false, false, true, false, false]⟩,
 ⟨[6, 7, 8, 9, 10, 11, 62], [], []⟩,
 ⟨[2], [], []⟩,
 ⟨[6, 7, 10, 12, 13], [], []⟩,
 ⟨[6, 7, 12, 13, 14, 15], [], []⟩,
 ⟨[2], [], []⟩]
def s4 : SC := .seq (.ops [⟨some 2, .assign (.const (.bool false)), 4, .always⟩] [0])
 (.seq (.seq (.ops [⟨some 16, .call { callee := .value (.func 15), args := #[], argTypes := #[] }, 4, .always⟩,
 ⟨some 17, .unOp .not 4 (.tmp 16), 4, .always⟩,
 ⟨some 18, .move (.tmp 17), 4, .always⟩,
 ⟨some 19, .move (.tmp 0), 22, .tmp 18 false⟩,
 ⟨some 20, .call { callee := .value (.func 16), args := #[.tmp 19], argTypes := #[22] }, 4, .tmp 18 false⟩,
 ⟨some 21, .unOp .not 4 (.tmp 20), 4, .tmp 18 false⟩,
 ⟨some 22, .pick (.tmp 18) (.const (.bool true)) (.tmp 21), 4, .always⟩] [0, 22])
 (.cond (.tmp 22)
 (.seq (.ops [⟨some 23, .call { callee := .value (.func 15), args := #[], argTypes := #[] }, 4, .always⟩,
 ⟨some 2, .assign (.tmp 23), 4, .always⟩] [2])
 (.ret))
 (.skip)))
 (.seq (.ops [⟨some 24, .move (.tmp 0), 22, .always⟩,
 ⟨some 25, .call { callee := .value (.func 21), args := #[.tmp 24], argTypes := #[22] }, 39, .always⟩,
 ⟨some 3, .assign (.tmp 25), 39, .always⟩] [3])
 (.seq (.ops [⟨some 26, .move (.tmp 3), 39, .always⟩,
 ⟨some 27, .call { callee := .value (.func 33), args := #[.tmp 26], argTypes := #[39] }, 23, .always⟩,
 ⟨some 4, .assign (.tmp 27), 23, .always⟩] [3, 4])
 (.seq (.ops [⟨some 28, .move (.tmp 3), 39, .always⟩,
 ⟨some 29, .move (.tmp 4), 23, .always⟩,
 ⟨some 30, .call { callee := .builtin .append, args := #[.const (.slice none 0 0), .tmp 29], argTypes := #[23, 23] }, 23, .always⟩,
 ⟨some 31, .call { callee := .value (.func 34), args := #[], argTypes := #[] }, 25, .always⟩,
 ⟨some 32, .buildSlice 23 1 #[(0, .tmp 31)], 23, .always⟩,
 ⟨some 33, .call { callee := .builtin .append, args := #[.tmp 30, .tmp 32], argTypes := #[23, 23] }, 23, .always⟩,
 ⟨some 34, .call { callee := .value (.func 23), args := #[.tmp 28, .tmp 33, .const (.int .i64 3)], argTypes := #[39, 23, 3] }, 29, .always⟩,
 ⟨some 5, .alloc 29, 0, .always⟩,
 ⟨none, .store 29 (.tmp 5) (.tmp 34), 0, .always⟩] [3, 4, 5])
 (.seq (.ops [⟨some 36, .load 29 (.tmp 5), 29, .always⟩,
 ⟨some 37, .call { callee := .value (.func 24), args := #[.tmp 36], argTypes := #[29] }, 44, .always⟩,
 ⟨some 35, .move (.tmp 37), 44, .always⟩,
 ⟨some 38, .extract (.tmp 35) 0, 25, .always⟩,
 ⟨some 39, .extract (.tmp 35) 1, 43, .always⟩,
 ⟨some 6, .alloc 25, 0, .always⟩,
 ⟨none, .store 25 (.tmp 6) (.tmp 38), 0, .always⟩,
 ⟨some 7, .assign (.tmp 39), 43, .always⟩] [3, 4, 5, 6, 7])
 (.seq (.draw [⟨some 41, .load 29 (.tmp 5), 29, .always⟩,
 ⟨some 42, .move (.tmp 3), 39, .always⟩,
 ⟨some 43, .call { callee := .value (.func 36), args := #[.tmp 42, .const (.int .i64 3)], argTypes := #[39, 3] }, 3, .always⟩,
 ⟨some 44, .binOp .add 3 (.const (.int .i64 1)) (.tmp 43) 3, 3, .always⟩,
 ⟨some 45, .call { callee := .value (.func 35), args := #[.tmp 41, .const (.int .i64 0), .tmp 44], argTypes := #[29, 3, 3] }, 57, .always⟩,
 ⟨some 40, .move (.tmp 45), 57, .always⟩,
 ⟨some 46, .extract (.tmp 40) 0, 29, .always⟩,
 ⟨some 47, .extract (.tmp 40) 1, 43, .always⟩,
 ⟨some 8, .alloc 29, 0, .always⟩,
 ⟨none, .store 29 (.tmp 8) (.tmp 46), 0, .always⟩,
 ⟨some 9, .assign (.tmp 47), 43, .always⟩] [true, false, true, false, true, false, false, false, true, false, false] [3, 4, 5, 6, 7, 8, 9])
 (.seq (.draw [⟨some 49, .load 29 (.tmp 5), 29, .always⟩,
 ⟨some 50, .move (.tmp 3), 39, .always⟩,
 ⟨some 51, .move (.tmp 4), 23, .always⟩,
 ⟨some 52, .call { callee := .value (.func 34), args := #[], argTypes := #[] }, 25, .always⟩,
 ⟨some 53, .call { callee := .value (.func 38), args := #[.tmp 50, .tmp 51, .tmp 52, .const (.int .i64 2)], argTypes := #[39, 23, 25, 3] }, 62, .always⟩,
 ⟨some 54, .call { callee := .value (.func 37), args := #[.tmp 49, .const (.int .i64 0), .tmp 53], argTypes := #[29, 3, 62] }, 57, .always⟩,
 ⟨some 48, .move (.tmp 54), 57, .always⟩,
 ⟨some 55, .extract (.tmp 48) 0, 29, .always⟩,
 ⟨some 56, .extract (.tmp 48) 1, 43, .always⟩,
 ⟨some 10, .alloc 29, 0, .always⟩,
 ⟨none, .store 29 (.tmp 10) (.tmp 55), 0, .always⟩,
 ⟨some 11, .assign (.tmp 56), 43, .always⟩] [true, false, false, true, true, true, false, false, false, true, false, false] [6, 7, 8, 9, 10, 11])
 (.seq (.seq (.ops [⟨some 57, .move (.tmp 9), 43, .always⟩,
 ⟨some 58, .binOp .neq 43 (.tmp 57) (.const (.int .i64 0)) 43, 4, .always⟩,
 ⟨some 59, .move (.tmp 58), 4, .always⟩,
 ⟨some 60, .move (.tmp 11), 43, .tmp 59 false⟩,
 ⟨some 61, .binOp .neq 43 (.tmp 60) (.const (.int .i64 0)) 43, 4, .tmp 59 false⟩,
 ⟨some 62, .pick (.tmp 59) (.const (.bool true)) (.tmp 61), 4, .always⟩] [6, 7, 8, 9, 10, 11, 62])
 (.cond (.tmp 62)
 (.seq (.ops [⟨some 63, .move (.tmp 9), 43, .always⟩,
 ⟨some 64, .binOp .eql 43 (.tmp 63) (.const (.int .i64 4)) 43, 4, .always⟩,
 ⟨some 65, .move (.tmp 64), 4, .always⟩,
 ⟨some 66, .move (.tmp 11), 43, .tmp 65 false⟩,
 ⟨some 67, .binOp .eql 43 (.tmp 66) (.const (.int .i64 4)) 43, 4, .tmp 65 false⟩,
 ⟨some 68, .pick (.tmp 65) (.const (.bool true)) (.tmp 67), 4, .always⟩,
 ⟨some 2, .assign (.tmp 68), 4, .always⟩] [2])
 (.ret))
 (.skip)))
 (.seq (.ops [⟨some 70, .load 29 (.tmp 8), 29, .always⟩,
 ⟨some 71, .call { callee := .value (.func 24), args := #[.tmp 70], argTypes := #[29] }, 44, .always⟩,
 ⟨some 69, .move (.tmp 71), 44, .always⟩,
 ⟨some 72, .extract (.tmp 69) 0, 25, .always⟩,
 ⟨some 73, .extract (.tmp 69) 1, 43, .always⟩,
 ⟨some 12, .alloc 25, 0, .always⟩,
 ⟨none, .store 25 (.tmp 12) (.tmp 72), 0, .always⟩,
 ⟨some 13, .assign (.tmp 73), 43, .always⟩] [6, 7, 10, 12, 13])
 (.seq (.ops [⟨some 75, .load 29 (.tmp 10), 29, .always⟩,
 ⟨some 76, .call { callee := .value (.func 24), args := #[.tmp 75], argTypes := #[29] }, 44, .always⟩,
 ⟨some 74, .move (.tmp 76), 44, .always⟩,
 ⟨some 77, .extract (.tmp 74) 0, 25, .always⟩,
 ⟨some 78, .extract (.tmp 74) 1, 43, .always⟩,
 ⟨some 14, .alloc 25, 0, .always⟩,
 ⟨none, .store 25 (.tmp 14) (.tmp 77), 0, .always⟩,
 ⟨some 15, .assign (.tmp 78), 43, .always⟩] [6, 7, 12, 13, 14, 15])
 (.seq (.ops [⟨some 79, .move (.tmp 7), 43, .always⟩,
 ⟨some 80, .move (.tmp 13), 43, .always⟩,
 ⟨some 81, .binOp .eql 43 (.tmp 79) (.tmp 80) 43, 4, .always⟩,
 ⟨some 82, .move (.tmp 81), 4, .always⟩,
 ⟨some 83, .move (.tmp 7), 43, .tmp 82 true⟩,
 ⟨some 84, .move (.tmp 15), 43, .tmp 82 true⟩,
 ⟨some 85, .binOp .eql 43 (.tmp 83) (.tmp 84) 43, 4, .tmp 82 true⟩,
 ⟨some 86, .pick (.tmp 82) (.tmp 85) (.const (.bool false)), 4, .always⟩,
 ⟨some 87, .move (.tmp 86), 4, .always⟩,
 ⟨some 88, .load 25 (.tmp 6), 25, .tmp 87 true⟩,
 ⟨some 89, .load 25 (.tmp 12), 25, .tmp 87 true⟩,
 ⟨some 90, .call { callee := .value (.func 26), args := #[.tmp 88, .tmp 89], argTypes := #[25, 25] }, 4, .tmp 87 true⟩,
 ⟨some 91, .pick (.tmp 87) (.tmp 90) (.const (.bool false)), 4, .always⟩,
 ⟨some 92, .move (.tmp 91), 4, .always⟩,
 ⟨some 93, .load 25 (.tmp 6), 25, .tmp 92 true⟩,
 ⟨some 94, .load 25 (.tmp 14), 25, .tmp 92 true⟩,
 ⟨some 95, .call { callee := .value (.func 26), args := #[.tmp 93, .tmp 94], argTypes := #[25, 25] }, 4, .tmp 92 true⟩,
 ⟨some 96, .pick (.tmp 92) (.tmp 95) (.const (.bool false)), 4, .always⟩,
 ⟨some 2, .assign (.tmp 96), 4, .always⟩] [2])
 (.ret))))))))))))
theorem w4 {args : List PV} {σ σ' : List Frm} {r : Ret} (hr : ∀ p, r = .val p → erV p = p) (h : wpP cfg s4 (QEndP cfg [.tmp 2] σ' r) ⟨initEnv args, fun _ => [], σ, ⟨fun _ => false, 0⟩⟩) : CallsV cfg 4 args σ r σ' :=
 callsV_of_p follows cfgT a4 (fn := Tryd.f4) (c := Tryd.f4.body.getD .skip) (by kernel_rfl) (by kernel_rfl) (by kernel_rfl) (by kernel_rfl) (by kernel_rfl) (sc := s4) (by kernel_rfl) [.tmp 2] (by kernel_rfl) hr h
def a40 : List Ann := [⟨[0], [], []⟩,
 ⟨[2], [], []⟩]
def s40 : SC := .seq (.ops [⟨some 2, .assign (.const (.bool false)), 4, .always⟩] [0])
 (.seq (.ops [⟨some 3, .move (.tmp 0), 43, .always⟩,
 ⟨some 4, .binOp .eql 43 (.tmp 3) (.const (.int .i64 4)) 43, 4, .always⟩,
 ⟨some 5, .move (.tmp 4), 4, .always⟩,
 ⟨some 6, .move (.tmp 0), 43, .tmp 5 false⟩,
 ⟨some 7, .binOp .eql 43 (.tmp 6) (.const (.int .i64 5)) 43, 4, .tmp 5 false⟩,
 ⟨some 8, .pick (.tmp 5) (.const (.bool true)) (.tmp 7), 4, .always⟩,
 ⟨some 9, .move (.tmp 8), 4, .always⟩,
 ⟨some 10, .move (.tmp 0), 43, .tmp 9 false⟩,
 ⟨some 11, .binOp .eql 43 (.tmp 10) (.const (.int .i64 3)) 43, 4, .tmp 9 false⟩,
 ⟨some 12, .pick (.tmp 9) (.const (.bool true)) (.tmp 11), 4, .always⟩,
 ⟨some 2, .assign (.tmp 12), 4, .always⟩] [2])
 (.ret))
theorem w40 {args : List PV} {σ σ' : List Frm} {r : Ret} (hr : ∀ p, r = .val p → erV p = p) (h : wpP cfg s40 (QEndP cfg [.tmp 2] σ' r) ⟨initEnv args, fun _ => [], σ, ⟨fun _ => false, 0⟩⟩) : CallsV cfg 40 args σ r σ' :=
 callsV_of_p follows cfgT a40 (fn := Tryd.f40) (c := Tryd.f40.body.getD .skip) (by kernel_rfl) (by kernel_rfl) (by kernel_rfl) (by kernel_rfl) (by kernel_rfl) (sc := s40) (by kernel_rfl) [.tmp 2] (by kernel_rfl) hr h
def a5 : List Ann := [⟨[0], [], []⟩,
 ⟨[0, 22], [], []⟩,
 ⟨[2], [], []⟩,
 ⟨[3], [], []⟩,
 ⟨[4, 5], [], []⟩,
 ⟨[4, 5, 6, 7], [], []⟩,
 ⟨[4, 5, 6, 7, 8, 9], [], []⟩,
 ⟨[4, 5, 6, 7, 8, 9, 10, 11], [], []⟩,
 ⟨[5, 6, 7, 8, 9, 10, 11, 12, 13], [], []⟩,
 ⟨[5, 6, 8, 9, 10, 11, 12, 13, 66], [], []⟩,
 ⟨[2], [], []⟩,
 ⟨[5, 8, 10, 12, 78], [], []⟩,
 ⟨[2], [], []⟩,
 ⟨[8, 10, 12, 14, 15], [], []⟩,
 ⟨[2], [0, 1, 3, 7, 15, 31, 31, 31, 223, 511, 1023, 2047, 4095, 8191, 16383, 32767, 65535, 131071, 262143, 524287, 1048575, 2097151], [false, false, false, false, false, true, false, false, true, false, false, false, false, false, false, false, false, false, false, false, false, false]⟩]
def s5 : SC := .seq (.ops [⟨some 2, .assign (.const (.bool false)), 4, .always⟩] [0])
 (.seq (.seq (.ops [⟨some 16, .call { callee := .value (.func 15), args := #[], argTypes := #[] }, 4, .always⟩,
 ⟨some 17, .unOp .not 4 (.tmp 16), 4, .always⟩,
 ⟨some 18, .move (.tmp 17), 4, .always⟩,
 ⟨some 19, .move (.tmp 0), 22, .tmp 18 false⟩,
 ⟨some 20, .call { callee := .value (.func 16), args := #[.tmp 19], argTypes := #[22] }, 4, .tmp 18 false⟩,
 ⟨some 21, .unOp .not 4 (.tmp 20), 4, .tmp 18 false⟩,
 ⟨some 22, .pick (.tmp 18) (.const (.bool true)) (.tmp 21), 4, .always⟩] [0, 22])
 (.cond (.tmp 22)
 (.seq (.ops [⟨some 23, .call { callee := .value (.func 15), args := #[], argTypes := #[] }, 4, .always⟩,
 ⟨some 2, .assign (.tmp 23), 4, .always⟩] [2])
 (.ret))
 (.skip)))
 (.seq (.ops [⟨some 24, .move (.tmp 0), 22, .always⟩,
 ⟨some 25, .call { callee := .value (.func 21), args := #[.tmp 24], argTypes := #[22] }, 39, .always⟩,
 ⟨some 3, .assign (.tmp 25), 39, .always⟩] [3])
 (.seq (.ops [⟨some 26, .move (.tmp 3), 39, .always⟩,
 ⟨some 27, .call { callee := .value (.func 23), args := #[.tmp 26, .const (.slice none 0 0), .const (.int .i64 3)], argTypes := #[39, 23, 3] }, 29, .always⟩,
 ⟨some 28, .move (.tmp 3), 39, .always⟩,
 ⟨some 29, .call { callee := .value (.func 23), args := #[.tmp 28, .const (.slice none 0 0), .const (.int .i64 2)], argTypes := #[39, 23, 3] }, 29, .always⟩,
 ⟨some 4, .alloc 29, 0, .always⟩,
 ⟨some 5, .alloc 29, 0, .always⟩,
 ⟨none, .store 29 (.tmp 4) (.tmp 27), 0, .always⟩,
 ⟨none, .store 29 (.tmp 5) (.tmp 29), 0, .always⟩] [4, 5])
 (.seq (.ops [⟨some 31, .load 29 (.tmp 4), 29, .always⟩,
 ⟨some 32, .call { callee := .value (.func 39), args := #[.tmp 31], argTypes := #[29] }, 64, .always⟩,
 ⟨some 30, .move (.tmp 32), 64, .always⟩,
 ⟨some 33, .extract (.tmp 30) 0, 4, .always⟩,
 ⟨some 34, .extract (.tmp 30) 1, 43, .always⟩,
 ⟨some 6, .assign (.tmp 33), 4, .always⟩,
 ⟨some 7, .assign (.tmp 34), 43, .always⟩] [4, 5, 6, 7])
 (.seq (.ops [⟨some 36, .load 29 (.tmp 4), 29, .always⟩,
 ⟨some 37, .call { callee := .value (.func 24), args := #[.tmp 36], argTypes := #[29] }, 44, .always⟩,
 ⟨some 35, .move (.tmp 37), 44, .always⟩,
 ⟨some 38, .extract (.tmp 35) 0, 25, .always⟩,
 ⟨some 39, .extract (.tmp 35) 1, 43, .always⟩,
 ⟨some 8, .alloc 25, 0, .always⟩,
 ⟨none, .store 25 (.tmp 8) (.tmp 38), 0, .always⟩,
 ⟨some 9, .assign (.tmp 39), 43, .always⟩] [4, 5, 6, 7, 8, 9])
 (.seq (.ops [⟨some 41, .load 29 (.tmp 5), 29, .always⟩,
 ⟨some 42, .call { callee := .value (.func 24), args := #[.tmp 41], argTypes := #[29] }, 44, .always⟩,
 ⟨some 40, .move (.tmp 42), 44, .always⟩,
 ⟨some 43, .extract (.tmp 40) 0, 25, .always⟩,
 ⟨some 44, .extract (.tmp 40) 1, 43, .always⟩,
 ⟨some 10, .alloc 25, 0, .always⟩,
 ⟨none, .store 25 (.tmp 10) (.tmp 43), 0, .always⟩,
 ⟨some 11, .assign (.tmp 44), 43, .always⟩] [4, 5, 6, 7, 8, 9, 10, 11])
 (.seq (.ops [⟨some 46, .load 29 (.tmp 4), 29, .always⟩,
 ⟨some 47, .load 29 (.tmp 5), 29, .always⟩,
 ⟨some 48, .buildSlice 27 2 #[(0, .tmp 46), (1, .tmp 47)], 27, .always⟩,
 ⟨some 49, .build 29 #[(0, .const (.int .i64 3)), (3, .tmp 48)], 29, .always⟩,
 ⟨some 50, .call { callee := .value (.func 24), args := #[.tmp 49], argTypes := #[29] }, 44, .always⟩,
 ⟨some 45, .move (.tmp 50), 44, .always⟩,
 ⟨some 51, .extract (.tmp 45) 0, 25, .always⟩,
 ⟨some 52, .extract (.tmp 45) 1, 43, .always⟩,
 ⟨some 12, .alloc 25, 0, .always⟩,
 ⟨none, .store 25 (.tmp 12) (.tmp 51), 0, .always⟩,
 ⟨some 13, .assign (.tmp 52), 43, .always⟩] [5, 6, 7, 8, 9, 10, 11, 12, 13])
 (.seq (.seq (.ops [⟨some 53, .move (.tmp 7), 43, .always⟩,
 ⟨some 54, .binOp .neq 43 (.tmp 53) (.const (.int .i64 0)) 43, 4, .always⟩,
 ⟨some 55, .move (.tmp 54), 4, .always⟩,
 ⟨some 56, .move (.tmp 9), 43, .tmp 55 false⟩,
 ⟨some 57, .binOp .neq 43 (.tmp 56) (.const (.int .i64 0)) 43, 4, .tmp 55 false⟩,
 ⟨some 58, .pick (.tmp 55) (.const (.bool true)) (.tmp 57), 4, .always⟩,
 ⟨some 59, .move (.tmp 58), 4, .always⟩,
 ⟨some 60, .move (.tmp 11), 43, .tmp 59 false⟩,
 ⟨some 61, .binOp .neq 43 (.tmp 60) (.const (.int .i64 0)) 43, 4, .tmp 59 false⟩,
 ⟨some 62, .pick (.tmp 59) (.const (.bool true)) (.tmp 61), 4, .always⟩,
 ⟨some 63, .move (.tmp 62), 4, .always⟩,
 ⟨some 64, .move (.tmp 13), 43, .tmp 63 false⟩,
 ⟨some 65, .binOp .neq 43 (.tmp 64) (.const (.int .i64 0)) 43, 4, .tmp 63 false⟩,
 ⟨some 66, .pick (.tmp 63) (.const (.bool true)) (.tmp 65), 4, .always⟩] [5, 6, 8, 9, 10, 11, 12, 13, 66])
 (.cond (.tmp 66)
 (.seq (.ops [⟨some 67, .move (.tmp 9), 43, .always⟩,
 ⟨some 68, .call { callee := .value (.func 40), args := #[.tmp 67], argTypes := #[43] }, 4, .always⟩,
 ⟨some 69, .move (.tmp 68), 4, .always⟩,
 ⟨some 70, .move (.tmp 11), 43, .tmp 69 false⟩,
 ⟨some 71, .call { callee := .value (.func 40), args := #[.tmp 70], argTypes := #[43] }, 4, .tmp 69 false⟩,
 ⟨some 72, .pick (.tmp 69) (.const (.bool true)) (.tmp 71), 4, .always⟩,
 ⟨some 73, .move (.tmp 72), 4, .always⟩,
 ⟨some 74, .move (.tmp 13), 43, .tmp 73 false⟩,
 ⟨some 75, .call { callee := .value (.func 40), args := #[.tmp 74], argTypes := #[43] }, 4, .tmp 73 false⟩,
 ⟨some 76, .pick (.tmp 73) (.const (.bool true)) (.tmp 75), 4, .always⟩,
 ⟨some 2, .assign (.tmp 76), 4, .always⟩] [2])
 (.ret))
 (.skip)))
 (.seq (.seq (.ops [⟨some 77, .move (.tmp 6), 4, .always⟩,
 ⟨some 78, .unOp .not 4 (.tmp 77), 4, .always⟩] [5, 8, 10, 12, 78])
 (.cond (.tmp 78)
 (.seq (.ops [⟨some 79, .fieldAddr 25 (.tmp 8) 0, 0, .always⟩,
 ⟨some 80, .load 3 (.tmp 79), 3, .always⟩,
 ⟨some 81, .binOp .eql 3 (.tmp 80) (.const (.int .i64 5)) 3, 4, .always⟩,
 ⟨some 82, .move (.tmp 81), 4, .always⟩,
 ⟨some 83, .load 25 (.tmp 10), 25, .tmp 82 true⟩,
 ⟨some 84, .load 25 (.tmp 12), 25, .tmp 82 true⟩,
 ⟨some 85, .call { callee := .value (.func 26), args := #[.tmp 83, .tmp 84], argTypes := #[25, 25] }, 4, .tmp 82 true⟩,
 ⟨some 86, .pick (.tmp 82) (.tmp 85) (.const (.bool false)), 4, .always⟩,
 ⟨some 2, .assign (.tmp 86), 4, .always⟩] [2])
 (.ret))
 (.skip)))
 (.seq (.ops [⟨some 88, .load 29 (.tmp 5), 29, .always⟩,
 ⟨some 89, .call { callee := .value (.func 39), args := #[.tmp 88], argTypes := #[29] }, 64, .always⟩,
 ⟨some 87, .move (.tmp 89), 64, .always⟩,
 ⟨some 90, .extract (.tmp 87) 0, 4, .always⟩,
 ⟨some 91, .extract (.tmp 87) 1, 43, .always⟩,
 ⟨some 14, .assign (.tmp 90), 4, .always⟩,
 ⟨some 15, .assign (.tmp 91), 43, .always⟩] [8, 10, 12, 14, 15])
 (.seq (.draw [⟨some 92, .move (.tmp 15), 43, .always⟩,
 ⟨some 93, .binOp .eql 43 (.tmp 92) (.const (.int .i64 0)) 43, 4, .always⟩,
 ⟨some 94, .move (.tmp 93), 4, .always⟩,
 ⟨some 95, .move (.tmp 14), 4, .tmp 94 true⟩,
 ⟨some 96, .move (.tmp 95), 4, .tmp 94 true⟩,
 ⟨some 97, .load 25 (.tmp 12), 25, .tmp 96 true⟩,
 ⟨some 98, .load 25 (.tmp 8), 25, .tmp 96 true⟩,
 ⟨some 99, .load 25 (.tmp 10), 25, .tmp 96 true⟩,
 ⟨some 100, .call { callee := .value (.func 41), args := #[.tmp 98, .tmp 99], argTypes := #[25, 25] }, 25, .tmp 96 true⟩,
 ⟨some 101, .call { callee := .value (.func 26), args := #[.tmp 97, .tmp 100], argTypes := #[25, 25] }, 4, .tmp 96 true⟩,
 ⟨some 102, .pick (.tmp 96) (.tmp 101) (.const (.bool false)), 4, .tmp 94 true⟩,
 ⟨some 103, .move (.tmp 102), 4, .tmp 94 true⟩,
 ⟨some 104, .move (.tmp 14), 4, .tmp 103 false⟩,
 ⟨some 105, .unOp .not 4 (.tmp 104), 4, .tmp 103 false⟩,
 ⟨some 106, .move (.tmp 105), 4, .tmp 103 false⟩,
 ⟨some 107, .fieldAddr 25 (.tmp 12) 0, 0, .tmp 106 true⟩,
 ⟨some 108, .load 3 (.tmp 107), 3, .tmp 106 true⟩,
 ⟨some 109, .binOp .eql 3 (.tmp 108) (.const (.int .i64 5)) 3, 4, .tmp 106 true⟩,
 ⟨some 110, .pick (.tmp 106) (.tmp 109) (.const (.bool false)), 4, .tmp 103 false⟩,
 ⟨some 111, .pick (.tmp 103) (.const (.bool true)) (.tmp 110), 4, .tmp 94 true⟩,
 ⟨some 112, .pick (.tmp 94) (.tmp 111) (.const (.bool false)), 4, .always⟩,
 ⟨some 2, .assign (.tmp 112), 4, .always⟩] [false, false, false, false, false, true, false, false, true, false, false, false, false, false, false, false, false, false, false, false, false, false] [2])
 (.ret))))))))))))
theorem w5 {args : List PV} {σ σ' : List Frm} {r : Ret} (hr : ∀ p, r = .val p → erV p = p) (h : wpP cfg s5 (QEndP cfg [.tmp 2] σ' r) ⟨initEnv args, fun _ => [], σ, ⟨fun _ => false, 0⟩⟩) : CallsV cfg 5 args σ r σ' :=
 callsV_of_p follows cfgT a5 (fn := Tryd.f5) (c := Tryd.f5.body.getD .skip) (by kernel_rfl) (by kernel_rfl) (by kernel_rfl) (by kernel_rfl) (by kernel_rfl) (sc := s5) (by kernel_rfl) [.tmp 2] (by kernel_rfl) hr h
def a6 : List Ann := [⟨[0], [], []⟩,
 ⟨[0, 24], [], []⟩,
 ⟨[2], [], []⟩,
 ⟨[3], [], []⟩,
 ⟨[3, 4], [], []⟩,
 ⟨[4, 5], [], []⟩,
 ⟨[4, 5, 6, 7], [], []⟩,
 ⟨[4, 5, 6, 7, 8, 9], [], []⟩,
 ⟨[4, 5, 6, 7, 8, 49], [], []⟩,
 ⟨[2], [], []⟩,
 ⟨[4, 5, 6, 8, 52, 53, 54], [], []⟩,
 ⟨[4, 5, 6, 8, 52, 53, 54, 55], [], []⟩,
 ⟨[4, 5, 6, 8, 11, 52, 53, 54], [], []⟩,
 ⟨[4, 5, 6, 8, 12, 13, 52, 53, 54], [], []⟩,
 ⟨[4, 5, 6, 8, 52, 53, 54, 74], [], []⟩,
 ⟨[2], [], []⟩,
 ⟨[4, 5, 6, 8, 52, 53, 54], [], []⟩,
 ⟨[4, 5, 6, 8, 14, 15], [], []⟩,
 ⟨[4, 6, 8, 14, 15, 16, 17], [], []⟩,
 ⟨[4, 6, 8, 14, 15, 16, 17, 97], [], []⟩,
 ⟨[2], [], []⟩,
 ⟨[4, 6, 14, 16, 105], [], []⟩,
 ⟨[2], [], []⟩,
 ⟨[2], [0, 0, 0, 6, 15, 31, 63, 63, 63, 447, 1023, 2047, 4095], [true, false, false, true, false, false, true, false, false, true, false, false, false]⟩]
def s6 : SC := .seq (.ops [⟨some 2, .assign (.const (.bool false)), 4, .always⟩] [0])
 (.seq (.seq (.ops [⟨some 18, .call { callee := .value (.func 15), args := #[], argTypes := #[] }, 4, .always⟩,
 ⟨some 19, .unOp .not 4 (.tmp 18), 4, .always⟩,
 ⟨some 20, .move (.tmp 19), 4, .always⟩,
 ⟨some 21, .move (.tmp 0), 22, .tmp 20 false⟩,
 ⟨some 22, .call { callee := .value (.func 16), args := #[.tmp 21], argTypes := #[22] }, 4, .tmp 20 false⟩,
 ⟨some 23, .unOp .not 4 (.tmp 22), 4, .tmp 20 false⟩,
 ⟨some 24, .pick (.tmp 20) (.const (.bool true)) (.tmp 23), 4, .always⟩] [0, 24])
 (.cond (.tmp 24)
 (.seq (.ops [⟨some 25, .call { callee := .value (.func 15), args := #[], argTypes := #[] }, 4, .always⟩,
 ⟨some 2, .assign (.tmp 25), 4, .always⟩] [2])
 (.ret))
 (.skip)))
 (.seq (.ops [⟨some 26, .move (.tmp 0), 22, .always⟩,
 ⟨some 27, .call { callee := .value (.func 21), args := #[.tmp 26], argTypes := #[22] }, 39, .always⟩,
 ⟨some 3, .assign (.tmp 27), 39, .always⟩] [3])
 (.seq (.ops [⟨some 28, .move (.tmp 3), 39, .always⟩,
 ⟨some 29, .call { callee := .value (.func 42), args := #[.tmp 28, .const (.int .i64 1)], argTypes := #[39, 3] }, 25, .always⟩,
 ⟨some 4, .alloc 25, 0, .always⟩,
 ⟨none, .store 25 (.tmp 4) (.tmp 29), 0, .always⟩] [3, 4])
 (.seq (.ops [⟨some 30, .move (.tmp 3), 39, .always⟩,
 ⟨some 31, .load 25 (.tmp 4), 25, .always⟩,
 ⟨some 32, .buildSlice 23 1 #[(0, .tmp 31)], 23, .always⟩,
 ⟨some 33, .call { callee := .value (.func 23), args := #[.tmp 30, .tmp 32, .const (.int .i64 3)], argTypes := #[39, 23, 3] }, 29, .always⟩,
 ⟨some 5, .alloc 29, 0, .always⟩,
 ⟨none, .store 29 (.tmp 5) (.tmp 33), 0, .always⟩] [4, 5])
 (.seq (.ops [⟨some 35, .load 29 (.tmp 5), 29, .always⟩,
 ⟨some 36, .call { callee := .value (.func 24), args := #[.tmp 35], argTypes := #[29] }, 44, .always⟩,
 ⟨some 34, .move (.tmp 36), 44, .always⟩,
 ⟨some 37, .extract (.tmp 34) 0, 25, .always⟩,
 ⟨some 38, .extract (.tmp 34) 1, 43, .always⟩,
 ⟨some 6, .alloc 25, 0, .always⟩,
 ⟨none, .store 25 (.tmp 6) (.tmp 37), 0, .always⟩,
 ⟨some 7, .assign (.tmp 38), 43, .always⟩] [4, 5, 6, 7])
 (.seq (.ops [⟨some 40, .load 29 (.tmp 5), 29, .always⟩,
 ⟨some 41, .call { callee := .value (.func 39), args := #[.tmp 40], argTypes := #[29] }, 64, .always⟩,
 ⟨some 39, .move (.tmp 41), 64, .always⟩,
 ⟨some 42, .extract (.tmp 39) 0, 4, .always⟩,
 ⟨some 43, .extract (.tmp 39) 1, 43, .always⟩,
 ⟨some 8, .assign (.tmp 42), 4, .always⟩,
 ⟨some 9, .assign (.tmp 43), 43, .always⟩] [4, 5, 6, 7, 8, 9])
 (.seq (.seq (.ops [⟨some 44, .move (.tmp 7), 43, .always⟩,
 ⟨some 45, .binOp .neq 43 (.tmp 44) (.const (.int .i64 0)) 43, 4, .always⟩,
 ⟨some 46, .move (.tmp 45), 4, .always⟩,
 ⟨some 47, .move (.tmp 9), 43, .tmp 46 false⟩,
 ⟨some 48, .binOp .neq 43 (.tmp 47) (.const (.int .i64 0)) 43, 4, .tmp 46 false⟩,
 ⟨some 49, .pick (.tmp 46) (.const (.bool true)) (.tmp 48), 4, .always⟩] [4, 5, 6, 7, 8, 49])
 (.cond (.tmp 49)
 (.seq (.ops [⟨some 50, .move (.tmp 7), 43, .always⟩,
 ⟨some 51, .call { callee := .value (.func 40), args := #[.tmp 50], argTypes := #[43] }, 4, .always⟩,
 ⟨some 2, .assign (.tmp 51), 4, .always⟩] [2])
 (.ret))
 (.skip)))
 (.seq (.seq (.ops [⟨some 52, .buildSlice 22 2 #[(0, .const (.int .i64 6)), (1, .const (.int .i64 7))], 22, .always⟩,
 ⟨some 53, .call { callee := .builtin .len, args := #[.tmp 52], argTypes := #[22] }, 3, .always⟩,
 ⟨some 54, .move (.const (.int .i64 0)), 3, .always⟩] [4, 5, 6, 8, 52, 53, 54])
 (.block 0
 (.loop
 (.seq (.ops [⟨some 55, .binOp .lss 3 (.tmp 54) (.tmp 53) 3, 0, .always⟩] [4, 5, 6, 8, 52, 53, 54, 55])
 (.seq (.cond (.tmp 55)
 (.skip)
 (.exit 0))
 (.seq (.block 1
 (.seq (.ops [⟨some 56, .indexAddr 22 (.tmp 52) (.tmp 54), 0, .always⟩,
 ⟨some 57, .load 3 (.tmp 56), 3, .always⟩,
 ⟨some 11, .assign (.tmp 57), 3, .always⟩] [4, 5, 6, 8, 11, 52, 53, 54])
 (.seq (.ops [⟨some 59, .move (.tmp 11), 3, .always⟩,
 ⟨some 60, .load 25 (.tmp 4), 25, .always⟩,
 ⟨some 61, .load 29 (.tmp 5), 29, .always⟩,
 ⟨some 62, .buildSlice 27 1 #[(0, .tmp 61)], 27, .always⟩,
 ⟨some 63, .build 29 #[(0, .tmp 59), (1, .tmp 60), (3, .tmp 62)], 29, .always⟩,
 ⟨some 64, .call { callee := .value (.func 24), args := #[.tmp 63], argTypes := #[29] }, 44, .always⟩,
 ⟨some 58, .move (.tmp 64), 44, .always⟩,
 ⟨some 65, .extract (.tmp 58) 0, 25, .always⟩,
 ⟨some 66, .extract (.tmp 58) 1, 43, .always⟩,
 ⟨some 12, .alloc 25, 0, .always⟩,
 ⟨none, .store 25 (.tmp 12) (.tmp 65), 0, .always⟩,
 ⟨some 13, .assign (.tmp 66), 43, .always⟩] [4, 5, 6, 8, 12, 13, 52, 53, 54])
 (.seq (.ops [⟨some 67, .move (.tmp 13), 43, .always⟩,
 ⟨some 68, .binOp .neq 43 (.tmp 67) (.const (.int .i64 0)) 43, 4, .always⟩,
 ⟨some 69, .move (.tmp 68), 4, .always⟩,
 ⟨some 70, .load 25 (.tmp 12), 25, .tmp 69 false⟩,
 ⟨some 71, .load 25 (.tmp 6), 25, .tmp 69 false⟩,
 ⟨some 72, .call { callee := .value (.func 26), args := #[.tmp 70, .tmp 71], argTypes := #[25, 25] }, 4, .tmp 69 false⟩,
 ⟨some 73, .unOp .not 4 (.tmp 72), 4, .tmp 69 false⟩,
 ⟨some 74, .pick (.tmp 69) (.const (.bool true)) (.tmp 73), 4, .always⟩] [4, 5, 6, 8, 52, 53, 54, 74])
 (.cond (.tmp 74)
 (.seq (.ops [⟨some 2, .assign (.const (.bool false)), 4, .always⟩] [2])
 (.ret))
 (.skip))))))
 (.ops [⟨some 75, .binOp .add 3 (.tmp 54) (.const (.int .i64 1)) 3, 3, .always⟩,
 ⟨some 54, .move (.tmp 75), 3, .always⟩] [4, 5, 6, 8, 52, 53, 54])))))))
 (.seq (.ops [⟨some 77, .load 25 (.tmp 4), 25, .always⟩,
 ⟨some 78, .load 29 (.tmp 5), 29, .always⟩,
 ⟨some 79, .buildSlice 27 1 #[(0, .tmp 78)], 27, .always⟩,
 ⟨some 80, .build 29 #[(0, .const (.int .i64 4)), (1, .tmp 77), (3, .tmp 79)], 29, .always⟩,
 ⟨some 81, .call { callee := .value (.func 24), args := #[.tmp 80], argTypes := #[29] }, 44, .always⟩,
 ⟨some 76, .move (.tmp 81), 44, .always⟩,
 ⟨some 82, .extract (.tmp 76) 0, 25, .always⟩,
 ⟨some 83, .extract (.tmp 76) 1, 43, .always⟩,
 ⟨some 14, .alloc 25, 0, .always⟩,
 ⟨none, .store 25 (.tmp 14) (.tmp 82), 0, .always⟩,
 ⟨some 15, .assign (.tmp 83), 43, .always⟩] [4, 5, 6, 8, 14, 15])
 (.seq (.ops [⟨some 85, .load 25 (.tmp 4), 25, .always⟩,
 ⟨some 86, .load 29 (.tmp 5), 29, .always⟩,
 ⟨some 87, .buildSlice 27 1 #[(0, .tmp 86)], 27, .always⟩,
 ⟨some 88, .build 29 #[(0, .const (.int .i64 5)), (1, .tmp 85), (3, .tmp 87)], 29, .always⟩,
 ⟨some 89, .call { callee := .value (.func 24), args := #[.tmp 88], argTypes := #[29] }, 44, .always⟩,
 ⟨some 84, .move (.tmp 89), 44, .always⟩,
 ⟨some 90, .extract (.tmp 84) 0, 25, .always⟩,
 ⟨some 91, .extract (.tmp 84) 1, 43, .always⟩,
 ⟨some 16, .alloc 25, 0, .always⟩,
 ⟨none, .store 25 (.tmp 16) (.tmp 90), 0, .always⟩,
 ⟨some 17, .assign (.tmp 91), 43, .always⟩] [4, 6, 8, 14, 15, 16, 17])
 (.seq (.seq (.ops [⟨some 92, .move (.tmp 15), 43, .always⟩,
 ⟨some 93, .binOp .neq 43 (.tmp 92) (.const (.int .i64 0)) 43, 4, .always⟩,
 ⟨some 94, .move (.tmp 93), 4, .always⟩,
 ⟨some 95, .move (.tmp 17), 43, .tmp 94 false⟩,
 ⟨some 96, .binOp .neq 43 (.tmp 95) (.const (.int .i64 0)) 43, 4, .tmp 94 false⟩,
 ⟨some 97, .pick (.tmp 94) (.const (.bool true)) (.tmp 96), 4, .always⟩] [4, 6, 8, 14, 15, 16, 17, 97])
 (.cond (.tmp 97)
 (.seq (.ops [⟨some 98, .move (.tmp 15), 43, .always⟩,
 ⟨some 99, .call { callee := .value (.func 40), args := #[.tmp 98], argTypes := #[43] }, 4, .always⟩,
 ⟨some 100, .move (.tmp 99), 4, .always⟩,
 ⟨some 101, .move (.tmp 17), 43, .tmp 100 false⟩,
 ⟨some 102, .call { callee := .value (.func 40), args := #[.tmp 101], argTypes := #[43] }, 4, .tmp 100 false⟩,
 ⟨some 103, .pick (.tmp 100) (.const (.bool true)) (.tmp 102), 4, .always⟩,
 ⟨some 2, .assign (.tmp 103), 4, .always⟩] [2])
 (.ret))
 (.skip)))
 (.seq (.seq (.ops [⟨some 104, .move (.tmp 8), 4, .always⟩,
 ⟨some 105, .unOp .not 4 (.tmp 104), 4, .always⟩] [4, 6, 14, 16, 105])
 (.cond (.tmp 105)
 (.seq (.ops [⟨some 106, .fieldAddr 25 (.tmp 14) 0, 0, .always⟩,
 ⟨some 107, .load 3 (.tmp 106), 3, .always⟩,
 ⟨some 108, .binOp .eql 3 (.tmp 107) (.const (.int .i64 5)) 3, 4, .always⟩,
 ⟨some 109, .move (.tmp 108), 4, .always⟩,
 ⟨some 110, .load 25 (.tmp 16), 25, .tmp 109 true⟩,
 ⟨some 111, .load 25 (.tmp 4), 25, .tmp 109 true⟩,
 ⟨some 112, .call { callee := .value (.func 26), args := #[.tmp 110, .tmp 111], argTypes := #[25, 25] }, 4, .tmp 109 true⟩,
 ⟨some 113, .pick (.tmp 109) (.tmp 112) (.const (.bool false)), 4, .always⟩,
 ⟨some 2, .assign (.tmp 113), 4, .always⟩] [2])
 (.ret))
 (.skip)))
 (.seq (.draw [⟨some 114, .load 25 (.tmp 14), 25, .always⟩,
 ⟨some 115, .load 25 (.tmp 4), 25, .always⟩,
 ⟨some 116, .load 25 (.tmp 6), 25, .always⟩,
 ⟨some 117, .call { callee := .value (.func 41), args := #[.tmp 115, .tmp 116], argTypes := #[25, 25] }, 25, .always⟩,
 ⟨some 118, .call { callee := .value (.func 26), args := #[.tmp 114, .tmp 117], argTypes := #[25, 25] }, 4, .always⟩,
 ⟨some 119, .move (.tmp 118), 4, .always⟩,
 ⟨some 120, .load 25 (.tmp 16), 25, .tmp 119 true⟩,
 ⟨some 121, .load 25 (.tmp 4), 25, .tmp 119 true⟩,
 ⟨some 122, .load 25 (.tmp 6), 25, .tmp 119 true⟩,
 ⟨some 123, .call { callee := .value (.func 43), args := #[.tmp 121, .tmp 122], argTypes := #[25, 25] }, 25, .tmp 119 true⟩,
 ⟨some 124, .call { callee := .value (.func 26), args := #[.tmp 120, .tmp 123], argTypes := #[25, 25] }, 4, .tmp 119 true⟩,
 ⟨some 125, .pick (.tmp 119) (.tmp 124) (.const (.bool false)), 4, .always⟩,
 ⟨some 2, .assign (.tmp 125), 4, .always⟩] [true, false, false, true, false, false, true, false, false, true, false, false, false] [2])
 (.ret))))))))))))))
theorem w6 {args : List PV} {σ σ' : List Frm} {r : Ret} (hr : ∀ p, r = .val p → erV p = p) (h : wpP cfg s6 (QEndP cfg [.tmp 2] σ' r) ⟨initEnv args, fun _ => [], σ, ⟨fun _ => false, 0⟩⟩) : CallsV cfg 6 args σ r σ' :=
 callsV_of_p follows cfgT a6 (fn := Tryd.f6) (c := Tryd.f6.body.getD .skip) (by kernel_rfl) (by kernel_rfl) (by kernel_rfl) (by kernel_rfl) (by kernel_rfl) (sc := s6) (by kernel_rfl) [.tmp 2] (by kernel_rfl) hr h
end
end Go.Proofs.YtbcejphjmghkbaaDoor.V
