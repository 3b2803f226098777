/-
Parts of the proof of one law, put together by program: part 7.
-/
import Derived.Test.YtbcejphjmghkbaaDoorKA6
set_option linter.unusedSimpArgs false
set_option linter.unusedVariables false

set_option maxRecDepth 100000
namespace Go.Proofs.YtbcejphjmghkbaaDoor.V
open Go Go.Proofs
def bump (k : Int) : Int := if k = 2 then 1 else 0
def bumpF (k : Int) : Int := if fmQ k = true then 1 else 0
theorem bump_le (k : Int) : 0 ≤ bump k ∧ bump k ≤ 1 := by unfold bump; split <;> omega
theorem bumpF_le (k : Int) : 0 ≤ bumpF k ∧ bumpF k ≤ 1 := by unfold bumpF; split <;> omega
theorem bump_eq (k a : Int) : (if k = 2 then a + 1 else a) = a + bump k := by unfold bump; split <;> omega
theorem bumpF_eq (k a : Int) : (if fmQ k = true then a + 1 else a) = a + bumpF k := by unfold bumpF; split <;> omega
theorem c154 (k i : Int) (s : Ty) (l : List Tm) (σ : List Frm) : CallsV cfg 154 [.agg (encT (.mk k i s l))] σ (.val (.one (.int .i64 (bump k)))) σ := by
  refine w154 (by simp) ?_
  rw [s154, bump]
  by_cases h : k = 2 <;> simp [h]
theorem c134 (k : Int) (s : Ty) (m : List Tm) (l : List Fm) (σ : List Frm) : CallsV cfg 134 [.agg (encF (.mk k s m l))] σ (.val (.one (.int .i64 (bumpF k)))) σ := by
  refine w134 (by simp) ?_
  rw [s134, bumpF]
  simp
  refine opV_call (c161 k _) (by simp) ?_
  by_cases h : fmQ k = true <;> simp [h]
theorem c86 (t : Tm) (hsz : t.size ≤ 1099511627776) (σ : List Frm) : CallsV cfg 86 [.agg (encT t)] σ (.val (.one (.int .i64 t.check))) σ := by
  refine w86 (by simp) ?_
  rw [s86]
  simp
  refine opV_call (c135 t hsz _) (by simp) ?_
  unfold Tm.check
  cases hok : t.ok with
  | false => simp
  | true =>
    simp
    refine opV_call (c90 t hsz _) (by simp) ?_
    by_cases h : t.count ≤ 4096
    · have h' : ¬ ((4096 : Int) < t.count) := by omega
      simp [h, h']
    · have h' : ((4096 : Int) < t.count) := by omega
      simp [h, h']
theorem Tm.least_mk (k i : Int) (t : Ty) (l : List Tm) (m : Int) : (Tm.mk k i t l).least m = (decide (i ≤ m) && Tm.leasts l m) := by rw [Tm.least]
theorem Fm.least_mk (k : Int) (t : Ty) (a : List Tm) (l : List Fm) (m : Int) : (Fm.mk k t a l).least m = (Tm.leasts a m && Fm.leasts l m) := by rw [Fm.least]
theorem Tm.ok_parts {k i : Int} {t : Ty} {l : List Tm} (h : (Tm.mk k i t l).ok = true) : 0 ≤ i ∧ ∀ x ∈ l, x.ok = true := by
  simp only [Tm.ok_mk, Bool.and_eq_true, Tm.oks_iff] at h
  exact ⟨Tm.head_nonneg h.1, h.2⟩
theorem Tm.least_parts {k i : Int} {t : Ty} {l : List Tm} {m : Int} (h : (Tm.mk k i t l).least m = true) : i ≤ m ∧ ∀ x ∈ l, x.least m = true := by
  simp only [Tm.least_mk, Bool.and_eq_true, decide_eq_true_eq, Tm.leasts_iff] at h
  exact h
@[simp] theorem flatLL_tms {α : Type} (g : α → Tm) (l : List α) : flatLL (l.map fun x => encT (g x)) = true := flatLL_of fun e he => by
  obtain ⟨y, _, rfl⟩ := List.mem_map.1 he
  simp
@[simp] theorem flatLL_fms {α : Type} (g : α → Fm) (l : List α) : flatLL (l.map fun x => encF (g x)) = true := flatLL_of fun e he => by
  obtain ⟨y, _, rfl⟩ := List.mem_map.1 he
  simp
def i133a (t : Tm) (k i : Int) (s : Ty) (fr b : Int) (σ : List Frm) : St → Prop
  | ⟨env, loc, σ', live⟩ => env 1 = .one (.int .i64 fr) ∧ env 2 = .one (.int .i64 b) ∧ env 3 = .one (.box σ.length 3 0 0) ∧ env 6 = .one (.box σ.length 6 0 0) ∧ env 7 = .one (.box σ.length 7 0 0) ∧
    loc 3 = [encT t] ∧ loc 6 = [z62] ∧ loc 7 = [.int .i64 k :: .int .i64 i :: (enc s ++ [.slice .full 5 []])] ∧ σ' = σ
def i133 (t : Tm) (k i : Int) (s : Ty) (l : List Tm) (fr b fr' : Int) (σ : List Frm) (j : Nat) : St → Prop
  | ⟨env, loc, σ', live⟩ => ∃ ow, env 1 = .one (.int .i64 fr) ∧ env 2 = .one (.int .i64 b) ∧ env 3 = .one (.box σ.length 3 0 0) ∧ env 6 = .one (.box σ.length 6 0 0) ∧ env 7 = .one (.box σ.length 7 0 0) ∧ env 32 = .one (.slice .no 5 (l.map encT)) ∧ env 33 = .one (.int .i64 l.length) ∧ env 34 = .one (.int .i64 j) ∧
    loc 3 = [encT t] ∧ loc 6 = [z62] ∧ loc 7 = [.int .i64 k :: .int .i64 i :: (enc s ++ [.slice ow 5 ((l.take j).map fun x => encT (x.up fr' b))])] ∧ σ' = σ ∧ okOwn live ow
theorem c133 (t : Tm) : t.size ≤ 1099511627776 → t.ok = true → t.least 536870912 = true → ∀ (fr b : Int), 0 ≤ fr → fr + t.size ≤ 4398046511104 → -1099511627776 ≤ b → b ≤ 1099511627776 → ∀ (σ : List Frm), CallsV cfg 133 [.agg (encT t), .one (.int .i64 fr), .one (.int .i64 b)] σ (.val (.agg (encT (t.up fr b)))) σ := by
  induction t using Tm.ind with
  | _ k i s l ih =>
  intro hsz hok hle fr b hf0 hf1 hb0 hb1 σ
  simp at hsz hf1
  have hlen := Tm.length_le l
  have hsp := s.size_pos
  obtain ⟨hi0, hpo⟩ := Tm.ok_parts hok
  obtain ⟨hi1, hpl⟩ := Tm.least_parts hle
  refine w133 (by simp) ?_
  rw [s133, Tm.up_mk]
  rw [bump_eq]
  obtain ⟨hd0, hd1⟩ := bump_le k
  refine cut3 (i133a (.mk k i s l) k (if k = 1 ∧ fr ≤ i then i + b else i) s fr b σ) ?_ ?_
  · by_cases hk : k = 1
    · subst hk
      by_cases hfi : fr ≤ i
      · simp [hfi]
        rw [wrap_id (by omega) (by omega)]
        exact ⟨by simp, by simp, by simp, by simp, by simp, by simp, by simp [z62], by simp, rfl⟩
      · simp [hfi]
        exact ⟨by simp, by simp, by simp, by simp, by simp, by simp, by simp [z62], by simp, rfl⟩
    · simp [hk]
      exact ⟨by simp, by simp, by simp, by simp, by simp, by simp, by simp [z62], by simp, rfl⟩
  · rintro ⟨env, loc, σ', live⟩ ⟨e1, e2, e3, e6, e7, h3, h6, h7, rfl⟩
    simp [e1, e2, e3, e6, e7, h3, h6, h7]
    refine wpP_range l.length (i133 (.mk k i s l) k (if k = 1 ∧ fr ≤ i then i + b else i) s l fr b (fr + bump k) σ') (by omega) ⟨.full, by simp [e1], by simp [e2], by simp [e3], by simp [e6], by simp [e7], by simp, by simp, by simp, by simp [h3], by simp [h6], by simp [h7], rfl, by simp⟩ ?_ ?_ (hend := ?_)
    · rintro j ⟨env, loc, σ', live⟩ ⟨ow, e1, e2, e3, e6, e7, e32, e33, e34, h3, h6, h7, rfl, how⟩
      exact ⟨e34, e33⟩
    · rintro j ⟨env, loc, σ', live⟩ hj ⟨ow, e1, e2, e3, e6, e7, e32, e33, e34, h3, h6, h7, rfl, how⟩
      obtain ⟨x, hx, hdr, hm⟩ := drop_cons hj
      have := Tm.sizes_mem hm
      simp [e1, e2, e3, e6, e7, e32, e33, e34, hx]
      refine wpP_draw (fun _ _ _ => false) ?_
      simp [e1, e2, e3, e6, e7, e32, e33, e34, h3, h7]
      refine stepD_call (c154 k i s l _) (by simp) ?_
      simp [e1, e2, e3, e6, e7, e32, e33, e34, h3, h7]
      rw [wrap_id (by omega) (by omega)]
      refine stepD_call (ih x hm (by omega) (hpo x hm) (hpl x hm) (fr + bump k) b (by omega) (by omega) hb0 hb1 _) (by simp) ?_
      simp [e1, e2, e3, e6, e7, e32, e33, e34, h3, h7, how]
      exact ⟨by omega, by omega, .tip live.nx, by simp, by simp, by simp, by simp, by simp, by simp, by simp, by simp, by simp [h3], by simp [h6], by simp [List.take_add_one, hx], rfl, grown_on⟩
    · rintro ⟨env, loc, σ', live⟩ ⟨ow, e1, e2, e3, e6, e7, e32, e33, e34, h3, h6, h7, rfl, how⟩
      simp [e1, e2, e3, e6, e7, h3, h6, h7, z62]
theorem Tm.timess_take {l : List Tm} {j : Nat} {x : Tm} (a : Int) (h : l[j]? = some x) : Tm.timess (l.take (j + 1)) a = Tm.timess (l.take j) a + x.times a := by
  induction l generalizing j with
  | nil => simp at h
  | cons y l ih =>
    cases j with
    | zero => simp at h; subst h; simp [Tm.timess]
    | succ j =>
      have := ih (j := j) (by simpa using h)
      simp only [List.take_succ_cons, Tm.timess, this]
      omega
theorem Fm.timess_take {l : List Fm} {j : Nat} {x : Fm} (a : Int) (h : l[j]? = some x) : Fm.timess (l.take (j + 1)) a = Fm.timess (l.take j) a + x.times a := by
  induction l generalizing j with
  | nil => simp at h
  | cons y l ih =>
    cases j with
    | zero => simp at h; subst h; simp [Fm.timess]
    | succ j =>
      have := ih (j := j) (by simpa using h)
      simp only [List.take_succ_cons, Fm.timess, this]
      omega
theorem Tm.timess_le' {l : List Tm} (h : ∀ x ∈ l, ∀ a, 0 ≤ x.times a ∧ x.times a ≤ x.count) (a : Int) : 0 ≤ Tm.timess l a ∧ Tm.timess l a ≤ Tm.counts l := by
  induction l with
  | nil => simp [Tm.timess]
  | cons x l ih =>
    have h1 := h x (by simp) a
    have h2 := ih fun y hy => h y (by simp [hy])
    simp only [Tm.timess, Tm.counts_cons]
    omega
theorem Tm.times_le (t : Tm) : ∀ a, 0 ≤ t.times a ∧ t.times a ≤ t.count := by
  induction t using Tm.ind with
  | _ k i s l ih =>
    intro a
    have h := Tm.timess_le' ih (if k = 2 then a + 1 else a)
    rw [Tm.times_mk, Tm.count_mk]
    split <;> omega
theorem Tm.timess_le (l : List Tm) (a : Int) : 0 ≤ Tm.timess l a ∧ Tm.timess l a ≤ Tm.counts l := Tm.timess_le' (fun x _ => x.times_le) a
theorem Fm.timess_le' {l : List Fm} (h : ∀ x ∈ l, ∀ a, 0 ≤ x.times a ∧ x.times a ≤ x.count) (a : Int) : 0 ≤ Fm.timess l a ∧ Fm.timess l a ≤ Fm.counts l := by
  induction l with
  | nil => simp [Fm.timess]
  | cons x l ih =>
    have h1 := h x (by simp) a
    have h2 := ih fun y hy => h y (by simp [hy])
    simp only [Fm.timess, Fm.counts_cons]
    omega
theorem Fm.times_le (t : Fm) : ∀ a, 0 ≤ t.times a ∧ t.times a ≤ t.count := by
  induction t using Fm.ind with
  | _ k s m l ih =>
    intro a
    have h := Fm.timess_le' ih (if fmQ k = true then a + 1 else a)
    have h1 := Tm.timess_le m a
    rw [Fm.times_mk, Fm.count_mk]
    omega
theorem Fm.timess_le (l : List Fm) (a : Int) : 0 ≤ Fm.timess l a ∧ Fm.timess l a ≤ Fm.counts l := Fm.timess_le' (fun x _ => x.times_le) a
def i136a (t : Tm) (a n : Int) (σ : List Frm) : St → Prop
  | ⟨env, loc, σ', _⟩ => env 1 = .one (.int .i64 a) ∧ env 2 = .one (.box σ.length 2 0 0) ∧ env 5 = .one (.int .i64 n) ∧ loc 2 = [encT t] ∧ σ' = σ
def i136 (t : Tm) (l : List Tm) (a n a' : Int) (σ : List Frm) (j : Nat) : St → Prop
  | ⟨env, loc, σ', _⟩ => env 1 = .one (.int .i64 a) ∧ env 2 = .one (.box σ.length 2 0 0) ∧ env 5 = .one (.int .i64 (n + Tm.timess (l.take j) a')) ∧ env 20 = .one (.slice .no 5 (l.map encT)) ∧ env 21 = .one (.int .i64 l.length) ∧ env 22 = .one (.int .i64 j) ∧ loc 2 = [encT t] ∧ σ' = σ
theorem c136 (t : Tm) : t.size ≤ 1099511627776 → ∀ (a : Int), 0 ≤ a → a + t.size ≤ 4398046511104 → ∀ (σ : List Frm), CallsV cfg 136 [.agg (encT t), .one (.int .i64 a)] σ (.val (.one (.int .i64 (t.times a)))) σ := by
  induction t using Tm.ind with
  | _ k i s l ih =>
  intro hsz a ha0 ha1 σ
  simp at hsz ha1
  have hlen := Tm.length_le l
  have hsp := s.size_pos
  have hcl := Tm.counts_le l
  refine w136 (by simp) ?_
  rw [s136, Tm.times_mk, bump_eq]
  obtain ⟨hd0, hd1⟩ := bump_le k
  refine cut3 (i136a (.mk k i s l) a (if k = 1 ∧ i = a then 1 else 0) σ) ?_ ?_
  · by_cases hk : k = 1
    · subst hk
      by_cases hfi : i = a
      · subst hfi
        simp
        rw [wrap_id (by omega) (by omega)]
        exact ⟨by simp, by simp, by simp, by simp, rfl⟩
      · simp [hfi]
        exact ⟨by simp, by simp, by simp, by simp, rfl⟩
    · simp [hk]
      exact ⟨by simp, by simp, by simp, by simp, rfl⟩
  · rintro ⟨env, loc, σ', live⟩ ⟨e1, e2, e5, h2, rfl⟩
    simp [e1, e2, e5, h2]
    have hn : ∀ n : Int, n = (if k = 1 ∧ i = a then 1 else 0) → 0 ≤ n ∧ n ≤ 1 := fun n h => by subst h; split <;> omega
    generalize (if k = 1 ∧ i = a then (1 : Int) else 0) = n at *
    have hn' := hn n rfl
    refine wpP_range l.length (i136 (.mk k i s l) l a n (a + bump k) σ') (by omega) ⟨by simp [e1], by simp [e2], by simp [e5, Tm.timess], by simp, by simp, by simp, by simp [h2], rfl⟩ ?_ ?_ (hend := ?_)
    · rintro j ⟨env, loc, σ', live⟩ ⟨e1, e2, e5, e20, e21, e22, h2, rfl⟩
      exact ⟨e22, e21⟩
    · rintro j ⟨env, loc, σ', live⟩ hj ⟨e1, e2, e5, e20, e21, e22, h2, rfl⟩
      obtain ⟨x, hx, hdr, hm⟩ := drop_cons hj
      have := Tm.sizes_mem hm
      have ht := Tm.timess_take (a + bump k) hx
      have hb1 := Tm.timess_le (l.take (j + 1)) (a + bump k)
      have hb2 := Tm.counts_take_le l (j + 1)
      have hb3 := Tm.timess_le (l.take j) (a + bump k)
      have hb4 := x.times_le (a + bump k)
      simp [e1, e2, e5, e20, e21, e22, hx]
      refine wpP_draw (fun _ _ _ => false) ?_
      simp [e1, e2, e5, e20, e21, e22, h2]
      refine stepD_call (c154 k i s l _) (by simp) ?_
      simp [e1, e2, e5, e20, e21, e22, h2]
      rw [wrap_id (by omega) (by omega)]
      refine stepD_call (ih x hm (by omega) (a + bump k) (by omega) (by omega) _) (by simp) ?_
      simp [e1, e2, e5, e20, e21, e22, h2]
      rw [wrap_id (by omega) (by omega)]
      exact ⟨by simp, by simp, by simp [ht]; omega, by simp, by simp, by simp, by simp [h2], rfl⟩
    · rintro ⟨env, loc, σ', live⟩ ⟨e1, e2, e5, e20, e21, e22, h2, rfl⟩
      rw [List.take_length] at e5
      simp [e5]
def i137 (t s' : Tm) (k i : Int) (s : Ty) (l : List Tm) (a d d' : Int) (σ : List Frm) (j : Nat) : St → Prop
  | ⟨env, loc, σ', live⟩ => ∃ ow, env 1 = .one (.int .i64 a) ∧ env 2 = .one (.int .i64 d) ∧ env 4 = .one (.box σ.length 4 0 0) ∧ env 7 = .one (.box σ.length 7 0 0) ∧ env 8 = .one (.box σ.length 8 0 0) ∧ env 9 = .one (.box σ.length 9 0 0) ∧ env 45 = .one (.slice .no 5 (l.map encT)) ∧ env 46 = .one (.int .i64 l.length) ∧ env 47 = .one (.int .i64 j) ∧
    loc 4 = [encT t] ∧ loc 7 = [encT s'] ∧ loc 8 = [z62] ∧ loc 9 = [.int .i64 k :: .int .i64 i :: (enc s ++ [.slice ow 5 ((l.take j).map fun x => encT (x.put a d' s'))])] ∧ σ' = σ ∧ okOwn live ow
theorem c137 (s' : Tm) (hs1 : s'.size ≤ 549755813888) (hs2 : s'.ok = true) (hs3 : s'.least 536870912 = true) (a : Int) (ha0 : 0 ≤ a) (ha1 : a ≤ 4096) (t : Tm) : t.ok = true → t.least 536870912 = true → ∀ (d : Int), 0 ≤ d → d + t.size ≤ 549755813888 → ∀ (σ : List Frm), CallsV cfg 137 [.agg (encT t), .one (.int .i64 a), .one (.int .i64 d), .agg (encT s')] σ (.val (.agg (encT (t.put a d s')))) σ := by
  induction t using Tm.ind with
  | _ k i s l ih =>
  intro hok hle d hd0 hd1 σ
  simp at hd1
  have hlen := Tm.length_le l
  have hsp := s.size_pos
  obtain ⟨hi0, hpo⟩ := Tm.ok_parts hok
  obtain ⟨hi1, hpl⟩ := Tm.least_parts hle
  refine w137 (by simp) ?_
  rw [s137, Tm.put_mk, bump_eq]
  obtain ⟨hb0, hb1⟩ := bump_le k
  by_cases hk : k = 1
  · subst hk
    simp
    rw [wrap_id (by omega) (by omega)]
    by_cases h1 : i = a + d
    · subst h1
      simp
      refine opV_call (c133 s' (by omega) hs2 hs3 0 (a + d) (by omega) (by omega) (by omega) (by omega) _) (by simp) ?_
      simp
    · have h1' : (i == a + d) = false := by simpa using h1
      simp [h1, h1']
      rw [wrap_id (by omega) (by omega)]
      by_cases h2 : a + d < i
      · simp [h2]
        refine opV_call (c93 (i - 1) _) (by simp) ?_
        simp
      · simp [h2]
  · simp [hk]
    refine wpP_range l.length (i137 (.mk k i s l) s' k i s l a d (d + bump k) σ) (by omega) ⟨.full, by simp, by simp, by simp, by simp, by simp, by simp, by simp, by simp, by simp, by simp, by simp, by simp [z62], by simp, rfl, by simp⟩ ?_ ?_ (hend := ?_)
    · rintro j ⟨env, loc, σ', live⟩ ⟨ow, e1, e2, e4, e7, e8, e9, e45, e46, e47, h4, h7, h8, h9, rfl, how⟩
      exact ⟨e47, e46⟩
    · rintro j ⟨env, loc, σ', live⟩ hj ⟨ow, e1, e2, e4, e7, e8, e9, e45, e46, e47, h4, h7, h8, h9, rfl, how⟩
      obtain ⟨x, hx, hdr, hm⟩ := drop_cons hj
      have := Tm.sizes_mem hm
      simp [e1, e2, e4, e7, e8, e9, e45, e46, e47, hx]
      refine wpP_draw (fun _ _ _ => false) ?_
      simp [e1, e2, e4, e7, e8, e9, e45, e46, e47, h4, h7, h9]
      refine stepD_call (c154 k i s l _) (by simp) ?_
      simp [e1, e2, e4, e7, e8, e9, e45, e46, e47, h4, h7, h9]
      rw [wrap_id (by omega) (by omega)]
      refine stepD_call (ih x hm (hpo x hm) (hpl x hm) (d + bump k) (by omega) (by omega) _) (by simp) ?_
      simp [e1, e2, e4, e7, e8, e9, e45, e46, e47, h4, h7, h9, how]
      exact ⟨by omega, by omega, .tip live.nx, by simp, by simp, by simp, by simp, by simp, by simp, by simp, by simp, by simp, by simp [h4], by simp [h7], by simp [h8], by simp [List.take_add_one, hx], rfl, grown_on⟩
    · rintro ⟨env, loc, σ', live⟩ ⟨ow, e1, e2, e4, e7, e8, e9, e45, e46, e47, h4, h7, h8, h9, rfl, how⟩
      simp [e8, e9, h8, h9, z62]
def i87 (l : List Tm) (m : Int) (σ : List Frm) (j : Nat) : St → Prop
  | ⟨env, _, σ', _⟩ => env 1 = .one (.int .i64 m) ∧ env 12 = .one (.slice .no 5 (l.map encT)) ∧ env 13 = .one (.int .i64 l.length) ∧ env 14 = .one (.int .i64 j) ∧ σ' = σ ∧ Tm.leasts l m = Tm.leasts (l.drop j) m
theorem c87 (m : Int) (t : Tm) : t.size ≤ 1099511627776 → ∀ (σ : List Frm), CallsV cfg 87 [.agg (encT t), .one (.int .i64 m)] σ (.val (.one (.bool (t.least m)))) σ := by
  induction t using Tm.ind with
  | _ k i s l ih =>
  intro hsz σ
  simp at hsz
  have hlen := Tm.length_le l
  refine w87 (by simp) ?_
  rw [s87, Tm.least_mk]
  by_cases hi : m < i
  · have hi' : ¬ i ≤ m := by omega
    simp [hi, hi']
  have hi' : i ≤ m := by omega
  simp [hi, hi']
  refine wpP_range l.length (i87 l m σ) (by omega) ⟨by simp, by simp, by simp, by simp, rfl, by simp⟩ ?_ ?_ (hend := ?_)
  · rintro j ⟨env, loc, σ', live⟩ ⟨e1, e12, e13, e14, rfl, hs⟩
    exact ⟨e14, e13⟩
  · rintro j ⟨env, loc, σ', live⟩ hj ⟨e1, e12, e13, e14, rfl, hs⟩
    obtain ⟨x, hx, hdr, hm⟩ := drop_cons hj
    have := Tm.sizes_mem hm
    rw [hdr, Tm.leasts] at hs
    simp [e1, e12, e13, e14, hx]
    refine opV_call (ih x hm (by omega) _) (by simp) ?_
    cases hl : x.least m with
    | true =>
      rw [hl, Bool.true_and] at hs
      simp [e1, e12, e13, e14]
      exact ⟨by simp, by simp, by simp, by simp, rfl, hs⟩
    | false =>
      rw [hl, Bool.false_and] at hs
      simp [hs]
  · rintro ⟨env, loc, σ', live⟩ ⟨e1, e12, e13, e14, rfl, hs⟩
    rw [List.drop_length] at hs
    simp [hs, Tm.leasts]
def i83a (f : Fm) (l : List Tm) (m : Int) (σ : List Frm) (j : Nat) : St → Prop
  | ⟨env, loc, σ', _⟩ => env 1 = .one (.int .i64 m) ∧ env 2 = .one (.box σ.length 2 0 0) ∧ env 10 = .one (.slice .no 5 (l.map encT)) ∧ env 11 = .one (.int .i64 l.length) ∧ env 12 = .one (.int .i64 j) ∧ loc 2 = [encF f] ∧ σ' = σ ∧ Tm.leasts l m = Tm.leasts (l.drop j) m
def i83b (l : List Fm) (m : Int) (σ : List Frm) (j : Nat) : St → Prop
  | ⟨env, _, σ', _⟩ => env 1 = .one (.int .i64 m) ∧ env 22 = .one (.slice .no 5 (l.map encF)) ∧ env 23 = .one (.int .i64 l.length) ∧ env 24 = .one (.int .i64 j) ∧ σ' = σ ∧ Fm.leasts l m = Fm.leasts (l.drop j) m
theorem c83 (m : Int) (f : Fm) : f.size ≤ 1099511627776 → ∀ (σ : List Frm), CallsV cfg 83 [.agg (encF f), .one (.int .i64 m)] σ (.val (.one (.bool (f.least m)))) σ := by
  induction f using Fm.ind with
  | _ k s a l ih =>
  intro hsz σ
  simp at hsz
  have hla := Tm.length_le a
  have hll := Fm.length_le l
  refine w83 (by simp) ?_
  rw [s83, Fm.least_mk]
  simp
  refine wpP_range a.length (i83a (.mk k s a l) a m σ) (by omega) ⟨by simp, by simp, by simp, by simp, by simp, by simp, rfl, by simp⟩ ?_ ?_ (hend := ?_)
  · rintro j ⟨env, loc, σ', live⟩ ⟨e1, e2, e10, e11, e12, h2, rfl, hs⟩
    exact ⟨e12, e11⟩
  · rintro j ⟨env, loc, σ', live⟩ hj ⟨e1, e2, e10, e11, e12, h2, rfl, hs⟩
    obtain ⟨x, hx, hdr, hm⟩ := drop_cons hj
    have := Tm.sizes_mem hm
    rw [hdr, Tm.leasts] at hs
    simp [e1, e2, e10, e11, e12, hx]
    refine opV_call (c87 m x (by omega) _) (by simp) ?_
    cases hl : x.least m with
    | true =>
      rw [hl, Bool.true_and] at hs
      simp [e1, e2, e10, e11, e12]
      exact ⟨by simp, by simp, by simp, by simp, by simp, by simp [h2], rfl, hs⟩
    | false =>
      rw [hl, Bool.false_and] at hs
      simp [hs]
  · rintro ⟨env, loc, σ', live⟩ ⟨e1, e2, e10, e11, e12, h2, rfl, hs⟩
    rw [List.drop_length] at hs
    rw [hs]
    simp [e1, e2, h2, Tm.leasts]
    refine wpP_range l.length (i83b l m σ') (by omega) ⟨by simp [e1], by simp, by simp, by simp, rfl, by simp⟩ ?_ ?_ (hend := ?_)
    · rintro j ⟨env, loc, σ', live⟩ ⟨e1, e22, e23, e24, rfl, hs⟩
      exact ⟨e24, e23⟩
    · rintro j ⟨env, loc, σ', live⟩ hj ⟨e1, e22, e23, e24, rfl, hs⟩
      obtain ⟨x, hx, hdr, hm⟩ := drop_cons hj
      have := Fm.sizes_mem hm
      rw [hdr, Fm.leasts] at hs
      simp [e1, e22, e23, e24, hx]
      refine opV_call (ih x hm (by omega) _) (by simp) ?_
      cases hl : x.least m with
      | true =>
        rw [hl, Bool.true_and] at hs
        simp [e1, e22, e23, e24]
        exact ⟨by simp, by simp, by simp, by simp, rfl, hs⟩
      | false =>
        rw [hl, Bool.false_and] at hs
        simp [hs]
    · rintro ⟨env, loc, σ', live⟩ ⟨e1, e22, e23, e24, rfl, hs⟩
      rw [List.drop_length] at hs
      simp [hs, Fm.leasts]
end Go.Proofs.YtbcejphjmghkbaaDoor.V


set_option maxRecDepth 100000
namespace Go.Proofs.YtbcejphjmghkbaaDoor.V
open Go Go.Proofs
theorem Fm.ok_parts {k : Int} {t : Ty} {m : List Tm} {l : List Fm} (h : (Fm.mk k t m l).ok = true) : (∀ x ∈ m, x.ok = true) ∧ ∀ x ∈ l, x.ok = true := by
  simp only [Fm.ok_mk, Bool.and_eq_true, Tm.oks_iff, Fm.oks_iff] at h
  exact h.2
theorem Fm.least_parts {k : Int} {t : Ty} {a : List Tm} {l : List Fm} {m : Int} (h : (Fm.mk k t a l).least m = true) : (∀ x ∈ a, x.least m = true) ∧ ∀ x ∈ l, x.least m = true := by
  simp only [Fm.least_mk, Bool.and_eq_true, Tm.leasts_iff, Fm.leasts_iff] at h
  exact h
def i85a (f : Fm) (k : Int) (t : Ty) (m : List Tm) (fr b : Int) (σ : List Frm) (j : Nat) : St → Prop
  | ⟨env, loc, σ', live⟩ => ∃ ow, env 1 = .one (.int .i64 fr) ∧ env 2 = .one (.int .i64 b) ∧ env 3 = .one (.box σ.length 3 0 0) ∧ env 6 = .one (.box σ.length 6 0 0) ∧ env 7 = .one (.box σ.length 7 0 0) ∧ env 18 = .one (.slice .no 5 (m.map encT)) ∧ env 19 = .one (.int .i64 m.length) ∧ env 20 = .one (.int .i64 j) ∧
    loc 3 = [encF f] ∧ loc 6 = [z29] ∧ loc 7 = [.int .i64 k :: (enc t ++ [.slice ow 5 ((m.take j).map fun x => encT (x.up fr b)), .slice .full 5 []])] ∧ σ' = σ ∧ okOwn live ow
def i85b (f : Fm) (k : Int) (t : Ty) (m : List Tm) (l : List Fm) (fr b fr' : Int) (σ : List Frm) (j : Nat) : St → Prop
  | ⟨env, loc, σ', live⟩ => ∃ ow o, env 1 = .one (.int .i64 fr) ∧ env 2 = .one (.int .i64 b) ∧ env 3 = .one (.box σ.length 3 0 0) ∧ env 6 = .one (.box σ.length 6 0 0) ∧ env 7 = .one (.box σ.length 7 0 0) ∧ env 35 = .one (.slice .no 5 (l.map encF)) ∧ env 36 = .one (.int .i64 l.length) ∧ env 37 = .one (.int .i64 j) ∧
    loc 3 = [encF f] ∧ loc 6 = [z29] ∧ loc 7 = [.int .i64 k :: (enc t ++ [.slice o 5 (m.map fun x => encT (x.up fr b)), .slice ow 5 ((l.take j).map fun x => encF (x.up fr' b))])] ∧ σ' = σ ∧ okOwn live ow
theorem c85 (f : Fm) : f.size ≤ 1099511627776 → f.ok = true → f.least 536870912 = true → ∀ (fr b : Int), 0 ≤ fr → fr + f.size ≤ 4398046511104 → -1099511627776 ≤ b → b ≤ 1099511627776 → ∀ (σ : List Frm), CallsV cfg 85 [.agg (encF f), .one (.int .i64 fr), .one (.int .i64 b)] σ (.val (.agg (encF (f.up fr b)))) σ := by
  induction f using Fm.ind with
  | _ k t m l ih =>
  intro hsz hok hle fr b hf0 hf1 hb0 hb1 σ
  simp at hsz hf1
  have hlm := Tm.length_le m
  have hll := Fm.length_le l
  have hsp := t.size_pos
  obtain ⟨hpo, hqo⟩ := Fm.ok_parts hok
  obtain ⟨hpl, hql⟩ := Fm.least_parts hle
  refine w85 (by simp) ?_
  rw [s85, Fm.up_mk, bumpF_eq]
  obtain ⟨hd0, hd1⟩ := bumpF_le k
  simp
  refine wpP_range m.length (i85a (.mk k t m l) k t m fr b σ) (by omega) ⟨.full, by simp, by simp, by simp, by simp, by simp, by simp, by simp, by simp, by simp, by simp [z29], by simp, rfl, by simp⟩ ?_ ?_ (hend := ?_)
  · rintro j ⟨env, loc, σ', live⟩ ⟨ow, e1, e2, e3, e6, e7, e18, e19, e20, h3, h6, h7, rfl, how⟩
    exact ⟨e20, e19⟩
  · rintro j ⟨env, loc, σ', live⟩ hj ⟨ow, e1, e2, e3, e6, e7, e18, e19, e20, h3, h6, h7, rfl, how⟩
    obtain ⟨x, hx, hdr, hm⟩ := drop_cons hj
    have := Tm.sizes_mem hm
    simp [e1, e2, e3, e6, e7, e18, e19, e20, hx]
    refine wpP_draw (fun _ _ _ => false) ?_
    simp [e1, e2, e3, e6, e7, h3, h7]
    refine stepD_call (c133 x (by omega) (hpo x hm) (hpl x hm) fr b (by omega) (by omega) hb0 hb1 _) (by simp) ?_
    simp [how, e1, e2, e3, e6, e7, h3, h7]
    exact ⟨by omega, by omega, .tip live.nx, by simp, by simp, by simp, by simp, by simp, by simp, by simp, by simp, by simp [h3], by simp [h6], by simp [List.take_add_one, hx], rfl, grown_on⟩
  · rintro ⟨env, loc, σ', live⟩ ⟨ow, e1, e2, e3, e6, e7, e18, e19, e20, h3, h6, h7, rfl, how⟩
    simp [e1, e2, e3, e6, e7, h3, h6, h7]
    refine wpP_range l.length (i85b (.mk k t m l) k t m l fr b (fr + bumpF k) σ') (by omega) ⟨.full, ow, by simp, by simp, by simp, by simp, by simp, by simp, by simp, by simp, by simp [h3], by simp [h6], by simp [h7], rfl, by simp⟩ ?_ ?_ (hend := ?_)
    · rintro j ⟨env, loc, σ', live⟩ ⟨ow, o, e1, e2, e3, e6, e7, e35, e36, e37, h3, h6, h7, rfl, how⟩
      exact ⟨e37, e36⟩
    · rintro j ⟨env, loc, σ', live⟩ hj ⟨ow, o, e1, e2, e3, e6, e7, e35, e36, e37, h3, h6, h7, rfl, how⟩
      obtain ⟨x, hx, hdr, hm⟩ := drop_cons hj
      have := Fm.sizes_mem hm
      simp [e1, e2, e3, e6, e7, e35, e36, e37, hx]
      refine wpP_draw (fun _ _ _ => false) ?_
      simp [e1, e2, e3, e6, e7, h3, h7]
      refine stepD_call (c134 k t m l _) (by simp) ?_
      simp [e1, e2, e3, e6, e7, h3, h7]
      rw [wrap_id (by omega) (by omega)]
      refine stepD_call (ih x hm (by omega) (hqo x hm) (hql x hm) (fr + bumpF k) b (by omega) (by omega) hb0 hb1 _) (by simp) ?_
      simp [how, e1, e2, e3, e6, e7, h3, h7]
      exact ⟨by omega, by omega, .tip live.nx, o, by simp, by simp, by simp, by simp, by simp, by simp, by simp, by simp, by simp [h3], by simp [h6], by simp [List.take_add_one, hx], rfl, grown_on⟩
    · rintro ⟨env, loc, σ', live⟩ ⟨ow, o, e1, e2, e3, e6, e7, e35, e36, e37, h3, h6, h7, rfl, how⟩
      simp [e6, e7, h6, h7, z29]
def i89a (f : Fm) (m : List Tm) (a : Int) (σ : List Frm) (j : Nat) : St → Prop
  | ⟨env, loc, σ', _⟩ => env 1 = .one (.int .i64 a) ∧ env 2 = .one (.box σ.length 2 0 0) ∧ env 5 = .one (.int .i64 (Tm.timess (m.take j) a)) ∧ env 11 = .one (.slice .no 5 (m.map encT)) ∧ env 12 = .one (.int .i64 m.length) ∧ env 13 = .one (.int .i64 j) ∧ loc 2 = [encF f] ∧ σ' = σ
def i89b (f : Fm) (l : List Fm) (a n a' : Int) (σ : List Frm) (j : Nat) : St → Prop
  | ⟨env, loc, σ', _⟩ => env 1 = .one (.int .i64 a) ∧ env 2 = .one (.box σ.length 2 0 0) ∧ env 5 = .one (.int .i64 (n + Fm.timess (l.take j) a')) ∧ env 24 = .one (.slice .no 5 (l.map encF)) ∧ env 25 = .one (.int .i64 l.length) ∧ env 26 = .one (.int .i64 j) ∧ loc 2 = [encF f] ∧ σ' = σ
theorem c89 (f : Fm) : f.size ≤ 1099511627776 → ∀ (a : Int), 0 ≤ a → a + f.size ≤ 4398046511104 → ∀ (σ : List Frm), CallsV cfg 89 [.agg (encF f), .one (.int .i64 a)] σ (.val (.one (.int .i64 (f.times a)))) σ := by
  induction f using Fm.ind with
  | _ k t m l ih =>
  intro hsz a ha0 ha1 σ
  simp at hsz ha1
  have hlm := Tm.length_le m
  have hll := Fm.length_le l
  have hsp := t.size_pos
  have hcm := Tm.counts_le m
  have hcl := Fm.counts_le l
  refine w89 (by simp) ?_
  rw [s89, Fm.times_mk, bumpF_eq]
  obtain ⟨hd0, hd1⟩ := bumpF_le k
  simp
  refine wpP_range m.length (i89a (.mk k t m l) m a σ) (by omega) ⟨by simp, by simp, by simp [Tm.timess], by simp, by simp, by simp, by simp, rfl⟩ ?_ ?_ (hend := ?_)
  · rintro j ⟨env, loc, σ', live⟩ ⟨e1, e2, e5, e11, e12, e13, h2, rfl⟩
    exact ⟨e13, e12⟩
  · rintro j ⟨env, loc, σ', live⟩ hj ⟨e1, e2, e5, e11, e12, e13, h2, rfl⟩
    obtain ⟨x, hx, hdr, hm⟩ := drop_cons hj
    have := Tm.sizes_mem hm
    have ht := Tm.timess_take a hx
    have hb1 := Tm.timess_le (m.take (j + 1)) a
    have hb2 := Tm.counts_take_le m (j + 1)
    have hb3 := Tm.timess_le (m.take j) a
    have hb4 := x.times_le a
    simp [e1, e2, e5, e11, e12, e13, hx]
    refine opV_call (c136 x (by omega) a (by omega) (by omega) _) (by simp) ?_
    simp [e1, e2, e5, e11, e12, e13]
    rw [wrap_id (by omega) (by omega)]
    exact ⟨by simp, by simp, by simp [ht], by simp, by simp, by simp, by simp [h2], rfl⟩
  · rintro ⟨env, loc, σ', live⟩ ⟨e1, e2, e5, e11, e12, e13, h2, rfl⟩
    rw [List.take_length] at e5
    simp [e1, e2, e5, h2]
    have hn := Tm.timess_le m a
    generalize Tm.timess m a = n at *
    refine wpP_range l.length (i89b (.mk k t m l) l a n (a + bumpF k) σ') (by omega) ⟨by simp, by simp, by simp [Fm.timess], by simp, by simp, by simp, by simp [h2], rfl⟩ ?_ ?_ (hend := ?_)
    · rintro j ⟨env, loc, σ', live⟩ ⟨e1, e2, e5, e24, e25, e26, h2, rfl⟩
      exact ⟨e26, e25⟩
    · rintro j ⟨env, loc, σ', live⟩ hj ⟨e1, e2, e5, e24, e25, e26, h2, rfl⟩
      obtain ⟨x, hx, hdr, hm⟩ := drop_cons hj
      have := Fm.sizes_mem hm
      have ht := Fm.timess_take (a + bumpF k) hx
      have hb1 := Fm.timess_le (l.take (j + 1)) (a + bumpF k)
      have hb2 := Fm.counts_take_le l (j + 1)
      have hb3 := Fm.timess_le (l.take j) (a + bumpF k)
      have hb4 := x.times_le (a + bumpF k)
      simp [e1, e2, e5, e24, e25, e26, hx]
      refine wpP_draw (fun _ _ _ => false) ?_
      simp [e1, e2, e5, e24, e25, e26, h2]
      refine stepD_call (c134 k t m l _) (by simp) ?_
      simp [e1, e2, e5, e24, e25, e26, h2]
      rw [wrap_id (by omega) (by omega)]
      refine stepD_call (ih x hm (by omega) (a + bumpF k) (by omega) (by omega) _) (by simp) ?_
      simp [e1, e2, e5, e24, e25, e26, h2]
      rw [wrap_id (by omega) (by omega)]
      exact ⟨by simp, by simp, by simp [ht]; omega, by simp, by simp, by simp, by simp [h2], rfl⟩
    · rintro ⟨env, loc, σ', live⟩ ⟨e1, e2, e5, e24, e25, e26, h2, rfl⟩
      rw [List.take_length] at e5
      simp [e5]
def i91a (f : Fm) (s' : Tm) (k : Int) (t : Ty) (m : List Tm) (a d : Int) (σ : List Frm) (j : Nat) : St → Prop
  | ⟨env, loc, σ', live⟩ => ∃ ow, env 1 = .one (.int .i64 a) ∧ env 2 = .one (.int .i64 d) ∧ env 4 = .one (.box σ.length 4 0 0) ∧ env 7 = .one (.box σ.length 7 0 0) ∧ env 8 = .one (.box σ.length 8 0 0) ∧ env 9 = .one (.box σ.length 9 0 0) ∧ env 20 = .one (.slice .no 5 (m.map encT)) ∧ env 21 = .one (.int .i64 m.length) ∧ env 22 = .one (.int .i64 j) ∧
    loc 4 = [encF f] ∧ loc 7 = [encT s'] ∧ loc 8 = [z29] ∧ loc 9 = [.int .i64 k :: (enc t ++ [.slice ow 5 ((m.take j).map fun x => encT (x.put a d s')), .slice .full 5 []])] ∧ σ' = σ ∧ okOwn live ow
def i91b (f : Fm) (s' : Tm) (k : Int) (t : Ty) (m : List Tm) (l : List Fm) (a d d' : Int) (σ : List Frm) (j : Nat) : St → Prop
  | ⟨env, loc, σ', live⟩ => ∃ ow o, env 1 = .one (.int .i64 a) ∧ env 2 = .one (.int .i64 d) ∧ env 4 = .one (.box σ.length 4 0 0) ∧ env 7 = .one (.box σ.length 7 0 0) ∧ env 8 = .one (.box σ.length 8 0 0) ∧ env 9 = .one (.box σ.length 9 0 0) ∧ env 38 = .one (.slice .no 5 (l.map encF)) ∧ env 39 = .one (.int .i64 l.length) ∧ env 40 = .one (.int .i64 j) ∧
    loc 4 = [encF f] ∧ loc 7 = [encT s'] ∧ loc 8 = [z29] ∧ loc 9 = [.int .i64 k :: (enc t ++ [.slice o 5 (m.map fun x => encT (x.put a d s')), .slice ow 5 ((l.take j).map fun x => encF (x.put a d' s'))])] ∧ σ' = σ ∧ okOwn live ow
theorem c91 (s' : Tm) (hs1 : s'.size ≤ 549755813888) (hs2 : s'.ok = true) (hs3 : s'.least 536870912 = true) (a : Int) (ha0 : 0 ≤ a) (ha1 : a ≤ 4096) (f : Fm) : f.ok = true → f.least 536870912 = true → ∀ (d : Int), 0 ≤ d → d + f.size ≤ 549755813888 → ∀ (σ : List Frm), CallsV cfg 91 [.agg (encF f), .one (.int .i64 a), .one (.int .i64 d), .agg (encT s')] σ (.val (.agg (encF (f.put a d s')))) σ := by
  induction f using Fm.ind with
  | _ k t m l ih =>
  intro hok hle d hd0 hd1 σ
  simp at hd1
  have hlm := Tm.length_le m
  have hll := Fm.length_le l
  have hsp := t.size_pos
  obtain ⟨hpo, hqo⟩ := Fm.ok_parts hok
  obtain ⟨hpl, hql⟩ := Fm.least_parts hle
  refine w91 (by simp) ?_
  rw [s91, Fm.put_mk, bumpF_eq]
  obtain ⟨hb0, hb1⟩ := bumpF_le k
  simp
  refine wpP_range m.length (i91a (.mk k t m l) s' k t m a d σ) (by omega) ⟨.full, by simp, by simp, by simp, by simp, by simp, by simp, by simp, by simp, by simp, by simp, by simp, by simp [z29], by simp, rfl, by simp⟩ ?_ ?_ (hend := ?_)
  · rintro j ⟨env, loc, σ', live⟩ ⟨ow, e1, e2, e4, e7, e8, e9, e20, e21, e22, h4, h7, h8, h9, rfl, how⟩
    exact ⟨e22, e21⟩
  · rintro j ⟨env, loc, σ', live⟩ hj ⟨ow, e1, e2, e4, e7, e8, e9, e20, e21, e22, h4, h7, h8, h9, rfl, how⟩
    obtain ⟨x, hx, hdr, hm⟩ := drop_cons hj
    have := Tm.sizes_mem hm
    simp [e1, e2, e4, e7, e8, e9, e20, e21, e22, hx]
    refine wpP_draw (fun _ _ _ => false) ?_
    simp [e1, e2, e4, e7, e8, e9, h4, h7, h9]
    refine stepD_call (c137 s' hs1 hs2 hs3 a ha0 ha1 x (hpo x hm) (hpl x hm) d (by omega) (by omega) _) (by simp) ?_
    simp [how, e1, e2, e4, e7, e8, e9, h4, h7, h9]
    exact ⟨by omega, by omega, .tip live.nx, by simp, by simp, by simp, by simp, by simp, by simp, by simp, by simp, by simp, by simp [h4], by simp [h7], by simp [h8], by simp [List.take_add_one, hx], rfl, grown_on⟩
  · rintro ⟨env, loc, σ', live⟩ ⟨ow, e1, e2, e4, e7, e8, e9, e20, e21, e22, h4, h7, h8, h9, rfl, how⟩
    simp [e1, e2, e4, e7, e8, e9, h4, h7, h8, h9]
    refine wpP_range l.length (i91b (.mk k t m l) s' k t m l a d (d + bumpF k) σ') (by omega) ⟨.full, ow, by simp, by simp, by simp, by simp, by simp, by simp, by simp, by simp, by simp, by simp [h4], by simp [h7], by simp [h8], by simp [h9], rfl, by simp⟩ ?_ ?_ (hend := ?_)
    · rintro j ⟨env, loc, σ', live⟩ ⟨ow, o, e1, e2, e4, e7, e8, e9, e38, e39, e40, h4, h7, h8, h9, rfl, how⟩
      exact ⟨e40, e39⟩
    · rintro j ⟨env, loc, σ', live⟩ hj ⟨ow, o, e1, e2, e4, e7, e8, e9, e38, e39, e40, h4, h7, h8, h9, rfl, how⟩
      obtain ⟨x, hx, hdr, hm⟩ := drop_cons hj
      have := Fm.sizes_mem hm
      simp [e1, e2, e4, e7, e8, e9, e38, e39, e40, hx]
      refine wpP_draw (fun _ _ _ => false) ?_
      simp [e1, e2, e4, e7, e8, e9, h4, h7, h9]
      refine stepD_call (c134 k t m l _) (by simp) ?_
      simp [e1, e2, e4, e7, e8, e9, h4, h7, h9]
      rw [wrap_id (by omega) (by omega)]
      refine stepD_call (ih x hm (hqo x hm) (hql x hm) (d + bumpF k) (by omega) (by omega) _) (by simp) ?_
      simp [how, e1, e2, e4, e7, e8, e9, h4, h7, h9]
      exact ⟨by omega, by omega, .tip live.nx, o, by simp, by simp, by simp, by simp, by simp, by simp, by simp, by simp, by simp, by simp [h4], by simp [h7], by simp [h8], by simp [List.take_add_one, hx], rfl, grown_on⟩
    · rintro ⟨env, loc, σ', live⟩ ⟨ow, o, e1, e2, e4, e7, e8, e9, e38, e39, e40, h4, h7, h8, h9, rfl, how⟩
      simp [e8, e9, h8, h9, z29]
theorem c82 (σ : List Frm) : CallsV cfg 82 [] σ (.val (.agg (enc .nat))) σ := by
  refine w82 (by simp) ?_
  rw [s82]
  simp [Ty.nat]
theorem c34 (σ : List Frm) : CallsV cfg 34 [] σ (.val (.agg (enc .nat))) σ := by
  refine w34 (by simp) ?_
  rw [s34]
  simp
  refine opV_call (c82 _) (by simp) ?_
  simp
theorem Tm.sizes_map {f : Tm → Tm} {l : List Tm} (h : ∀ x ∈ l, (f x).size = x.size) : Tm.sizes (l.map f) = Tm.sizes l := by
  induction l with
  | nil => simp
  | cons x l ih => simp [h x (by simp), ih fun y hy => h y (by simp [hy])]
theorem Fm.sizes_map {f : Fm → Fm} {l : List Fm} (h : ∀ x ∈ l, (f x).size = x.size) : Fm.sizes (l.map f) = Fm.sizes l := by
  induction l with
  | nil => simp
  | cons x l ih => simp [h x (by simp), ih fun y hy => h y (by simp [hy])]
theorem Tm.up_size (t : Tm) : ∀ a b, (t.up a b).size = t.size := by
  induction t using Tm.ind with
  | _ k i t l ih =>
    intro a b
    rw [Tm.up_mk]
    simp [Tm.sizes_map fun x hx => ih x hx _ _]
theorem Fm.up_size (f : Fm) : ∀ a b, (f.up a b).size = f.size := by
  induction f using Fm.ind with
  | _ k t m l ih =>
    intro a b
    rw [Fm.up_mk]
    simp [Tm.sizes_map fun x _ => Tm.up_size x _ _, Fm.sizes_map fun x hx => ih x hx _ _]
theorem Tm.puts_size {s : Tm} {l : List Tm} {a d d' : Int} (h : ∀ x ∈ l, ((x.put a d s).size : Int) ≤ x.size + x.times d' * (s.size : Int)) : (Tm.sizes (l.map fun x => x.put a d s) : Int) ≤ Tm.sizes l + Tm.timess l d' * (s.size : Int) := by
  induction l with
  | nil => simp [Tm.timess]
  | cons x l ih =>
    have h1 := h x (by simp)
    have h2 := ih fun y hy => h y (by simp [hy])
    simp only [List.map_cons, Tm.sizes_cons, Tm.timess, Int.natCast_add, Int.add_mul]
    omega
theorem Fm.puts_size {s : Tm} {l : List Fm} {a d d' : Int} (h : ∀ x ∈ l, ((x.put a d s).size : Int) ≤ x.size + x.times d' * (s.size : Int)) : (Fm.sizes (l.map fun x => x.put a d s) : Int) ≤ Fm.sizes l + Fm.timess l d' * (s.size : Int) := by
  induction l with
  | nil => simp [Fm.timess]
  | cons x l ih =>
    have h1 := h x (by simp)
    have h2 := ih fun y hy => h y (by simp [hy])
    simp only [List.map_cons, Fm.sizes_cons, Fm.timess, Int.natCast_add, Int.add_mul]
    omega
theorem Tm.put_size (t : Tm) (s : Tm) : ∀ a d, ((t.put a d s).size : Int) ≤ t.size + t.times (a + d) * (s.size : Int) := by
  induction t using Tm.ind with
  | _ k i t l ih =>
    intro a d
    have h0 := t.size_pos
    rw [Tm.put_mk, Tm.times_mk]
    have hn : ∀ b, 0 ≤ Tm.timess l b * (s.size : Int) := fun b => Int.mul_nonneg (Tm.timess_le l b).1 (by omega)
    by_cases hk : k = 1
    · subst hk
      simp only [if_true, true_and]
      by_cases hi : i = a + d
      · rw [if_pos hi, if_pos hi, Tm.up_size, Int.add_mul, Int.one_mul]
        have := hn (if (1 : Int) = 2 then a + d + 1 else a + d)
        simp only [Tm.size_mk, Int.natCast_add]
        omega
      · rw [if_neg hi, if_neg hi, Int.zero_add]
        have := hn (if (1 : Int) = 2 then a + d + 1 else a + d)
        split
        · simp [Tm.var, Ty.zero] at *
          omega
        · omega
    · have hk' : ¬ (k = 1 ∧ i = a + d) := fun h => hk h.1
      have := Tm.puts_size (a := a) (d := if k = 2 then d + 1 else d) (d' := if k = 2 then a + d + 1 else a + d) (s := s) (l := l) fun x hx => by
        have e : (if k = 2 then a + d + 1 else a + d) = a + (if k = 2 then d + 1 else d) := by split <;> omega
        rw [e]
        exact ih x hx _ _
      simp only [if_neg hk, if_neg hk', Tm.size_mk, Int.natCast_add, Int.zero_add]
      omega
theorem Fm.put_size (f : Fm) (s : Tm) : ∀ a d, ((f.put a d s).size : Int) ≤ f.size + f.times (a + d) * (s.size : Int) := by
  induction f using Fm.ind with
  | _ k t m l ih =>
    intro a d
    rw [Fm.put_mk, Fm.times_mk]
    have h1 := Tm.puts_size (a := a) (d := d) (d' := a + d) (s := s) (l := m) fun x _ => Tm.put_size x s _ _
    have h2 := Fm.puts_size (a := a) (d := if fmQ k = true then d + 1 else d) (d' := if fmQ k = true then a + d + 1 else a + d) (s := s) (l := l) fun x hx => by
      have e : (if fmQ k = true then a + d + 1 else a + d) = a + (if fmQ k = true then d + 1 else d) := by split <;> omega
      rw [e]
      exact ih x hx _ _
    simp only [Fm.size_mk, Int.natCast_add, Int.add_mul]
    omega
theorem mul_le {x y : Int} {m n : Int} (hx0 : 0 ≤ x) (hx : x ≤ m) (hy0 : 0 ≤ y) (hy : y ≤ n) : 0 ≤ x * y ∧ x * y ≤ m * n :=
  ⟨Int.mul_nonneg hx0 hy0, Int.mul_le_mul hx hy hy0 (by omega)⟩
theorem c35 (f : Fm) (hsz : f.size ≤ 1099511627776) (fr b : Int) (σ : List Frm) : CallsV cfg 35 [.agg (encF f), .one (.int .i64 fr), .one (.int .i64 b)] σ (.val (.tup [.agg (encF (f.lift fr b).1), .one (.int .i64 (f.lift fr b).2)])) σ := by
  refine w35 (by simp) ?_
  rw [s35]
  simp
  refine opV_call (c77 f hsz _) (by simp) ?_
  by_cases hc : f.check = 0
  rotate_left
  · have hc' : (f.check == 0) = false := by simpa using hc
    simp [hc, hc', bne, Fm.lift, Fm.zeroF, Ty.zero]
  obtain ⟨hok, hcnt⟩ := Fm.check_ok2 hc
  by_cases h1 : fr < 0
  · simp [hc, h1, Fm.lift, Fm.zeroF, Ty.zero]
  by_cases h2 : 4096 < fr
  · simp [hc, h1, h2, Fm.lift, Fm.zeroF, Ty.zero]
  by_cases h3 : b < 0
  · simp [hc, h1, h2, h3, Fm.lift, Fm.zeroF, Ty.zero]
  by_cases h4 : 4096 < b
  · simp [hc, h1, h2, h3, h4, Fm.lift, Fm.zeroF, Ty.zero]
  simp [hc, h1, h2, h3, h4, Fm.lift]
  refine opV_call (c83 536870912 f hsz _) (by simp) ?_
  cases hl : f.least 536870912 with
  | false => simp [Fm.zeroF, Ty.zero]
  | true =>
    simp
    refine opV_call (c85 f hsz hok hl fr b (by omega) (by omega) (by omega) (by omega) _) (by simp) ?_
    simp
    refine opV_call (c84 (f.up fr b) (by rw [Fm.up_size]; exact hsz) _) (by simp) ?_
    simp
theorem c37 (f : Fm) (hsz : f.size ≤ 134217728) (a : Int) (s : Tm) (hs : s.size ≤ 134217728) (σ : List Frm) : CallsV cfg 37 [.agg (encF f), .one (.int .i64 a), .agg (encT s)] σ (.val (.tup [.agg (encF (f.putIn a s).1), .one (.int .i64 (f.putIn a s).2)])) σ := by
  refine w37 (by simp) ?_
  rw [s37]
  simp
  refine opV_call (c77 f (by omega) _) (by simp) ?_
  by_cases hc : f.check = 0
  rotate_left
  · have hc' : (f.check == 0) = false := by simpa using hc
    simp [hc, hc', bne, Fm.putIn, Fm.zeroF, Ty.zero]
  obtain ⟨hok, hcnt⟩ := Fm.check_ok2 hc
  by_cases h1 : a < 0
  · simp [hc, h1, Fm.putIn, Fm.zeroF, Ty.zero]
  by_cases h2 : 4096 < a
  · simp [hc, h1, h2, Fm.putIn, Fm.zeroF, Ty.zero]
  simp [hc, h1, h2]
  refine opV_call (c86 s (by omega) _) (by simp) ?_
  by_cases hcs : s.check = 0
  rotate_left
  · have hc' : (s.check == 0) = false := by simpa using hcs
    simp [hc, h1, h2, hcs, hc', bne, Fm.putIn, Fm.zeroF, Ty.zero]
  obtain ⟨hoks, hcnts⟩ := Tm.check_ok hcs
  simp [hcs]
  refine opV_call (c83 536870912 f (by omega) _) (by simp) ?_
  cases hl : f.least 536870912 with
  | false => simp [hc, h1, h2, hcs, hl, Fm.putIn, Fm.zeroF, Ty.zero]
  | true =>
    simp
    refine opV_call (c87 536870912 s (by omega) _) (by simp) ?_
    cases hm : s.least 536870912 with
    | false => simp [hc, h1, h2, hcs, hl, hm, Fm.putIn, Fm.zeroF, Ty.zero]
    | true =>
      have ht := f.times_le a
      have hm1 := mul_le (x := f.times a) (y := (s.count : Int) - 1) (m := 4096) (n := 4096) ht.1 (by omega) (by have : 1 ≤ s.count := (by cases s; simp); omega) (by omega)
      simp
      refine wpP_draw (fun _ _ _ => false) ?_
      simp
      refine stepD_call (c88 f (by omega) _) (by simp) ?_
      simp
      refine stepD_call (c89 f (by omega) a (by omega) (by omega) _) (by simp) ?_
      simp
      refine stepD_call (c90 s (by omega) _) (by simp) ?_
      have hc1 : 1 ≤ s.count := by cases s; simp
      simp
      rw [wrap_id (n := (s.count : Int) - 1) (by omega) (by omega), wrap_id (n := f.times a * ((s.count : Int) - 1)) (by omega) (by omega), wrap_id (by omega) (by omega)]
      by_cases h3 : 4096 < (f.count : Int) + f.times a * ((s.count : Int) - 1)
      · simp [hc, h1, h2, hcs, hl, hm, h3, Fm.putIn, Fm.zeroF, Ty.zero]
      · simp [hc, h1, h2, hcs, hl, hm, h3, Fm.putIn]
        refine opV_call (c91 s (by omega) hoks hm a (by omega) (by omega) f hok hl 0 (by omega) (by omega) _) (by simp) ?_
        simp
        have hz := Fm.put_size f s a 0
        rw [Int.add_zero] at hz
        have hm2 := mul_le (x := f.times a) (y := (s.size : Int)) (m := 4096) (n := 134217728) ht.1 (by omega) (by omega) (by omega)
        refine opV_call (c84 (f.put a 0 s) (by omega) _) (by simp) ?_
        simp
end Go.Proofs.YtbcejphjmghkbaaDoor.V


set_option maxRecDepth 100000
namespace Go.Proofs.YtbcejphjmghkbaaDoor.V
open Go Go.Proofs
theorem lift_size (f : Fm) (a b : Int) : (f.lift a b).1.size ≤ f.size + 2 := by
  unfold Fm.lift
  split
  · simp [Fm.zeroF, Ty.zero]
  · split
    · simp [Fm.zeroF, Ty.zero]
    · simp [Fm.up_size]
theorem putIn_size (f : Fm) (a : Int) (s : Tm) : ((f.putIn a s).1.size : Int) ≤ f.size + f.times a * (s.size : Int) + 2 := by
  have h : 0 ≤ f.times a * (s.size : Int) := Int.mul_nonneg (f.times_le a).1 (by omega)
  unfold Fm.putIn
  repeat' split
  all_goals try (simp [Fm.zeroF, Ty.zero]; omega)
  have := Fm.put_size f s a 0
  rw [Int.add_zero] at this
  simp
  omega
theorem ctype_size (f : Fm) : (ctype f).1.size ≤ 64 := by rw [ctype_eq]; exact Fm.rtype_size
set_option maxHeartbeats 1000000 in
theorem law4 (l : List Int) (hi : i64s l) (σ : List Frm) : CallsV cfg 4 [.one (.slice .no 1 (encI l))] σ (.val (.one (.bool true))) σ := by
  refine w4 (by simp) ?_
  rw [s4]
  simp
  refine opV_call (c15 _) (by simp) ?_
  simp
  refine opV_call (c16 l _) (by simp) ?_
  by_cases hl : l.length ≤ 500
  rotate_left
  · simp [hl]
    refine opV_call (c15 _) (by simp) ?_
    simp
  simp [hl]
  have hd : Dk l := ⟨by omega, hi⟩
  refine opV_new (c21 l _) (by simp) ?_
  simp
  refine opV_own1 (d33 hd ⟨σ.length, 25, 0⟩ (List.suffix_refl l)) (by simp) (by simp [Pl.ptr]) ?_
  have hc := mkContext_good l
  have hcs := mkContext_suf l
  generalize (mkContext l).1 = g at hc
  generalize (mkContext l).2 = r1 at hcs
  have hg : Good 64 g := fun x hx => ⟨(hc.1 x hx).1, by have := (hc.1 x hx).2; omega⟩
  have hgn : Good 64 (g ++ [Ty.nat]) := fun x hx => by
    rcases List.mem_append.1 hx with h | h
    · exact hg x h
    · rw [List.mem_singleton.1 h]; exact ⟨Ty.nat_ok, by simp⟩
  simp
  refine ⟨by omega, by omega, ?_⟩
  refine opV_call (c34 _) (by simp) ?_
  simp
  refine ⟨by omega, by omega, ?_⟩
  refine opV_own1 (d23 hd ⟨σ.length, 25, 0⟩ 3 (by omega) (g ++ [.nat]) hgn (by simp; omega) hcs) (by simp) (by simp [Pl.ptr]) ?_
  have hf := mkFormula_fine (m := 64) (by omega) (by omega) 3 (g ++ [.nat]) r1 hgn
  have hfs : (mkFormula 3 (g ++ [.nat]) r1).1.size ≤ 200000 := Nat.le_trans hf.2 (fmB_small 3 (by omega))
  have hfl := mkFormula_least 3 (g ++ [.nat]) r1 536870912 hgn (by simp; omega)
  have hr2 := (mkFormula_suf 3 (g ++ [.nat]) r1).trans hcs
  generalize (mkFormula 3 (g ++ [.nat]) r1).1 = f at hf hfs hfl
  generalize (mkFormula 3 (g ++ [.nat]) r1).2 = r2 at hr2
  simp
  refine opV_call (c24 f (by omega) _) (by simp) ?_
  simp [enc2]
  refine wpP_draw (atPl ⟨σ.length, 25, 0⟩) ?_
  simp [atPl]
  refine stepD_own (dNext hd hr2 ⟨σ.length, 25, 0⟩ (n := 3) (by omega)) (by simp) (by simp [Pl.ptr]) ?_
  have hn := next_range (n := 3) (by omega) r2
  have hr3 := (next_suf 3 r2).trans hr2
  generalize (next 3 r2).1 = n at hn
  generalize (next 3 r2).2 = r3 at hr3
  simp
  rw [wrap_id (by omega) (by omega)]
  refine stepD_call (c35 f (by omega) 0 (1 + n) _) (by simp) ?_
  simp [atPl]
  refine wpP_draw (atPl ⟨σ.length, 25, 0⟩) ?_
  simp [atPl]
  refine stepD_call (c34 _) (by simp) ?_
  simp [atPl]
  refine stepD_own (d38 hd ⟨σ.length, 25, 0⟩ 2 (by omega) g .nat hg ⟨Ty.nat_ok, by simp⟩ (by omega) hr3) (by simp) (by simp [Pl.ptr]) ?_
  have ht := mkTerm_fine (m := 64) (by omega) 2 g .nat r3 hg ⟨Ty.nat_ok, by simp⟩
  have hts : (mkTerm 2 g .nat r3).1.size ≤ 100000 := Nat.le_trans ht.2 (tmB_small 2 (by omega))
  have htl := mkTerm_least 2 g .nat r3 536870912 hg ⟨Ty.nat_ok, by simp⟩ (by omega)
  generalize (mkTerm 2 g .nat r3).1 = t at ht hts htl
  generalize (mkTerm 2 g .nat r3).2 = r4
  simp [atPl]
  refine stepD_call (c37 f (by omega) 0 t (by omega) _) (by simp) ?_
  have hA := lift_cases hf.1 (b := 1 + n) (by omega) (by omega) hfl
  have hB := putIn_cases hf.1 ht.1 hfl htl
  have hAs := lift_size f 0 (1 + n)
  have hBs := putIn_size f 0 t
  have hBt := mul_le (x := f.times 0) (y := (t.size : Int)) (m := 200000) (n := 100000) (f.times_le 0).1 (by have := f.times_le 0; have := f.count_le; omega) (by omega) (by omega)
  have hcz := ctype_size f
  generalize f.lift 0 (1 + n) = A at hA hAs
  generalize f.putIn 0 t = B at hB hBs
  rcases hA with hA | ⟨hA0, hA1, hA2, hA3⟩
  · simp [atPl, hA]
  rcases hB with hB | ⟨hB0, hB1, hB2, hB3⟩
  · simp [atPl, hA1, hB]
  simp [atPl, hA1, hB1]
  refine opV_call (c24 A.1 (by omega) _) (by simp) ?_
  simp [enc2]
  refine opV_call (c24 B.1 (by omega) _) (by simp) ?_
  simp [enc2]
  rw [hA3, hB3]
  simp
  refine opV_call (c26 (ctype f).1 (ctype f).1 (by omega) _) (by simp) ?_
  simp [Ty.same_refl]
  refine opV_call (c26 (ctype f).1 (ctype f).1 (by omega) _) (by simp) ?_
  simp [Ty.same_refl]
end Go.Proofs.YtbcejphjmghkbaaDoor.V


set_option maxRecDepth 100000
namespace Go.Proofs.YtbcejphjmghkbaaDoor.V
open Go Go.Proofs
theorem c40 (e : Int) (σ : List Frm) : CallsV cfg 40 [.one (.int .i64 e)] σ (.val (.one (.bool (e == 4 || e == 5 || e == 3)))) σ := by
  refine w40 (by simp) ?_
  rw [s40]
  by_cases h4 : e = 4
  · subst h4; simp
  · by_cases h5 : e = 5
    · subst h5; simp
    · simp [h4, h5]
theorem Fm.count_le_size (f : Fm) : f.count ≤ f.size := f.count_le
theorem mkF0 (d : Nat) (hd : d ≤ 3) (g : List Ty) (r : List Int) (hg : Good 3 g) : (mkFormula d g r).1.ok = true ∧ (mkFormula d g r).1.size ≤ 1637 := by
  have h := mkFormula_fine (m := 3) (by omega) (by omega) d g r hg
  have hs : ∀ d, d ≤ 3 → fmB 3 d ≤ 1637 := by decide
  exact ⟨h.1, Nat.le_trans h.2 (hs d hd)⟩
theorem Fm.check_lt {f : Fm} (h : f.ok = true) (hs : f.size ≤ 4096) : f.check = 0 := Fm.check_small h (Nat.le_trans f.count_le hs)
theorem law5 (l : List Int) (hi : i64s l) (σ : List Frm) : CallsV cfg 5 [.one (.slice .no 1 (encI l))] σ (.val (.one (.bool true))) σ := by
  refine w5 (by simp) ?_
  rw [s5]
  simp
  refine opV_call (c15 _) (by simp) ?_
  simp
  refine opV_call (c16 l _) (by simp) ?_
  by_cases hl : l.length ≤ 500
  rotate_left
  · simp [hl]
    refine opV_call (c15 _) (by simp) ?_
    simp
  simp [hl]
  have hd : Dk l := ⟨by omega, hi⟩
  refine opV_new (c21 l _) (by simp) ?_
  simp
  have hg0 : Good 3 [] := fun x hx => by cases hx
  have hg1 : Good 64 [] := fun x hx => by cases hx
  refine opV_own1 (d23 hd ⟨σ.length, 25, 0⟩ 3 (by omega) [] hg1 (by simp) (List.suffix_refl l)) (by simp) (by simp [Pl.ptr]) ?_
  obtain ⟨hf1, hf2⟩ := mkF0 3 (by omega) [] l hg0
  have hr := mkFormula_suf 3 [] l
  generalize (mkFormula 3 [] l).1 = f at hf1 hf2
  generalize (mkFormula 3 [] l).2 = r at hr
  simp
  refine opV_own1 (d23 hd ⟨σ.length, 25, 0⟩ 2 (by omega) [] hg1 (by simp) hr) (by simp) (by simp [Pl.ptr]) ?_
  obtain ⟨hg1, hg2⟩ := mkF0 2 (by omega) [] r hg0
  generalize (mkFormula 2 [] r).1 = g at hg1 hg2
  generalize (mkFormula 2 [] r).2 = r'
  have hfc := Fm.check_lt hf1 (by omega)
  simp
  refine opV_call (c39 f (by omega) _) (by simp) ?_
  simp [hasOf, hfc]
  refine opV_call (c24 f (by omega) _) (by simp) ?_
  simp [enc2]
  refine opV_call (c24 g (by omega) _) (by simp) ?_
  simp [enc2]
  refine opV_call (c24 (.two 3 f g) (by simp; omega) _) (by simp [Fm.two, Ty.zero]) ?_
  have hj := Fm.two_ok (k := 3) (.inr rfl) hf1 hg1
  have s1 := ctype_size f
  have s2 := ctype_size g
  have s3 := ctype_size (.two 3 f g)
  rcases ctype_err hf1 with e1 | e1
  rotate_left
  · simp [enc2, e1]
    refine opV_call (c40 4 _) (by simp) ?_
    simp
  rcases ctype_err hg1 with e2 | e2
  rotate_left
  · simp [enc2, e1, e2]
    refine opV_call (c40 0 _) (by simp) ?_
    simp
    refine opV_call (c40 4 _) (by simp) ?_
    simp
  rcases ctype_err hj with e3 | e3
  rotate_left
  · simp [enc2, e1, e2, e3]
    refine opV_call (c40 0 _) (by simp) ?_
    simp
    refine opV_call (c40 0 _) (by simp) ?_
    simp
    refine opV_call (c40 4 _) (by simp) ?_
    simp
  obtain ⟨m1, m2, m3⟩ := ctype_imp e1 e2 e3
  have hgc := Fm.check_lt hg1 (by omega)
  cases hfh : f.has with
  | false =>
    obtain ⟨q1, q2⟩ := m1 hfh
    simp [enc2, e1, e2, e3, q1, q2, Ty.unit]
    refine opV_call (c26 (ctype g).1 (ctype g).1 (by omega) _) (by simp) ?_
    simp [Ty.same_refl]
  | true =>
    simp [enc2, e1, e2, e3]
    refine opV_call (c39 g (by omega) _) (by simp) ?_
    simp [hasOf, hgc]
    refine wpP_draw (fun _ _ _ => false) ?_
    cases hgh : g.has with
    | false =>
      simp [m3 hgh, Ty.unit]
    | true =>
      simp
      refine stepD_call (c41 (ctype f).1 (ctype g).1 _) (by simp) ?_
      simp [m2 hfh hgh]
      refine stepD_call (c26 (.fn (ctype f).1 (ctype g).1) (.fn (ctype f).1 (ctype g).1) (by simp; omega) _) (by simp) ?_
      simp [Ty.same_refl]
end Go.Proofs.YtbcejphjmghkbaaDoor.V


set_option maxRecDepth 100000
namespace Go.Proofs.YtbcejphjmghkbaaDoor.V
open Go Go.Proofs
def i6 (t : Ty) (f : Fm) (L : List Int) (σ : List Frm) (j : Nat) : St → Prop
  | ⟨env, loc, σ', _⟩ => env 4 = .one (.box σ.length 4 0 0) ∧ env 5 = .one (.box σ.length 5 0 0) ∧ env 6 = .one (.box σ.length 6 0 0) ∧ env 8 = .one (.bool f.has) ∧ env 52 = .one (.slice .full 1 (encI L)) ∧ env 53 = .one (.int .i64 2) ∧ env 54 = .one (.int .i64 j) ∧
    loc 4 = [enc t] ∧ loc 5 = [encF f] ∧ loc 6 = [enc (ctype f).1] ∧ σ' = σ
theorem law6 (l : List Int) (hi : i64s l) (σ : List Frm) : CallsV cfg 6 [.one (.slice .no 1 (encI l))] σ (.val (.one (.bool true))) σ := by
  refine w6 (by simp) ?_
  rw [s6]
  simp
  refine opV_call (c15 _) (by simp) ?_
  simp
  refine opV_call (c16 l _) (by simp) ?_
  by_cases hl : l.length ≤ 500
  rotate_left
  · simp [hl]
    refine opV_call (c15 _) (by simp) ?_
    simp
  simp [hl]
  have hd : Dk l := ⟨by omega, hi⟩
  refine opV_new (c21 l _) (by simp) ?_
  simp
  refine opV_own1 (d42 hd ⟨σ.length, 27, 0⟩ 1 (by omega) (List.suffix_refl l)) (by simp) (by simp [Pl.ptr]) ?_
  obtain ⟨ht1, ht2⟩ := mkType1 l
  have hr := mkType_suf 1 l
  generalize (mkType 1 l).1 = t at ht1 ht2
  generalize (mkType 1 l).2 = r at hr
  have hg0 : Good 3 [t] := fun x hx => by rw [List.mem_singleton.1 hx]; exact ⟨ht1, ht2⟩
  have hg1 : Good 64 [t] := fun x hx => by rw [List.mem_singleton.1 hx]; exact ⟨ht1, by omega⟩
  simp
  refine opV_own1 (d23 hd ⟨σ.length, 27, 0⟩ 3 (by omega) [t] hg1 (by simp) hr) (by simp) (by simp [Pl.ptr]) ?_
  obtain ⟨hf1, hf2⟩ := mkF0 3 (by omega) [t] r hg0
  generalize (mkFormula 3 [t] r).1 = f at hf1 hf2
  generalize (mkFormula 3 [t] r).2 = r'
  have hfc := Fm.check_lt hf1 (by omega)
  have htc : t.check = 0 := Ty.check_iff.2 ⟨ht1, by omega⟩
  have s1 := ctype_size f
  simp
  refine opV_call (c24 f (by omega) _) (by simp) ?_
  simp [enc2]
  refine opV_call (c39 f (by omega) _) (by simp) ?_
  simp [hasOf, hfc]
  rcases ctype_err hf1 with e1 | e1
  rotate_left
  · simp [enc2, e1]
    refine opV_call (c40 4 _) (by simp) ?_
    simp
  simp [e1]
  have hq : ∀ k, (k = 4 ∨ k = 5 ∨ k = 6 ∨ k = 7) → (Fm.q k t f).check = 0 ∧ ctype (.q k t f) = rstep k t (if k = 5 then true else f.has) (f.has, ctype f) (f.has, ctype f) := fun k hk => by
    have h : (Fm.q k t f).check = 0 := Fm.check_lt (Fm.q_ok hk htc hf1) (by simp; omega)
    exact ⟨h, ctype_q hk h hfc⟩
  have hno : f.has = false → ctype f = (.unit, 0) := fun h => by rw [ctype_ok hfc, Fm.rof_none h]
  have h67 : ∀ k, (k = 6 ∨ k = 7) → ctype (.q k t f) = ctype f := fun k hk => by
    rw [(hq k (by omega)).2]
    cases hh : f.has with
    | false => rw [hno hh]; rcases hk with rfl | rfl <;> simp [rstep]
    | true => rcases hk with rfl | rfl <;> simp [rstep]
  obtain ⟨L, hL⟩ : ∃ L : List Int, L = [6, 7] := ⟨_, rfl⟩
  refine wpP_range 2 (i6 t f L σ) (by omega) ⟨by simp, by simp, by simp, by simp, by simp [hL, encI], by simp, by simp, by simp, by simp, by simp, rfl⟩ ?_ ?_ (hend := ?_)
  · rintro j ⟨env, loc, σ', live⟩ ⟨e4, e5, e6, e8, e52, e53, e54, l4, l5, l6, rfl⟩
    exact ⟨e54, by simpa using e53⟩
  · rintro j ⟨env, loc, σ', live⟩ hj ⟨e4, e5, e6, e8, e52, e53, e54, l4, l5, l6, rfl⟩
    obtain ⟨k, hk, hk2⟩ : ∃ k : Int, L[j]? = some k ∧ (k = 6 ∨ k = 7) := by
      subst hL
      have : j = 0 ∨ j = 1 := by omega
      rcases this with rfl | rfl
      · exact ⟨6, rfl, .inl rfl⟩
      · exact ⟨7, rfl, .inr rfl⟩
    simp [e4, e5, e6, e8, e52, e53, e54, l4, l5, l6, encI_get hk]
    refine opV_call (c24 (.q k t f) (by simp; omega) _) (by simp [Fm.q]) ?_
    simp [enc2, h67 k hk2, e1, e4, e5, e6, e8, e52, e53, e54, l4, l5, l6]
    refine opV_call (c26 (ctype f).1 (ctype f).1 (by omega) _) (by simp) ?_
    simp [Ty.same_refl, e4, e5, e6, e8, e52, e53, e54, l4, l5, l6]
    exact ⟨by simp, by simp, by simp, by simp, by simp, by simp, by simp, by simp [l4], by simp [l5], by simp [l6], rfl⟩
  · rintro ⟨env, loc, σ', live⟩ ⟨e4, e5, e6, e8, e52, e53, e54, l4, l5, l6, rfl⟩
    simp [e4, e5, e6, e8, l4, l5, l6]
    refine opV_call (c24 (.q 4 t f) (by simp; omega) _) (by simp [Fm.q]) ?_
    simp [enc2, e4, e5, e6, e8, l4, l5, l6]
    refine opV_call (c24 (.q 5 t f) (by simp; omega) _) (by simp [Fm.q]) ?_
    have z4 := ctype_size (.q 4 t f)
    have z5 := ctype_size (.q 5 t f)
    rcases ctype_err (Fm.q_ok (k := 4) (.inl rfl) htc hf1) with e9 | e9
    rotate_left
    · simp [enc2, e9, e4, e5, e6, e8, l4, l5, l6]
      refine opV_call (c40 4 _) (by simp) ?_
      simp
    rcases ctype_err (Fm.q_ok (k := 5) (.inr (.inl rfl)) htc hf1) with e10 | e10
    rotate_left
    · simp [enc2, e9, e10, e4, e5, e6, e8, l4, l5, l6]
      refine opV_call (c40 0 _) (by simp) ?_
      simp
      refine opV_call (c40 4 _) (by simp) ?_
      simp
    have q4 := (hq 4 (by omega)).2
    have q5 := (hq 5 (by omega)).2
    cases hh : f.has with
    | false =>
      rw [hh] at q4 q5
      simp [rstep] at q4 q5
      simp [enc2, q4, q5, e4, e5, e6, e8, l4, l5, l6, hh, Ty.unit]
      refine opV_call (c26 t t (by omega) _) (by simp) ?_
      simp [Ty.same_refl]
    | true =>
      rw [hh] at q4 q5
      simp [rstep, e1] at q4 q5
      rw [q4] at e9
      rw [q5] at e10
      have f4 := fits_zero e9
      have f5 := fits_zero e10
      rw [f4] at q4
      rw [f5] at q5
      simp [enc2, q4, q5, e4, e5, e6, e8, l4, l5, l6, hh]
      refine wpP_draw (fun _ _ _ => false) ?_
      simp [e4, e5, e6, e8, l4, l5, l6]
      refine stepD_call (c41 t (ctype f).1 _) (by simp) ?_
      simp [e4, e5, e6, e8, l4, l5, l6]
      refine stepD_call (c26 (.fn t (ctype f).1) (.fn t (ctype f).1) (by simp; omega) _) (by simp) ?_
      simp [Ty.same_refl, e4, e5, e6, e8, l4, l5, l6]
      refine stepD_call (c43 t (ctype f).1 _) (by simp) ?_
      simp [e4, e5, e6, e8, l4, l5, l6]
      refine stepD_call (c26 (.pair t (ctype f).1) (.pair t (ctype f).1) (by simp; omega) _) (by simp) ?_
      simp [Ty.same_refl]
end Go.Proofs.YtbcejphjmghkbaaDoor.V
