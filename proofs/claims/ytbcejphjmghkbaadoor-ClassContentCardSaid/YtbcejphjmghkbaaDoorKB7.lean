/-
Parts of the proof of one law, put together by program: part 7.
-/
import Derived.Test.YtbcejphjmghkbaaDoorKB6
set_option linter.unusedSimpArgs false
set_option linter.unusedVariables false

set_option maxRecDepth 100000
namespace Go.Proofs.YtbcejphjmghkbaaDoor.V
open Go Go.Proofs
def bump (k : Int) : Int := if k = 2 then 1 else 0
def bumpF (k : Int) : Int := if fmQ k = true then 1 else 0
theorem bump_le (k : Int) : 0 ≤ bump k ∧ bump k ≤ 1 := by unfold bump; split <;> omega
theorem bumpF_le (k : Int) : 0 ≤ bumpF k ∧ bumpF k ≤ 1 := by unfold bumpF; split <;> omega
theorem bump_eq (k a : Int) : (if k = 2 then a + 1 else a) = a + bump k := by unfold bump; split <;> omega
theorem bumpF_eq (k a : Int) : (if fmQ k = true then a + 1 else a) = a + bumpF k := by unfold bumpF; split <;> omega
theorem c154 (k i : Int) (s : Ty) (l : List Tm) (σ : List Frm) : CallsV cfg 154 [.agg (encT (.mk k i s l))] σ (.val (.one (.int .i64 (bump k)))) σ := by
  refine w154 (by simp) ?_
  rw [s154, bump]
  by_cases h : k = 2 <;> simp [h]
theorem c134 (k : Int) (s : Ty) (m : List Tm) (l : List Fm) (σ : List Frm) : CallsV cfg 134 [.agg (encF (.mk k s m l))] σ (.val (.one (.int .i64 (bumpF k)))) σ := by
  refine w134 (by simp) ?_
  rw [s134, bumpF]
  simp
  refine opV_call (c161 k _) (by simp) ?_
  by_cases h : fmQ k = true <;> simp [h]
theorem c86 (t : Tm) (hsz : t.size ≤ 1099511627776) (σ : List Frm) : CallsV cfg 86 [.agg (encT t)] σ (.val (.one (.int .i64 t.check))) σ := by
  refine w86 (by simp) ?_
  rw [s86]
  simp
  refine opV_call (c135 t hsz _) (by simp) ?_
  unfold Tm.check
  cases hok : t.ok with
  | false => simp
  | true =>
    simp
    refine opV_call (c90 t hsz _) (by simp) ?_
    by_cases h : t.count ≤ 4096
    · have h' : ¬ ((4096 : Int) < t.count) := by omega
      simp [h, h']
    · have h' : ((4096 : Int) < t.count) := by omega
      simp [h, h']
theorem Tm.least_mk (k i : Int) (t : Ty) (l : List Tm) (m : Int) : (Tm.mk k i t l).least m = (decide (i ≤ m) && Tm.leasts l m) := by rw [Tm.least]
theorem Fm.least_mk (k : Int) (t : Ty) (a : List Tm) (l : List Fm) (m : Int) : (Fm.mk k t a l).least m = (Tm.leasts a m && Fm.leasts l m) := by rw [Fm.least]
theorem Tm.ok_parts {k i : Int} {t : Ty} {l : List Tm} (h : (Tm.mk k i t l).ok = true) : 0 ≤ i ∧ ∀ x ∈ l, x.ok = true := by
  simp only [Tm.ok_mk, Bool.and_eq_true, Tm.oks_iff] at h
  exact ⟨Tm.head_nonneg h.1, h.2⟩
theorem Tm.least_parts {k i : Int} {t : Ty} {l : List Tm} {m : Int} (h : (Tm.mk k i t l).least m = true) : i ≤ m ∧ ∀ x ∈ l, x.least m = true := by
  simp only [Tm.least_mk, Bool.and_eq_true, decide_eq_true_eq, Tm.leasts_iff] at h
  exact h
@[simp] theorem flatLL_tms {α : Type} (g : α → Tm) (l : List α) : flatLL (l.map fun x => encT (g x)) = true := flatLL_of fun e he => by
  obtain ⟨y, _, rfl⟩ := List.mem_map.1 he
  simp
@[simp] theorem flatLL_fms {α : Type} (g : α → Fm) (l : List α) : flatLL (l.map fun x => encF (g x)) = true := flatLL_of fun e he => by
  obtain ⟨y, _, rfl⟩ := List.mem_map.1 he
  simp
def i133a (t : Tm) (k i : Int) (s : Ty) (fr b : Int) (σ : List Frm) : St → Prop
  | ⟨env, loc, σ', live⟩ => env 1 = .one (.int .i64 fr) ∧ env 2 = .one (.int .i64 b) ∧ env 3 = .one (.box σ.length 3 0 0) ∧ env 6 = .one (.box σ.length 6 0 0) ∧ env 7 = .one (.box σ.length 7 0 0) ∧
    loc 3 = [encT t] ∧ loc 6 = [z62] ∧ loc 7 = [.int .i64 k :: .int .i64 i :: (enc s ++ [.slice .full 5 []])] ∧ σ' = σ
def i133 (t : Tm) (k i : Int) (s : Ty) (l : List Tm) (fr b fr' : Int) (σ : List Frm) (j : Nat) : St → Prop
  | ⟨env, loc, σ', live⟩ => ∃ ow, env 1 = .one (.int .i64 fr) ∧ env 2 = .one (.int .i64 b) ∧ env 3 = .one (.box σ.length 3 0 0) ∧ env 6 = .one (.box σ.length 6 0 0) ∧ env 7 = .one (.box σ.length 7 0 0) ∧ env 32 = .one (.slice .no 5 (l.map encT)) ∧ env 33 = .one (.int .i64 l.length) ∧ env 34 = .one (.int .i64 j) ∧
    loc 3 = [encT t] ∧ loc 6 = [z62] ∧ loc 7 = [.int .i64 k :: .int .i64 i :: (enc s ++ [.slice ow 5 ((l.take j).map fun x => encT (x.up fr' b))])] ∧ σ' = σ ∧ okOwn live ow
theorem c133 (t : Tm) : t.size ≤ 1099511627776 → t.ok = true → t.least 536870912 = true → ∀ (fr b : Int), 0 ≤ fr → fr + t.size ≤ 4398046511104 → -1099511627776 ≤ b → b ≤ 1099511627776 → ∀ (σ : List Frm), CallsV cfg 133 [.agg (encT t), .one (.int .i64 fr), .one (.int .i64 b)] σ (.val (.agg (encT (t.up fr b)))) σ := by
  induction t using Tm.ind with
  | _ k i s l ih =>
  intro hsz hok hle fr b hf0 hf1 hb0 hb1 σ
  simp at hsz hf1
  have hlen := Tm.length_le l
  have hsp := s.size_pos
  obtain ⟨hi0, hpo⟩ := Tm.ok_parts hok
  obtain ⟨hi1, hpl⟩ := Tm.least_parts hle
  refine w133 (by simp) ?_
  rw [s133, Tm.up_mk]
  rw [bump_eq]
  obtain ⟨hd0, hd1⟩ := bump_le k
  refine cut3 (i133a (.mk k i s l) k (if k = 1 ∧ fr ≤ i then i + b else i) s fr b σ) ?_ ?_
  · by_cases hk : k = 1
    · subst hk
      by_cases hfi : fr ≤ i
      · simp [hfi]
        rw [wrap_id (by omega) (by omega)]
        exact ⟨by simp, by simp, by simp, by simp, by simp, by simp, by simp [z62], by simp, rfl⟩
      · simp [hfi]
        exact ⟨by simp, by simp, by simp, by simp, by simp, by simp, by simp [z62], by simp, rfl⟩
    · simp [hk]
      exact ⟨by simp, by simp, by simp, by simp, by simp, by simp, by simp [z62], by simp, rfl⟩
  · rintro ⟨env, loc, σ', live⟩ ⟨e1, e2, e3, e6, e7, h3, h6, h7, rfl⟩
    simp [e1, e2, e3, e6, e7, h3, h6, h7]
    refine wpP_range l.length (i133 (.mk k i s l) k (if k = 1 ∧ fr ≤ i then i + b else i) s l fr b (fr + bump k) σ') (by omega) ⟨.full, by simp [e1], by simp [e2], by simp [e3], by simp [e6], by simp [e7], by simp, by simp, by simp, by simp [h3], by simp [h6], by simp [h7], rfl, by simp⟩ ?_ ?_ (hend := ?_)
    · rintro j ⟨env, loc, σ', live⟩ ⟨ow, e1, e2, e3, e6, e7, e32, e33, e34, h3, h6, h7, rfl, how⟩
      exact ⟨e34, e33⟩
    · rintro j ⟨env, loc, σ', live⟩ hj ⟨ow, e1, e2, e3, e6, e7, e32, e33, e34, h3, h6, h7, rfl, how⟩
      obtain ⟨x, hx, hdr, hm⟩ := drop_cons hj
      have := Tm.sizes_mem hm
      simp [e1, e2, e3, e6, e7, e32, e33, e34, hx]
      refine wpP_draw (fun _ _ _ => false) ?_
      simp [e1, e2, e3, e6, e7, e32, e33, e34, h3, h7]
      refine stepD_call (c154 k i s l _) (by simp) ?_
      simp [e1, e2, e3, e6, e7, e32, e33, e34, h3, h7]
      rw [wrap_id (by omega) (by omega)]
      refine stepD_call (ih x hm (by omega) (hpo x hm) (hpl x hm) (fr + bump k) b (by omega) (by omega) hb0 hb1 _) (by simp) ?_
      simp [e1, e2, e3, e6, e7, e32, e33, e34, h3, h7, how]
      exact ⟨by omega, by omega, .tip live.nx, by simp, by simp, by simp, by simp, by simp, by simp, by simp, by simp, by simp [h3], by simp [h6], by simp [List.take_add_one, hx], rfl, grown_on⟩
    · rintro ⟨env, loc, σ', live⟩ ⟨ow, e1, e2, e3, e6, e7, e32, e33, e34, h3, h6, h7, rfl, how⟩
      simp [e1, e2, e3, e6, e7, h3, h6, h7, z62]
theorem Tm.timess_take {l : List Tm} {j : Nat} {x : Tm} (a : Int) (h : l[j]? = some x) : Tm.timess (l.take (j + 1)) a = Tm.timess (l.take j) a + x.times a := by
  induction l generalizing j with
  | nil => simp at h
  | cons y l ih =>
    cases j with
    | zero => simp at h; subst h; simp [Tm.timess]
    | succ j =>
      have := ih (j := j) (by simpa using h)
      simp only [List.take_succ_cons, Tm.timess, this]
      omega
theorem Fm.timess_take {l : List Fm} {j : Nat} {x : Fm} (a : Int) (h : l[j]? = some x) : Fm.timess (l.take (j + 1)) a = Fm.timess (l.take j) a + x.times a := by
  induction l generalizing j with
  | nil => simp at h
  | cons y l ih =>
    cases j with
    | zero => simp at h; subst h; simp [Fm.timess]
    | succ j =>
      have := ih (j := j) (by simpa using h)
      simp only [List.take_succ_cons, Fm.timess, this]
      omega
theorem Tm.timess_le' {l : List Tm} (h : ∀ x ∈ l, ∀ a, 0 ≤ x.times a ∧ x.times a ≤ x.count) (a : Int) : 0 ≤ Tm.timess l a ∧ Tm.timess l a ≤ Tm.counts l := by
  induction l with
  | nil => simp [Tm.timess]
  | cons x l ih =>
    have h1 := h x (by simp) a
    have h2 := ih fun y hy => h y (by simp [hy])
    simp only [Tm.timess, Tm.counts_cons]
    omega
theorem Tm.times_le (t : Tm) : ∀ a, 0 ≤ t.times a ∧ t.times a ≤ t.count := by
  induction t using Tm.ind with
  | _ k i s l ih =>
    intro a
    have h := Tm.timess_le' ih (if k = 2 then a + 1 else a)
    rw [Tm.times_mk, Tm.count_mk]
    split <;> omega
theorem Tm.timess_le (l : List Tm) (a : Int) : 0 ≤ Tm.timess l a ∧ Tm.timess l a ≤ Tm.counts l := Tm.timess_le' (fun x _ => x.times_le) a
theorem Fm.timess_le' {l : List Fm} (h : ∀ x ∈ l, ∀ a, 0 ≤ x.times a ∧ x.times a ≤ x.count) (a : Int) : 0 ≤ Fm.timess l a ∧ Fm.timess l a ≤ Fm.counts l := by
  induction l with
  | nil => simp [Fm.timess]
  | cons x l ih =>
    have h1 := h x (by simp) a
    have h2 := ih fun y hy => h y (by simp [hy])
    simp only [Fm.timess, Fm.counts_cons]
    omega
theorem Fm.times_le (t : Fm) : ∀ a, 0 ≤ t.times a ∧ t.times a ≤ t.count := by
  induction t using Fm.ind with
  | _ k s m l ih =>
    intro a
    have h := Fm.timess_le' ih (if fmQ k = true then a + 1 else a)
    have h1 := Tm.timess_le m a
    rw [Fm.times_mk, Fm.count_mk]
    omega
theorem Fm.timess_le (l : List Fm) (a : Int) : 0 ≤ Fm.timess l a ∧ Fm.timess l a ≤ Fm.counts l := Fm.timess_le' (fun x _ => x.times_le) a
def i136a (t : Tm) (a n : Int) (σ : List Frm) : St → Prop
  | ⟨env, loc, σ', _⟩ => env 1 = .one (.int .i64 a) ∧ env 2 = .one (.box σ.length 2 0 0) ∧ env 5 = .one (.int .i64 n) ∧ loc 2 = [encT t] ∧ σ' = σ
def i136 (t : Tm) (l : List Tm) (a n a' : Int) (σ : List Frm) (j : Nat) : St → Prop
  | ⟨env, loc, σ', _⟩ => env 1 = .one (.int .i64 a) ∧ env 2 = .one (.box σ.length 2 0 0) ∧ env 5 = .one (.int .i64 (n + Tm.timess (l.take j) a')) ∧ env 20 = .one (.slice .no 5 (l.map encT)) ∧ env 21 = .one (.int .i64 l.length) ∧ env 22 = .one (.int .i64 j) ∧ loc 2 = [encT t] ∧ σ' = σ
theorem c136 (t : Tm) : t.size ≤ 1099511627776 → ∀ (a : Int), 0 ≤ a → a + t.size ≤ 4398046511104 → ∀ (σ : List Frm), CallsV cfg 136 [.agg (encT t), .one (.int .i64 a)] σ (.val (.one (.int .i64 (t.times a)))) σ := by
  induction t using Tm.ind with
  | _ k i s l ih =>
  intro hsz a ha0 ha1 σ
  simp at hsz ha1
  have hlen := Tm.length_le l
  have hsp := s.size_pos
  have hcl := Tm.counts_le l
  refine w136 (by simp) ?_
  rw [s136, Tm.times_mk, bump_eq]
  obtain ⟨hd0, hd1⟩ := bump_le k
  refine cut3 (i136a (.mk k i s l) a (if k = 1 ∧ i = a then 1 else 0) σ) ?_ ?_
  · by_cases hk : k = 1
    · subst hk
      by_cases hfi : i = a
      · subst hfi
        simp
        rw [wrap_id (by omega) (by omega)]
        exact ⟨by simp, by simp, by simp, by simp, rfl⟩
      · simp [hfi]
        exact ⟨by simp, by simp, by simp, by simp, rfl⟩
    · simp [hk]
      exact ⟨by simp, by simp, by simp, by simp, rfl⟩
  · rintro ⟨env, loc, σ', live⟩ ⟨e1, e2, e5, h2, rfl⟩
    simp [e1, e2, e5, h2]
    have hn : ∀ n : Int, n = (if k = 1 ∧ i = a then 1 else 0) → 0 ≤ n ∧ n ≤ 1 := fun n h => by subst h; split <;> omega
    generalize (if k = 1 ∧ i = a then (1 : Int) else 0) = n at *
    have hn' := hn n rfl
    refine wpP_range l.length (i136 (.mk k i s l) l a n (a + bump k) σ') (by omega) ⟨by simp [e1], by simp [e2], by simp [e5, Tm.timess], by simp, by simp, by simp, by simp [h2], rfl⟩ ?_ ?_ (hend := ?_)
    · rintro j ⟨env, loc, σ', live⟩ ⟨e1, e2, e5, e20, e21, e22, h2, rfl⟩
      exact ⟨e22, e21⟩
    · rintro j ⟨env, loc, σ', live⟩ hj ⟨e1, e2, e5, e20, e21, e22, h2, rfl⟩
      obtain ⟨x, hx, hdr, hm⟩ := drop_cons hj
      have := Tm.sizes_mem hm
      have ht := Tm.timess_take (a + bump k) hx
      have hb1 := Tm.timess_le (l.take (j + 1)) (a + bump k)
      have hb2 := Tm.counts_take_le l (j + 1)
      have hb3 := Tm.timess_le (l.take j) (a + bump k)
      have hb4 := x.times_le (a + bump k)
      simp [e1, e2, e5, e20, e21, e22, hx]
      refine wpP_draw (fun _ _ _ => false) ?_
      simp [e1, e2, e5, e20, e21, e22, h2]
      refine stepD_call (c154 k i s l _) (by simp) ?_
      simp [e1, e2, e5, e20, e21, e22, h2]
      rw [wrap_id (by omega) (by omega)]
      refine stepD_call (ih x hm (by omega) (a + bump k) (by omega) (by omega) _) (by simp) ?_
      simp [e1, e2, e5, e20, e21, e22, h2]
      rw [wrap_id (by omega) (by omega)]
      exact ⟨by simp, by simp, by simp [ht]; omega, by simp, by simp, by simp, by simp [h2], rfl⟩
    · rintro ⟨env, loc, σ', live⟩ ⟨e1, e2, e5, e20, e21, e22, h2, rfl⟩
      rw [List.take_length] at e5
      simp [e5]
def i137 (t s' : Tm) (k i : Int) (s : Ty) (l : List Tm) (a d d' : Int) (σ : List Frm) (j : Nat) : St → Prop
  | ⟨env, loc, σ', live⟩ => ∃ ow, env 1 = .one (.int .i64 a) ∧ env 2 = .one (.int .i64 d) ∧ env 4 = .one (.box σ.length 4 0 0) ∧ env 7 = .one (.box σ.length 7 0 0) ∧ env 8 = .one (.box σ.length 8 0 0) ∧ env 9 = .one (.box σ.length 9 0 0) ∧ env 45 = .one (.slice .no 5 (l.map encT)) ∧ env 46 = .one (.int .i64 l.length) ∧ env 47 = .one (.int .i64 j) ∧
    loc 4 = [encT t] ∧ loc 7 = [encT s'] ∧ loc 8 = [z62] ∧ loc 9 = [.int .i64 k :: .int .i64 i :: (enc s ++ [.slice ow 5 ((l.take j).map fun x => encT (x.put a d' s'))])] ∧ σ' = σ ∧ okOwn live ow
theorem c137 (s' : Tm) (hs1 : s'.size ≤ 549755813888) (hs2 : s'.ok = true) (hs3 : s'.least 536870912 = true) (a : Int) (ha0 : 0 ≤ a) (ha1 : a ≤ 4096) (t : Tm) : t.ok = true → t.least 536870912 = true → ∀ (d : Int), 0 ≤ d → d + t.size ≤ 549755813888 → ∀ (σ : List Frm), CallsV cfg 137 [.agg (encT t), .one (.int .i64 a), .one (.int .i64 d), .agg (encT s')] σ (.val (.agg (encT (t.put a d s')))) σ := by
  induction t using Tm.ind with
  | _ k i s l ih =>
  intro hok hle d hd0 hd1 σ
  simp at hd1
  have hlen := Tm.length_le l
  have hsp := s.size_pos
  obtain ⟨hi0, hpo⟩ := Tm.ok_parts hok
  obtain ⟨hi1, hpl⟩ := Tm.least_parts hle
  refine w137 (by simp) ?_
  rw [s137, Tm.put_mk, bump_eq]
  obtain ⟨hb0, hb1⟩ := bump_le k
  by_cases hk : k = 1
  · subst hk
    simp
    rw [wrap_id (by omega) (by omega)]
    by_cases h1 : i = a + d
    · subst h1
      simp
      refine opV_call (c133 s' (by omega) hs2 hs3 0 (a + d) (by omega) (by omega) (by omega) (by omega) _) (by simp) ?_
      simp
    · have h1' : (i == a + d) = false := by simpa using h1
      simp [h1, h1']
      rw [wrap_id (by omega) (by omega)]
      by_cases h2 : a + d < i
      · simp [h2]
        refine opV_call (c93 (i - 1) _) (by simp) ?_
        simp
      · simp [h2]
  · simp [hk]
    refine wpP_range l.length (i137 (.mk k i s l) s' k i s l a d (d + bump k) σ) (by omega) ⟨.full, by simp, by simp, by simp, by simp, by simp, by simp, by simp, by simp, by simp, by simp, by simp, by simp [z62], by simp, rfl, by simp⟩ ?_ ?_ (hend := ?_)
    · rintro j ⟨env, loc, σ', live⟩ ⟨ow, e1, e2, e4, e7, e8, e9, e45, e46, e47, h4, h7, h8, h9, rfl, how⟩
      exact ⟨e47, e46⟩
    · rintro j ⟨env, loc, σ', live⟩ hj ⟨ow, e1, e2, e4, e7, e8, e9, e45, e46, e47, h4, h7, h8, h9, rfl, how⟩
      obtain ⟨x, hx, hdr, hm⟩ := drop_cons hj
      have := Tm.sizes_mem hm
      simp [e1, e2, e4, e7, e8, e9, e45, e46, e47, hx]
      refine wpP_draw (fun _ _ _ => false) ?_
      simp [e1, e2, e4, e7, e8, e9, e45, e46, e47, h4, h7, h9]
      refine stepD_call (c154 k i s l _) (by simp) ?_
      simp [e1, e2, e4, e7, e8, e9, e45, e46, e47, h4, h7, h9]
      rw [wrap_id (by omega) (by omega)]
      refine stepD_call (ih x hm (hpo x hm) (hpl x hm) (d + bump k) (by omega) (by omega) _) (by simp) ?_
      simp [e1, e2, e4, e7, e8, e9, e45, e46, e47, h4, h7, h9, how]
      exact ⟨by omega, by omega, .tip live.nx, by simp, by simp, by simp, by simp, by simp, by simp, by simp, by simp, by simp, by simp [h4], by simp [h7], by simp [h8], by simp [List.take_add_one, hx], rfl, grown_on⟩
    · rintro ⟨env, loc, σ', live⟩ ⟨ow, e1, e2, e4, e7, e8, e9, e45, e46, e47, h4, h7, h8, h9, rfl, how⟩
      simp [e8, e9, h8, h9, z62]
def i87 (l : List Tm) (m : Int) (σ : List Frm) (j : Nat) : St → Prop
  | ⟨env, _, σ', _⟩ => env 1 = .one (.int .i64 m) ∧ env 12 = .one (.slice .no 5 (l.map encT)) ∧ env 13 = .one (.int .i64 l.length) ∧ env 14 = .one (.int .i64 j) ∧ σ' = σ ∧ Tm.leasts l m = Tm.leasts (l.drop j) m
theorem c87 (m : Int) (t : Tm) : t.size ≤ 1099511627776 → ∀ (σ : List Frm), CallsV cfg 87 [.agg (encT t), .one (.int .i64 m)] σ (.val (.one (.bool (t.least m)))) σ := by
  induction t using Tm.ind with
  | _ k i s l ih =>
  intro hsz σ
  simp at hsz
  have hlen := Tm.length_le l
  refine w87 (by simp) ?_
  rw [s87, Tm.least_mk]
  by_cases hi : m < i
  · have hi' : ¬ i ≤ m := by omega
    simp [hi, hi']
  have hi' : i ≤ m := by omega
  simp [hi, hi']
  refine wpP_range l.length (i87 l m σ) (by omega) ⟨by simp, by simp, by simp, by simp, rfl, by simp⟩ ?_ ?_ (hend := ?_)
  · rintro j ⟨env, loc, σ', live⟩ ⟨e1, e12, e13, e14, rfl, hs⟩
    exact ⟨e14, e13⟩
  · rintro j ⟨env, loc, σ', live⟩ hj ⟨e1, e12, e13, e14, rfl, hs⟩
    obtain ⟨x, hx, hdr, hm⟩ := drop_cons hj
    have := Tm.sizes_mem hm
    rw [hdr, Tm.leasts] at hs
    simp [e1, e12, e13, e14, hx]
    refine opV_call (ih x hm (by omega) _) (by simp) ?_
    cases hl : x.least m with
    | true =>
      rw [hl, Bool.true_and] at hs
      simp [e1, e12, e13, e14]
      exact ⟨by simp, by simp, by simp, by simp, rfl, hs⟩
    | false =>
      rw [hl, Bool.false_and] at hs
      simp [hs]
  · rintro ⟨env, loc, σ', live⟩ ⟨e1, e12, e13, e14, rfl, hs⟩
    rw [List.drop_length] at hs
    simp [hs, Tm.leasts]
def i83a (f : Fm) (l : List Tm) (m : Int) (σ : List Frm) (j : Nat) : St → Prop
  | ⟨env, loc, σ', _⟩ => env 1 = .one (.int .i64 m) ∧ env 2 = .one (.box σ.length 2 0 0) ∧ env 10 = .one (.slice .no 5 (l.map encT)) ∧ env 11 = .one (.int .i64 l.length) ∧ env 12 = .one (.int .i64 j) ∧ loc 2 = [encF f] ∧ σ' = σ ∧ Tm.leasts l m = Tm.leasts (l.drop j) m
def i83b (l : List Fm) (m : Int) (σ : List Frm) (j : Nat) : St → Prop
  | ⟨env, _, σ', _⟩ => env 1 = .one (.int .i64 m) ∧ env 22 = .one (.slice .no 5 (l.map encF)) ∧ env 23 = .one (.int .i64 l.length) ∧ env 24 = .one (.int .i64 j) ∧ σ' = σ ∧ Fm.leasts l m = Fm.leasts (l.drop j) m
theorem c83 (m : Int) (f : Fm) : f.size ≤ 1099511627776 → ∀ (σ : List Frm), CallsV cfg 83 [.agg (encF f), .one (.int .i64 m)] σ (.val (.one (.bool (f.least m)))) σ := by
  induction f using Fm.ind with
  | _ k s a l ih =>
  intro hsz σ
  simp at hsz
  have hla := Tm.length_le a
  have hll := Fm.length_le l
  refine w83 (by simp) ?_
  rw [s83, Fm.least_mk]
  simp
  refine wpP_range a.length (i83a (.mk k s a l) a m σ) (by omega) ⟨by simp, by simp, by simp, by simp, by simp, by simp, rfl, by simp⟩ ?_ ?_ (hend := ?_)
  · rintro j ⟨env, loc, σ', live⟩ ⟨e1, e2, e10, e11, e12, h2, rfl, hs⟩
    exact ⟨e12, e11⟩
  · rintro j ⟨env, loc, σ', live⟩ hj ⟨e1, e2, e10, e11, e12, h2, rfl, hs⟩
    obtain ⟨x, hx, hdr, hm⟩ := drop_cons hj
    have := Tm.sizes_mem hm
    rw [hdr, Tm.leasts] at hs
    simp [e1, e2, e10, e11, e12, hx]
    refine opV_call (c87 m x (by omega) _) (by simp) ?_
    cases hl : x.least m with
    | true =>
      rw [hl, Bool.true_and] at hs
      simp [e1, e2, e10, e11, e12]
      exact ⟨by simp, by simp, by simp, by simp, by simp, by simp [h2], rfl, hs⟩
    | false =>
      rw [hl, Bool.false_and] at hs
      simp [hs]
  · rintro ⟨env, loc, σ', live⟩ ⟨e1, e2, e10, e11, e12, h2, rfl, hs⟩
    rw [List.drop_length] at hs
    rw [hs]
    simp [e1, e2, h2, Tm.leasts]
    refine wpP_range l.length (i83b l m σ') (by omega) ⟨by simp [e1], by simp, by simp, by simp, rfl, by simp⟩ ?_ ?_ (hend := ?_)
    · rintro j ⟨env, loc, σ', live⟩ ⟨e1, e22, e23, e24, rfl, hs⟩
      exact ⟨e24, e23⟩
    · rintro j ⟨env, loc, σ', live⟩ hj ⟨e1, e22, e23, e24, rfl, hs⟩
      obtain ⟨x, hx, hdr, hm⟩ := drop_cons hj
      have := Fm.sizes_mem hm
      rw [hdr, Fm.leasts] at hs
      simp [e1, e22, e23, e24, hx]
      refine opV_call (ih x hm (by omega) _) (by simp) ?_
      cases hl : x.least m with
      | true =>
        rw [hl, Bool.true_and] at hs
        simp [e1, e22, e23, e24]
        exact ⟨by simp, by simp, by simp, by simp, rfl, hs⟩
      | false =>
        rw [hl, Bool.false_and] at hs
        simp [hs]
    · rintro ⟨env, loc, σ', live⟩ ⟨e1, e22, e23, e24, rfl, hs⟩
      rw [List.drop_length] at hs
      simp [hs, Fm.leasts]
end Go.Proofs.YtbcejphjmghkbaaDoor.V


set_option maxRecDepth 100000
namespace Go.Proofs.YtbcejphjmghkbaaDoor.V
open Go Go.Proofs
theorem Fm.ok_parts {k : Int} {t : Ty} {m : List Tm} {l : List Fm} (h : (Fm.mk k t m l).ok = true) : (∀ x ∈ m, x.ok = true) ∧ ∀ x ∈ l, x.ok = true := by
  simp only [Fm.ok_mk, Bool.and_eq_true, Tm.oks_iff, Fm.oks_iff] at h
  exact h.2
theorem Fm.least_parts {k : Int} {t : Ty} {a : List Tm} {l : List Fm} {m : Int} (h : (Fm.mk k t a l).least m = true) : (∀ x ∈ a, x.least m = true) ∧ ∀ x ∈ l, x.least m = true := by
  simp only [Fm.least_mk, Bool.and_eq_true, Tm.leasts_iff, Fm.leasts_iff] at h
  exact h
def i85a (f : Fm) (k : Int) (t : Ty) (m : List Tm) (fr b : Int) (σ : List Frm) (j : Nat) : St → Prop
  | ⟨env, loc, σ', live⟩ => ∃ ow, env 1 = .one (.int .i64 fr) ∧ env 2 = .one (.int .i64 b) ∧ env 3 = .one (.box σ.length 3 0 0) ∧ env 6 = .one (.box σ.length 6 0 0) ∧ env 7 = .one (.box σ.length 7 0 0) ∧ env 18 = .one (.slice .no 5 (m.map encT)) ∧ env 19 = .one (.int .i64 m.length) ∧ env 20 = .one (.int .i64 j) ∧
    loc 3 = [encF f] ∧ loc 6 = [z29] ∧ loc 7 = [.int .i64 k :: (enc t ++ [.slice ow 5 ((m.take j).map fun x => encT (x.up fr b)), .slice .full 5 []])] ∧ σ' = σ ∧ okOwn live ow
def i85b (f : Fm) (k : Int) (t : Ty) (m : List Tm) (l : List Fm) (fr b fr' : Int) (σ : List Frm) (j : Nat) : St → Prop
  | ⟨env, loc, σ', live⟩ => ∃ ow o, env 1 = .one (.int .i64 fr) ∧ env 2 = .one (.int .i64 b) ∧ env 3 = .one (.box σ.length 3 0 0) ∧ env 6 = .one (.box σ.length 6 0 0) ∧ env 7 = .one (.box σ.length 7 0 0) ∧ env 35 = .one (.slice .no 5 (l.map encF)) ∧ env 36 = .one (.int .i64 l.length) ∧ env 37 = .one (.int .i64 j) ∧
    loc 3 = [encF f] ∧ loc 6 = [z29] ∧ loc 7 = [.int .i64 k :: (enc t ++ [.slice o 5 (m.map fun x => encT (x.up fr b)), .slice ow 5 ((l.take j).map fun x => encF (x.up fr' b))])] ∧ σ' = σ ∧ okOwn live ow
theorem c85 (f : Fm) : f.size ≤ 1099511627776 → f.ok = true → f.least 536870912 = true → ∀ (fr b : Int), 0 ≤ fr → fr + f.size ≤ 4398046511104 → -1099511627776 ≤ b → b ≤ 1099511627776 → ∀ (σ : List Frm), CallsV cfg 85 [.agg (encF f), .one (.int .i64 fr), .one (.int .i64 b)] σ (.val (.agg (encF (f.up fr b)))) σ := by
  induction f using Fm.ind with
  | _ k t m l ih =>
  intro hsz hok hle fr b hf0 hf1 hb0 hb1 σ
  simp at hsz hf1
  have hlm := Tm.length_le m
  have hll := Fm.length_le l
  have hsp := t.size_pos
  obtain ⟨hpo, hqo⟩ := Fm.ok_parts hok
  obtain ⟨hpl, hql⟩ := Fm.least_parts hle
  refine w85 (by simp) ?_
  rw [s85, Fm.up_mk, bumpF_eq]
  obtain ⟨hd0, hd1⟩ := bumpF_le k
  simp
  refine wpP_range m.length (i85a (.mk k t m l) k t m fr b σ) (by omega) ⟨.full, by simp, by simp, by simp, by simp, by simp, by simp, by simp, by simp, by simp, by simp [z29], by simp, rfl, by simp⟩ ?_ ?_ (hend := ?_)
  · rintro j ⟨env, loc, σ', live⟩ ⟨ow, e1, e2, e3, e6, e7, e18, e19, e20, h3, h6, h7, rfl, how⟩
    exact ⟨e20, e19⟩
  · rintro j ⟨env, loc, σ', live⟩ hj ⟨ow, e1, e2, e3, e6, e7, e18, e19, e20, h3, h6, h7, rfl, how⟩
    obtain ⟨x, hx, hdr, hm⟩ := drop_cons hj
    have := Tm.sizes_mem hm
    simp [e1, e2, e3, e6, e7, e18, e19, e20, hx]
    refine wpP_draw (fun _ _ _ => false) ?_
    simp [e1, e2, e3, e6, e7, h3, h7]
    refine stepD_call (c133 x (by omega) (hpo x hm) (hpl x hm) fr b (by omega) (by omega) hb0 hb1 _) (by simp) ?_
    simp [how, e1, e2, e3, e6, e7, h3, h7]
    exact ⟨by omega, by omega, .tip live.nx, by simp, by simp, by simp, by simp, by simp, by simp, by simp, by simp, by simp [h3], by simp [h6], by simp [List.take_add_one, hx], rfl, grown_on⟩
  · rintro ⟨env, loc, σ', live⟩ ⟨ow, e1, e2, e3, e6, e7, e18, e19, e20, h3, h6, h7, rfl, how⟩
    simp [e1, e2, e3, e6, e7, h3, h6, h7]
    refine wpP_range l.length (i85b (.mk k t m l) k t m l fr b (fr + bumpF k) σ') (by omega) ⟨.full, ow, by simp, by simp, by simp, by simp, by simp, by simp, by simp, by simp, by simp [h3], by simp [h6], by simp [h7], rfl, by simp⟩ ?_ ?_ (hend := ?_)
    · rintro j ⟨env, loc, σ', live⟩ ⟨ow, o, e1, e2, e3, e6, e7, e35, e36, e37, h3, h6, h7, rfl, how⟩
      exact ⟨e37, e36⟩
    · rintro j ⟨env, loc, σ', live⟩ hj ⟨ow, o, e1, e2, e3, e6, e7, e35, e36, e37, h3, h6, h7, rfl, how⟩
      obtain ⟨x, hx, hdr, hm⟩ := drop_cons hj
      have := Fm.sizes_mem hm
      simp [e1, e2, e3, e6, e7, e35, e36, e37, hx]
      refine wpP_draw (fun _ _ _ => false) ?_
      simp [e1, e2, e3, e6, e7, h3, h7]
      refine stepD_call (c134 k t m l _) (by simp) ?_
      simp [e1, e2, e3, e6, e7, h3, h7]
      rw [wrap_id (by omega) (by omega)]
      refine stepD_call (ih x hm (by omega) (hqo x hm) (hql x hm) (fr + bumpF k) b (by omega) (by omega) hb0 hb1 _) (by simp) ?_
      simp [how, e1, e2, e3, e6, e7, h3, h7]
      exact ⟨by omega, by omega, .tip live.nx, o, by simp, by simp, by simp, by simp, by simp, by simp, by simp, by simp, by simp [h3], by simp [h6], by simp [List.take_add_one, hx], rfl, grown_on⟩
    · rintro ⟨env, loc, σ', live⟩ ⟨ow, o, e1, e2, e3, e6, e7, e35, e36, e37, h3, h6, h7, rfl, how⟩
      simp [e6, e7, h6, h7, z29]
def i89a (f : Fm) (m : List Tm) (a : Int) (σ : List Frm) (j : Nat) : St → Prop
  | ⟨env, loc, σ', _⟩ => env 1 = .one (.int .i64 a) ∧ env 2 = .one (.box σ.length 2 0 0) ∧ env 5 = .one (.int .i64 (Tm.timess (m.take j) a)) ∧ env 11 = .one (.slice .no 5 (m.map encT)) ∧ env 12 = .one (.int .i64 m.length) ∧ env 13 = .one (.int .i64 j) ∧ loc 2 = [encF f] ∧ σ' = σ
def i89b (f : Fm) (l : List Fm) (a n a' : Int) (σ : List Frm) (j : Nat) : St → Prop
  | ⟨env, loc, σ', _⟩ => env 1 = .one (.int .i64 a) ∧ env 2 = .one (.box σ.length 2 0 0) ∧ env 5 = .one (.int .i64 (n + Fm.timess (l.take j) a')) ∧ env 24 = .one (.slice .no 5 (l.map encF)) ∧ env 25 = .one (.int .i64 l.length) ∧ env 26 = .one (.int .i64 j) ∧ loc 2 = [encF f] ∧ σ' = σ
theorem c89 (f : Fm) : f.size ≤ 1099511627776 → ∀ (a : Int), 0 ≤ a → a + f.size ≤ 4398046511104 → ∀ (σ : List Frm), CallsV cfg 89 [.agg (encF f), .one (.int .i64 a)] σ (.val (.one (.int .i64 (f.times a)))) σ := by
  induction f using Fm.ind with
  | _ k t m l ih =>
  intro hsz a ha0 ha1 σ
  simp at hsz ha1
  have hlm := Tm.length_le m
  have hll := Fm.length_le l
  have hsp := t.size_pos
  have hcm := Tm.counts_le m
  have hcl := Fm.counts_le l
  refine w89 (by simp) ?_
  rw [s89, Fm.times_mk, bumpF_eq]
  obtain ⟨hd0, hd1⟩ := bumpF_le k
  simp
  refine wpP_range m.length (i89a (.mk k t m l) m a σ) (by omega) ⟨by simp, by simp, by simp [Tm.timess], by simp, by simp, by simp, by simp, rfl⟩ ?_ ?_ (hend := ?_)
  · rintro j ⟨env, loc, σ', live⟩ ⟨e1, e2, e5, e11, e12, e13, h2, rfl⟩
    exact ⟨e13, e12⟩
  · rintro j ⟨env, loc, σ', live⟩ hj ⟨e1, e2, e5, e11, e12, e13, h2, rfl⟩
    obtain ⟨x, hx, hdr, hm⟩ := drop_cons hj
    have := Tm.sizes_mem hm
    have ht := Tm.timess_take a hx
    have hb1 := Tm.timess_le (m.take (j + 1)) a
    have hb2 := Tm.counts_take_le m (j + 1)
    have hb3 := Tm.timess_le (m.take j) a
    have hb4 := x.times_le a
    simp [e1, e2, e5, e11, e12, e13, hx]
    refine opV_call (c136 x (by omega) a (by omega) (by omega) _) (by simp) ?_
    simp [e1, e2, e5, e11, e12, e13]
    rw [wrap_id (by omega) (by omega)]
    exact ⟨by simp, by simp, by simp [ht], by simp, by simp, by simp, by simp [h2], rfl⟩
  · rintro ⟨env, loc, σ', live⟩ ⟨e1, e2, e5, e11, e12, e13, h2, rfl⟩
    rw [List.take_length] at e5
    simp [e1, e2, e5, h2]
    have hn := Tm.timess_le m a
    generalize Tm.timess m a = n at *
    refine wpP_range l.length (i89b (.mk k t m l) l a n (a + bumpF k) σ') (by omega) ⟨by simp, by simp, by simp [Fm.timess], by simp, by simp, by simp, by simp [h2], rfl⟩ ?_ ?_ (hend := ?_)
    · rintro j ⟨env, loc, σ', live⟩ ⟨e1, e2, e5, e24, e25, e26, h2, rfl⟩
      exact ⟨e26, e25⟩
    · rintro j ⟨env, loc, σ', live⟩ hj ⟨e1, e2, e5, e24, e25, e26, h2, rfl⟩
      obtain ⟨x, hx, hdr, hm⟩ := drop_cons hj
      have := Fm.sizes_mem hm
      have ht := Fm.timess_take (a + bumpF k) hx
      have hb1 := Fm.timess_le (l.take (j + 1)) (a + bumpF k)
      have hb2 := Fm.counts_take_le l (j + 1)
      have hb3 := Fm.timess_le (l.take j) (a + bumpF k)
      have hb4 := x.times_le (a + bumpF k)
      simp [e1, e2, e5, e24, e25, e26, hx]
      refine wpP_draw (fun _ _ _ => false) ?_
      simp [e1, e2, e5, e24, e25, e26, h2]
      refine stepD_call (c134 k t m l _) (by simp) ?_
      simp [e1, e2, e5, e24, e25, e26, h2]
      rw [wrap_id (by omega) (by omega)]
      refine stepD_call (ih x hm (by omega) (a + bumpF k) (by omega) (by omega) _) (by simp) ?_
      simp [e1, e2, e5, e24, e25, e26, h2]
      rw [wrap_id (by omega) (by omega)]
      exact ⟨by simp, by simp, by simp [ht]; omega, by simp, by simp, by simp, by simp [h2], rfl⟩
    · rintro ⟨env, loc, σ', live⟩ ⟨e1, e2, e5, e24, e25, e26, h2, rfl⟩
      rw [List.take_length] at e5
      simp [e5]
def i91a (f : Fm) (s' : Tm) (k : Int) (t : Ty) (m : List Tm) (a d : Int) (σ : List Frm) (j : Nat) : St → Prop
  | ⟨env, loc, σ', live⟩ => ∃ ow, env 1 = .one (.int .i64 a) ∧ env 2 = .one (.int .i64 d) ∧ env 4 = .one (.box σ.length 4 0 0) ∧ env 7 = .one (.box σ.length 7 0 0) ∧ env 8 = .one (.box σ.length 8 0 0) ∧ env 9 = .one (.box σ.length 9 0 0) ∧ env 20 = .one (.slice .no 5 (m.map encT)) ∧ env 21 = .one (.int .i64 m.length) ∧ env 22 = .one (.int .i64 j) ∧
    loc 4 = [encF f] ∧ loc 7 = [encT s'] ∧ loc 8 = [z29] ∧ loc 9 = [.int .i64 k :: (enc t ++ [.slice ow 5 ((m.take j).map fun x => encT (x.put a d s')), .slice .full 5 []])] ∧ σ' = σ ∧ okOwn live ow
def i91b (f : Fm) (s' : Tm) (k : Int) (t : Ty) (m : List Tm) (l : List Fm) (a d d' : Int) (σ : List Frm) (j : Nat) : St → Prop
  | ⟨env, loc, σ', live⟩ => ∃ ow o, env 1 = .one (.int .i64 a) ∧ env 2 = .one (.int .i64 d) ∧ env 4 = .one (.box σ.length 4 0 0) ∧ env 7 = .one (.box σ.length 7 0 0) ∧ env 8 = .one (.box σ.length 8 0 0) ∧ env 9 = .one (.box σ.length 9 0 0) ∧ env 38 = .one (.slice .no 5 (l.map encF)) ∧ env 39 = .one (.int .i64 l.length) ∧ env 40 = .one (.int .i64 j) ∧
    loc 4 = [encF f] ∧ loc 7 = [encT s'] ∧ loc 8 = [z29] ∧ loc 9 = [.int .i64 k :: (enc t ++ [.slice o 5 (m.map fun x => encT (x.put a d s')), .slice ow 5 ((l.take j).map fun x => encF (x.put a d' s'))])] ∧ σ' = σ ∧ okOwn live ow
theorem c91 (s' : Tm) (hs1 : s'.size ≤ 549755813888) (hs2 : s'.ok = true) (hs3 : s'.least 536870912 = true) (a : Int) (ha0 : 0 ≤ a) (ha1 : a ≤ 4096) (f : Fm) : f.ok = true → f.least 536870912 = true → ∀ (d : Int), 0 ≤ d → d + f.size ≤ 549755813888 → ∀ (σ : List Frm), CallsV cfg 91 [.agg (encF f), .one (.int .i64 a), .one (.int .i64 d), .agg (encT s')] σ (.val (.agg (encF (f.put a d s')))) σ := by
  induction f using Fm.ind with
  | _ k t m l ih =>
  intro hok hle d hd0 hd1 σ
  simp at hd1
  have hlm := Tm.length_le m
  have hll := Fm.length_le l
  have hsp := t.size_pos
  obtain ⟨hpo, hqo⟩ := Fm.ok_parts hok
  obtain ⟨hpl, hql⟩ := Fm.least_parts hle
  refine w91 (by simp) ?_
  rw [s91, Fm.put_mk, bumpF_eq]
  obtain ⟨hb0, hb1⟩ := bumpF_le k
  simp
  refine wpP_range m.length (i91a (.mk k t m l) s' k t m a d σ) (by omega) ⟨.full, by simp, by simp, by simp, by simp, by simp, by simp, by simp, by simp, by simp, by simp, by simp, by simp [z29], by simp, rfl, by simp⟩ ?_ ?_ (hend := ?_)
  · rintro j ⟨env, loc, σ', live⟩ ⟨ow, e1, e2, e4, e7, e8, e9, e20, e21, e22, h4, h7, h8, h9, rfl, how⟩
    exact ⟨e22, e21⟩
  · rintro j ⟨env, loc, σ', live⟩ hj ⟨ow, e1, e2, e4, e7, e8, e9, e20, e21, e22, h4, h7, h8, h9, rfl, how⟩
    obtain ⟨x, hx, hdr, hm⟩ := drop_cons hj
    have := Tm.sizes_mem hm
    simp [e1, e2, e4, e7, e8, e9, e20, e21, e22, hx]
    refine wpP_draw (fun _ _ _ => false) ?_
    simp [e1, e2, e4, e7, e8, e9, h4, h7, h9]
    refine stepD_call (c137 s' hs1 hs2 hs3 a ha0 ha1 x (hpo x hm) (hpl x hm) d (by omega) (by omega) _) (by simp) ?_
    simp [how, e1, e2, e4, e7, e8, e9, h4, h7, h9]
    exact ⟨by omega, by omega, .tip live.nx, by simp, by simp, by simp, by simp, by simp, by simp, by simp, by simp, by simp, by simp [h4], by simp [h7], by simp [h8], by simp [List.take_add_one, hx], rfl, grown_on⟩
  · rintro ⟨env, loc, σ', live⟩ ⟨ow, e1, e2, e4, e7, e8, e9, e20, e21, e22, h4, h7, h8, h9, rfl, how⟩
    simp [e1, e2, e4, e7, e8, e9, h4, h7, h8, h9]
    refine wpP_range l.length (i91b (.mk k t m l) s' k t m l a d (d + bumpF k) σ') (by omega) ⟨.full, ow, by simp, by simp, by simp, by simp, by simp, by simp, by simp, by simp, by simp, by simp [h4], by simp [h7], by simp [h8], by simp [h9], rfl, by simp⟩ ?_ ?_ (hend := ?_)
    · rintro j ⟨env, loc, σ', live⟩ ⟨ow, o, e1, e2, e4, e7, e8, e9, e38, e39, e40, h4, h7, h8, h9, rfl, how⟩
      exact ⟨e40, e39⟩
    · rintro j ⟨env, loc, σ', live⟩ hj ⟨ow, o, e1, e2, e4, e7, e8, e9, e38, e39, e40, h4, h7, h8, h9, rfl, how⟩
      obtain ⟨x, hx, hdr, hm⟩ := drop_cons hj
      have := Fm.sizes_mem hm
      simp [e1, e2, e4, e7, e8, e9, e38, e39, e40, hx]
      refine wpP_draw (fun _ _ _ => false) ?_
      simp [e1, e2, e4, e7, e8, e9, h4, h7, h9]
      refine stepD_call (c134 k t m l _) (by simp) ?_
      simp [e1, e2, e4, e7, e8, e9, h4, h7, h9]
      rw [wrap_id (by omega) (by omega)]
      refine stepD_call (ih x hm (hqo x hm) (hql x hm) (d + bumpF k) (by omega) (by omega) _) (by simp) ?_
      simp [how, e1, e2, e4, e7, e8, e9, h4, h7, h9]
      exact ⟨by omega, by omega, .tip live.nx, o, by simp, by simp, by simp, by simp, by simp, by simp, by simp, by simp, by simp, by simp [h4], by simp [h7], by simp [h8], by simp [List.take_add_one, hx], rfl, grown_on⟩
    · rintro ⟨env, loc, σ', live⟩ ⟨ow, o, e1, e2, e4, e7, e8, e9, e38, e39, e40, h4, h7, h8, h9, rfl, how⟩
      simp [e8, e9, h8, h9, z29]
theorem c82 (σ : List Frm) : CallsV cfg 82 [] σ (.val (.agg (enc .nat))) σ := by
  refine w82 (by simp) ?_
  rw [s82]
  simp [Ty.nat]
theorem c34 (σ : List Frm) : CallsV cfg 34 [] σ (.val (.agg (enc .nat))) σ := by
  refine w34 (by simp) ?_
  rw [s34]
  simp
  refine opV_call (c82 _) (by simp) ?_
  simp
theorem Tm.sizes_map {f : Tm → Tm} {l : List Tm} (h : ∀ x ∈ l, (f x).size = x.size) : Tm.sizes (l.map f) = Tm.sizes l := by
  induction l with
  | nil => simp
  | cons x l ih => simp [h x (by simp), ih fun y hy => h y (by simp [hy])]
theorem Fm.sizes_map {f : Fm → Fm} {l : List Fm} (h : ∀ x ∈ l, (f x).size = x.size) : Fm.sizes (l.map f) = Fm.sizes l := by
  induction l with
  | nil => simp
  | cons x l ih => simp [h x (by simp), ih fun y hy => h y (by simp [hy])]
theorem Tm.up_size (t : Tm) : ∀ a b, (t.up a b).size = t.size := by
  induction t using Tm.ind with
  | _ k i t l ih =>
    intro a b
    rw [Tm.up_mk]
    simp [Tm.sizes_map fun x hx => ih x hx _ _]
theorem Fm.up_size (f : Fm) : ∀ a b, (f.up a b).size = f.size := by
  induction f using Fm.ind with
  | _ k t m l ih =>
    intro a b
    rw [Fm.up_mk]
    simp [Tm.sizes_map fun x _ => Tm.up_size x _ _, Fm.sizes_map fun x hx => ih x hx _ _]
theorem Tm.puts_size {s : Tm} {l : List Tm} {a d d' : Int} (h : ∀ x ∈ l, ((x.put a d s).size : Int) ≤ x.size + x.times d' * (s.size : Int)) : (Tm.sizes (l.map fun x => x.put a d s) : Int) ≤ Tm.sizes l + Tm.timess l d' * (s.size : Int) := by
  induction l with
  | nil => simp [Tm.timess]
  | cons x l ih =>
    have h1 := h x (by simp)
    have h2 := ih fun y hy => h y (by simp [hy])
    simp only [List.map_cons, Tm.sizes_cons, Tm.timess, Int.natCast_add, Int.add_mul]
    omega
theorem Fm.puts_size {s : Tm} {l : List Fm} {a d d' : Int} (h : ∀ x ∈ l, ((x.put a d s).size : Int) ≤ x.size + x.times d' * (s.size : Int)) : (Fm.sizes (l.map fun x => x.put a d s) : Int) ≤ Fm.sizes l + Fm.timess l d' * (s.size : Int) := by
  induction l with
  | nil => simp [Fm.timess]
  | cons x l ih =>
    have h1 := h x (by simp)
    have h2 := ih fun y hy => h y (by simp [hy])
    simp only [List.map_cons, Fm.sizes_cons, Fm.timess, Int.natCast_add, Int.add_mul]
    omega
theorem Tm.put_size (t : Tm) (s : Tm) : ∀ a d, ((t.put a d s).size : Int) ≤ t.size + t.times (a + d) * (s.size : Int) := by
  induction t using Tm.ind with
  | _ k i t l ih =>
    intro a d
    have h0 := t.size_pos
    rw [Tm.put_mk, Tm.times_mk]
    have hn : ∀ b, 0 ≤ Tm.timess l b * (s.size : Int) := fun b => Int.mul_nonneg (Tm.timess_le l b).1 (by omega)
    by_cases hk : k = 1
    · subst hk
      simp only [if_true, true_and]
      by_cases hi : i = a + d
      · rw [if_pos hi, if_pos hi, Tm.up_size, Int.add_mul, Int.one_mul]
        have := hn (if (1 : Int) = 2 then a + d + 1 else a + d)
        simp only [Tm.size_mk, Int.natCast_add]
        omega
      · rw [if_neg hi, if_neg hi, Int.zero_add]
        have := hn (if (1 : Int) = 2 then a + d + 1 else a + d)
        split
        · simp [Tm.var, Ty.zero] at *
          omega
        · omega
    · have hk' : ¬ (k = 1 ∧ i = a + d) := fun h => hk h.1
      have := Tm.puts_size (a := a) (d := if k = 2 then d + 1 else d) (d' := if k = 2 then a + d + 1 else a + d) (s := s) (l := l) fun x hx => by
        have e : (if k = 2 then a + d + 1 else a + d) = a + (if k = 2 then d + 1 else d) := by split <;> omega
        rw [e]
        exact ih x hx _ _
      simp only [if_neg hk, if_neg hk', Tm.size_mk, Int.natCast_add, Int.zero_add]
      omega
theorem Fm.put_size (f : Fm) (s : Tm) : ∀ a d, ((f.put a d s).size : Int) ≤ f.size + f.times (a + d) * (s.size : Int) := by
  induction f using Fm.ind with
  | _ k t m l ih =>
    intro a d
    rw [Fm.put_mk, Fm.times_mk]
    have h1 := Tm.puts_size (a := a) (d := d) (d' := a + d) (s := s) (l := m) fun x _ => Tm.put_size x s _ _
    have h2 := Fm.puts_size (a := a) (d := if fmQ k = true then d + 1 else d) (d' := if fmQ k = true then a + d + 1 else a + d) (s := s) (l := l) fun x hx => by
      have e : (if fmQ k = true then a + d + 1 else a + d) = a + (if fmQ k = true then d + 1 else d) := by split <;> omega
      rw [e]
      exact ih x hx _ _
    simp only [Fm.size_mk, Int.natCast_add, Int.add_mul]
    omega
theorem mul_le {x y : Int} {m n : Int} (hx0 : 0 ≤ x) (hx : x ≤ m) (hy0 : 0 ≤ y) (hy : y ≤ n) : 0 ≤ x * y ∧ x * y ≤ m * n :=
  ⟨Int.mul_nonneg hx0 hy0, Int.mul_le_mul hx hy hy0 (by omega)⟩
theorem c35 (f : Fm) (hsz : f.size ≤ 1099511627776) (fr b : Int) (σ : List Frm) : CallsV cfg 35 [.agg (encF f), .one (.int .i64 fr), .one (.int .i64 b)] σ (.val (.tup [.agg (encF (f.lift fr b).1), .one (.int .i64 (f.lift fr b).2)])) σ := by
  refine w35 (by simp) ?_
  rw [s35]
  simp
  refine opV_call (c77 f hsz _) (by simp) ?_
  by_cases hc : f.check = 0
  rotate_left
  · have hc' : (f.check == 0) = false := by simpa using hc
    simp [hc, hc', bne, Fm.lift, Fm.zeroF, Ty.zero]
  obtain ⟨hok, hcnt⟩ := Fm.check_ok2 hc
  by_cases h1 : fr < 0
  · simp [hc, h1, Fm.lift, Fm.zeroF, Ty.zero]
  by_cases h2 : 4096 < fr
  · simp [hc, h1, h2, Fm.lift, Fm.zeroF, Ty.zero]
  by_cases h3 : b < 0
  · simp [hc, h1, h2, h3, Fm.lift, Fm.zeroF, Ty.zero]
  by_cases h4 : 4096 < b
  · simp [hc, h1, h2, h3, h4, Fm.lift, Fm.zeroF, Ty.zero]
  simp [hc, h1, h2, h3, h4, Fm.lift]
  refine opV_call (c83 536870912 f hsz _) (by simp) ?_
  cases hl : f.least 536870912 with
  | false => simp [Fm.zeroF, Ty.zero]
  | true =>
    simp
    refine opV_call (c85 f hsz hok hl fr b (by omega) (by omega) (by omega) (by omega) _) (by simp) ?_
    simp
    refine opV_call (c84 (f.up fr b) (by rw [Fm.up_size]; exact hsz) _) (by simp) ?_
    simp
theorem c37 (f : Fm) (hsz : f.size ≤ 134217728) (a : Int) (s : Tm) (hs : s.size ≤ 134217728) (σ : List Frm) : CallsV cfg 37 [.agg (encF f), .one (.int .i64 a), .agg (encT s)] σ (.val (.tup [.agg (encF (f.putIn a s).1), .one (.int .i64 (f.putIn a s).2)])) σ := by
  refine w37 (by simp) ?_
  rw [s37]
  simp
  refine opV_call (c77 f (by omega) _) (by simp) ?_
  by_cases hc : f.check = 0
  rotate_left
  · have hc' : (f.check == 0) = false := by simpa using hc
    simp [hc, hc', bne, Fm.putIn, Fm.zeroF, Ty.zero]
  obtain ⟨hok, hcnt⟩ := Fm.check_ok2 hc
  by_cases h1 : a < 0
  · simp [hc, h1, Fm.putIn, Fm.zeroF, Ty.zero]
  by_cases h2 : 4096 < a
  · simp [hc, h1, h2, Fm.putIn, Fm.zeroF, Ty.zero]
  simp [hc, h1, h2]
  refine opV_call (c86 s (by omega) _) (by simp) ?_
  by_cases hcs : s.check = 0
  rotate_left
  · have hc' : (s.check == 0) = false := by simpa using hcs
    simp [hc, h1, h2, hcs, hc', bne, Fm.putIn, Fm.zeroF, Ty.zero]
  obtain ⟨hoks, hcnts⟩ := Tm.check_ok hcs
  simp [hcs]
  refine opV_call (c83 536870912 f (by omega) _) (by simp) ?_
  cases hl : f.least 536870912 with
  | false => simp [hc, h1, h2, hcs, hl, Fm.putIn, Fm.zeroF, Ty.zero]
  | true =>
    simp
    refine opV_call (c87 536870912 s (by omega) _) (by simp) ?_
    cases hm : s.least 536870912 with
    | false => simp [hc, h1, h2, hcs, hl, hm, Fm.putIn, Fm.zeroF, Ty.zero]
    | true =>
      have ht := f.times_le a
      have hm1 := mul_le (x := f.times a) (y := (s.count : Int) - 1) (m := 4096) (n := 4096) ht.1 (by omega) (by have : 1 ≤ s.count := (by cases s; simp); omega) (by omega)
      simp
      refine wpP_draw (fun _ _ _ => false) ?_
      simp
      refine stepD_call (c88 f (by omega) _) (by simp) ?_
      simp
      refine stepD_call (c89 f (by omega) a (by omega) (by omega) _) (by simp) ?_
      simp
      refine stepD_call (c90 s (by omega) _) (by simp) ?_
      have hc1 : 1 ≤ s.count := by cases s; simp
      simp
      rw [wrap_id (n := (s.count : Int) - 1) (by omega) (by omega), wrap_id (n := f.times a * ((s.count : Int) - 1)) (by omega) (by omega), wrap_id (by omega) (by omega)]
      by_cases h3 : 4096 < (f.count : Int) + f.times a * ((s.count : Int) - 1)
      · simp [hc, h1, h2, hcs, hl, hm, h3, Fm.putIn, Fm.zeroF, Ty.zero]
      · simp [hc, h1, h2, hcs, hl, hm, h3, Fm.putIn]
        refine opV_call (c91 s (by omega) hoks hm a (by omega) (by omega) f hok hl 0 (by omega) (by omega) _) (by simp) ?_
        simp
        have hz := Fm.put_size f s a 0
        rw [Int.add_zero] at hz
        have hm2 := mul_le (x := f.times a) (y := (s.size : Int)) (m := 4096) (n := 134217728) ht.1 (by omega) (by omega) (by omega)
        refine opV_call (c84 (f.put a 0 s) (by omega) _) (by simp) ?_
        simp
end Go.Proofs.YtbcejphjmghkbaaDoor.V


set_option maxRecDepth 100000
namespace Go.Proofs.YtbcejphjmghkbaaDoor.V
open Go Go.Proofs
theorem lift_size (f : Fm) (a b : Int) : (f.lift a b).1.size ≤ f.size + 2 := by
  unfold Fm.lift
  split
  · simp [Fm.zeroF, Ty.zero]
  · split
    · simp [Fm.zeroF, Ty.zero]
    · simp [Fm.up_size]
theorem putIn_size (f : Fm) (a : Int) (s : Tm) : ((f.putIn a s).1.size : Int) ≤ f.size + f.times a * (s.size : Int) + 2 := by
  have h : 0 ≤ f.times a * (s.size : Int) := Int.mul_nonneg (f.times_le a).1 (by omega)
  unfold Fm.putIn
  repeat' split
  all_goals try (simp [Fm.zeroF, Ty.zero]; omega)
  have := Fm.put_size f s a 0
  rw [Int.add_zero] at this
  simp
  omega
theorem ctype_size (f : Fm) : (ctype f).1.size ≤ 64 := by rw [ctype_eq]; exact Fm.rtype_size
set_option maxHeartbeats 1000000 in
theorem law4 (l : List Int) (hi : i64s l) (σ : List Frm) : CallsV cfg 4 [.one (.slice .no 1 (encI l))] σ (.val (.one (.bool true))) σ := by
  refine w4 (by simp) ?_
  rw [s4]
  simp
  refine opV_call (c15 _) (by simp) ?_
  simp
  refine opV_call (c16 l _) (by simp) ?_
  by_cases hl : l.length ≤ 500
  rotate_left
  · simp [hl]
    refine opV_call (c15 _) (by simp) ?_
    simp
  simp [hl]
  have hd : Dk l := ⟨by omega, hi⟩
  refine opV_new (c21 l _) (by simp) ?_
  simp
  refine opV_own1 (d33 hd ⟨σ.length, 25, 0⟩ (List.suffix_refl l)) (by simp) (by simp [Pl.ptr]) ?_
  have hc := mkContext_good l
  have hcs := mkContext_suf l
  generalize (mkContext l).1 = g at hc
  generalize (mkContext l).2 = r1 at hcs
  have hg : Good 64 g := fun x hx => ⟨(hc.1 x hx).1, by have := (hc.1 x hx).2; omega⟩
  have hgn : Good 64 (g ++ [Ty.nat]) := fun x hx => by
    rcases List.mem_append.1 hx with h | h
    · exact hg x h
    · rw [List.mem_singleton.1 h]; exact ⟨Ty.nat_ok, by simp⟩
  simp
  refine ⟨by omega, by omega, ?_⟩
  refine opV_call (c34 _) (by simp) ?_
  simp
  refine ⟨by omega, by omega, ?_⟩
  refine opV_own1 (d23 hd ⟨σ.length, 25, 0⟩ 3 (by omega) (g ++ [.nat]) hgn (by simp; omega) hcs) (by simp) (by simp [Pl.ptr]) ?_
  have hf := mkFormula_fine (m := 64) (by omega) (by omega) 3 (g ++ [.nat]) r1 hgn
  have hfs : (mkFormula 3 (g ++ [.nat]) r1).1.size ≤ 200000 := Nat.le_trans hf.2 (fmB_small 3 (by omega))
  have hfl := mkFormula_least 3 (g ++ [.nat]) r1 536870912 hgn (by simp; omega)
  have hr2 := (mkFormula_suf 3 (g ++ [.nat]) r1).trans hcs
  generalize (mkFormula 3 (g ++ [.nat]) r1).1 = f at hf hfs hfl
  generalize (mkFormula 3 (g ++ [.nat]) r1).2 = r2 at hr2
  simp
  refine opV_call (c24 f (by omega) _) (by simp) ?_
  simp [enc2]
  refine wpP_draw (atPl ⟨σ.length, 25, 0⟩) ?_
  simp [atPl]
  refine stepD_own (dNext hd hr2 ⟨σ.length, 25, 0⟩ (n := 3) (by omega)) (by simp) (by simp [Pl.ptr]) ?_
  have hn := next_range (n := 3) (by omega) r2
  have hr3 := (next_suf 3 r2).trans hr2
  generalize (next 3 r2).1 = n at hn
  generalize (next 3 r2).2 = r3 at hr3
  simp
  rw [wrap_id (by omega) (by omega)]
  refine stepD_call (c35 f (by omega) 0 (1 + n) _) (by simp) ?_
  simp [atPl]
  refine wpP_draw (atPl ⟨σ.length, 25, 0⟩) ?_
  simp [atPl]
  refine stepD_call (c34 _) (by simp) ?_
  simp [atPl]
  refine stepD_own (d38 hd ⟨σ.length, 25, 0⟩ 2 (by omega) g .nat hg ⟨Ty.nat_ok, by simp⟩ (by omega) hr3) (by simp) (by simp [Pl.ptr]) ?_
  have ht := mkTerm_fine (m := 64) (by omega) 2 g .nat r3 hg ⟨Ty.nat_ok, by simp⟩
  have hts : (mkTerm 2 g .nat r3).1.size ≤ 100000 := Nat.le_trans ht.2 (tmB_small 2 (by omega))
  have htl := mkTerm_least 2 g .nat r3 536870912 hg ⟨Ty.nat_ok, by simp⟩ (by omega)
  generalize (mkTerm 2 g .nat r3).1 = t at ht hts htl
  generalize (mkTerm 2 g .nat r3).2 = r4
  simp [atPl]
  refine stepD_call (c37 f (by omega) 0 t (by omega) _) (by simp) ?_
  have hA := lift_cases hf.1 (b := 1 + n) (by omega) (by omega) hfl
  have hB := putIn_cases hf.1 ht.1 hfl htl
  have hAs := lift_size f 0 (1 + n)
  have hBs := putIn_size f 0 t
  have hBt := mul_le (x := f.times 0) (y := (t.size : Int)) (m := 200000) (n := 100000) (f.times_le 0).1 (by have := f.times_le 0; have := f.count_le; omega) (by omega) (by omega)
  have hcz := ctype_size f
  generalize f.lift 0 (1 + n) = A at hA hAs
  generalize f.putIn 0 t = B at hB hBs
  rcases hA with hA | ⟨hA0, hA1, hA2, hA3⟩
  · simp [atPl, hA]
  rcases hB with hB | ⟨hB0, hB1, hB2, hB3⟩
  · simp [atPl, hA1, hB]
  simp [atPl, hA1, hB1]
  refine opV_call (c24 A.1 (by omega) _) (by simp) ?_
  simp [enc2]
  refine opV_call (c24 B.1 (by omega) _) (by simp) ?_
  simp [enc2]
  rw [hA3, hB3]
  simp
  refine opV_call (c26 (ctype f).1 (ctype f).1 (by omega) _) (by simp) ?_
  simp [Ty.same_refl]
  refine opV_call (c26 (ctype f).1 (ctype f).1 (by omega) _) (by simp) ?_
  simp [Ty.same_refl]
end Go.Proofs.YtbcejphjmghkbaaDoor.V


set_option maxRecDepth 100000
namespace Go.Proofs.YtbcejphjmghkbaaDoor.V
open Go Go.Proofs
theorem c40 (e : Int) (σ : List Frm) : CallsV cfg 40 [.one (.int .i64 e)] σ (.val (.one (.bool (e == 4 || e == 5 || e == 3)))) σ := by
  refine w40 (by simp) ?_
  rw [s40]
  by_cases h4 : e = 4
  · subst h4; simp
  · by_cases h5 : e = 5
    · subst h5; simp
    · simp [h4, h5]
theorem Fm.count_le_size (f : Fm) : f.count ≤ f.size := f.count_le
theorem mkF0 (d : Nat) (hd : d ≤ 3) (g : List Ty) (r : List Int) (hg : Good 3 g) : (mkFormula d g r).1.ok = true ∧ (mkFormula d g r).1.size ≤ 1637 := by
  have h := mkFormula_fine (m := 3) (by omega) (by omega) d g r hg
  have hs : ∀ d, d ≤ 3 → fmB 3 d ≤ 1637 := by decide
  exact ⟨h.1, Nat.le_trans h.2 (hs d hd)⟩
theorem Fm.check_lt {f : Fm} (h : f.ok = true) (hs : f.size ≤ 4096) : f.check = 0 := Fm.check_small h (Nat.le_trans f.count_le hs)
theorem law5 (l : List Int) (hi : i64s l) (σ : List Frm) : CallsV cfg 5 [.one (.slice .no 1 (encI l))] σ (.val (.one (.bool true))) σ := by
  refine w5 (by simp) ?_
  rw [s5]
  simp
  refine opV_call (c15 _) (by simp) ?_
  simp
  refine opV_call (c16 l _) (by simp) ?_
  by_cases hl : l.length ≤ 500
  rotate_left
  · simp [hl]
    refine opV_call (c15 _) (by simp) ?_
    simp
  simp [hl]
  have hd : Dk l := ⟨by omega, hi⟩
  refine opV_new (c21 l _) (by simp) ?_
  simp
  have hg0 : Good 3 [] := fun x hx => by cases hx
  have hg1 : Good 64 [] := fun x hx => by cases hx
  refine opV_own1 (d23 hd ⟨σ.length, 25, 0⟩ 3 (by omega) [] hg1 (by simp) (List.suffix_refl l)) (by simp) (by simp [Pl.ptr]) ?_
  obtain ⟨hf1, hf2⟩ := mkF0 3 (by omega) [] l hg0
  have hr := mkFormula_suf 3 [] l
  generalize (mkFormula 3 [] l).1 = f at hf1 hf2
  generalize (mkFormula 3 [] l).2 = r at hr
  simp
  refine opV_own1 (d23 hd ⟨σ.length, 25, 0⟩ 2 (by omega) [] hg1 (by simp) hr) (by simp) (by simp [Pl.ptr]) ?_
  obtain ⟨hg1, hg2⟩ := mkF0 2 (by omega) [] r hg0
  generalize (mkFormula 2 [] r).1 = g at hg1 hg2
  generalize (mkFormula 2 [] r).2 = r'
  have hfc := Fm.check_lt hf1 (by omega)
  simp
  refine opV_call (c39 f (by omega) _) (by simp) ?_
  simp [hasOf, hfc]
  refine opV_call (c24 f (by omega) _) (by simp) ?_
  simp [enc2]
  refine opV_call (c24 g (by omega) _) (by simp) ?_
  simp [enc2]
  refine opV_call (c24 (.two 3 f g) (by simp; omega) _) (by simp [Fm.two, Ty.zero]) ?_
  have hj := Fm.two_ok (k := 3) (.inr rfl) hf1 hg1
  have s1 := ctype_size f
  have s2 := ctype_size g
  have s3 := ctype_size (.two 3 f g)
  rcases ctype_err hf1 with e1 | e1
  rotate_left
  · simp [enc2, e1]
    refine opV_call (c40 4 _) (by simp) ?_
    simp
  rcases ctype_err hg1 with e2 | e2
  rotate_left
  · simp [enc2, e1, e2]
    refine opV_call (c40 0 _) (by simp) ?_
    simp
    refine opV_call (c40 4 _) (by simp) ?_
    simp
  rcases ctype_err hj with e3 | e3
  rotate_left
  · simp [enc2, e1, e2, e3]
    refine opV_call (c40 0 _) (by simp) ?_
    simp
    refine opV_call (c40 0 _) (by simp) ?_
    simp
    refine opV_call (c40 4 _) (by simp) ?_
    simp
  obtain ⟨m1, m2, m3⟩ := ctype_imp e1 e2 e3
  have hgc := Fm.check_lt hg1 (by omega)
  cases hfh : f.has with
  | false =>
    obtain ⟨q1, q2⟩ := m1 hfh
    simp [enc2, e1, e2, e3, q1, q2, Ty.unit]
    refine opV_call (c26 (ctype g).1 (ctype g).1 (by omega) _) (by simp) ?_
    simp [Ty.same_refl]
  | true =>
    simp [enc2, e1, e2, e3]
    refine opV_call (c39 g (by omega) _) (by simp) ?_
    simp [hasOf, hgc]
    refine wpP_draw (fun _ _ _ => false) ?_
    cases hgh : g.has with
    | false =>
      simp [m3 hgh, Ty.unit]
    | true =>
      simp
      refine stepD_call (c41 (ctype f).1 (ctype g).1 _) (by simp) ?_
      simp [m2 hfh hgh]
      refine stepD_call (c26 (.fn (ctype f).1 (ctype g).1) (.fn (ctype f).1 (ctype g).1) (by simp; omega) _) (by simp) ?_
      simp [Ty.same_refl]
end Go.Proofs.YtbcejphjmghkbaaDoor.V


set_option maxRecDepth 100000
namespace Go.Proofs.YtbcejphjmghkbaaDoor.V
open Go Go.Proofs
def i6 (t : Ty) (f : Fm) (L : List Int) (σ : List Frm) (j : Nat) : St → Prop
  | ⟨env, loc, σ', _⟩ => env 4 = .one (.box σ.length 4 0 0) ∧ env 5 = .one (.box σ.length 5 0 0) ∧ env 6 = .one (.box σ.length 6 0 0) ∧ env 8 = .one (.bool f.has) ∧ env 52 = .one (.slice .full 1 (encI L)) ∧ env 53 = .one (.int .i64 2) ∧ env 54 = .one (.int .i64 j) ∧
    loc 4 = [enc t] ∧ loc 5 = [encF f] ∧ loc 6 = [enc (ctype f).1] ∧ σ' = σ
theorem law6 (l : List Int) (hi : i64s l) (σ : List Frm) : CallsV cfg 6 [.one (.slice .no 1 (encI l))] σ (.val (.one (.bool true))) σ := by
  refine w6 (by simp) ?_
  rw [s6]
  simp
  refine opV_call (c15 _) (by simp) ?_
  simp
  refine opV_call (c16 l _) (by simp) ?_
  by_cases hl : l.length ≤ 500
  rotate_left
  · simp [hl]
    refine opV_call (c15 _) (by simp) ?_
    simp
  simp [hl]
  have hd : Dk l := ⟨by omega, hi⟩
  refine opV_new (c21 l _) (by simp) ?_
  simp
  refine opV_own1 (d42 hd ⟨σ.length, 27, 0⟩ 1 (by omega) (List.suffix_refl l)) (by simp) (by simp [Pl.ptr]) ?_
  obtain ⟨ht1, ht2⟩ := mkType1 l
  have hr := mkType_suf 1 l
  generalize (mkType 1 l).1 = t at ht1 ht2
  generalize (mkType 1 l).2 = r at hr
  have hg0 : Good 3 [t] := fun x hx => by rw [List.mem_singleton.1 hx]; exact ⟨ht1, ht2⟩
  have hg1 : Good 64 [t] := fun x hx => by rw [List.mem_singleton.1 hx]; exact ⟨ht1, by omega⟩
  simp
  refine opV_own1 (d23 hd ⟨σ.length, 27, 0⟩ 3 (by omega) [t] hg1 (by simp) hr) (by simp) (by simp [Pl.ptr]) ?_
  obtain ⟨hf1, hf2⟩ := mkF0 3 (by omega) [t] r hg0
  generalize (mkFormula 3 [t] r).1 = f at hf1 hf2
  generalize (mkFormula 3 [t] r).2 = r'
  have hfc := Fm.check_lt hf1 (by omega)
  have htc : t.check = 0 := Ty.check_iff.2 ⟨ht1, by omega⟩
  have s1 := ctype_size f
  simp
  refine opV_call (c24 f (by omega) _) (by simp) ?_
  simp [enc2]
  refine opV_call (c39 f (by omega) _) (by simp) ?_
  simp [hasOf, hfc]
  rcases ctype_err hf1 with e1 | e1
  rotate_left
  · simp [enc2, e1]
    refine opV_call (c40 4 _) (by simp) ?_
    simp
  simp [e1]
  have hq : ∀ k, (k = 4 ∨ k = 5 ∨ k = 6 ∨ k = 7) → (Fm.q k t f).check = 0 ∧ ctype (.q k t f) = rstep k t (if k = 5 then true else f.has) (f.has, ctype f) (f.has, ctype f) := fun k hk => by
    have h : (Fm.q k t f).check = 0 := Fm.check_lt (Fm.q_ok hk htc hf1) (by simp; omega)
    exact ⟨h, ctype_q hk h hfc⟩
  have hno : f.has = false → ctype f = (.unit, 0) := fun h => by rw [ctype_ok hfc, Fm.rof_none h]
  have h67 : ∀ k, (k = 6 ∨ k = 7) → ctype (.q k t f) = ctype f := fun k hk => by
    rw [(hq k (by omega)).2]
    cases hh : f.has with
    | false => rw [hno hh]; rcases hk with rfl | rfl <;> simp [rstep]
    | true => rcases hk with rfl | rfl <;> simp [rstep]
  obtain ⟨L, hL⟩ : ∃ L : List Int, L = [6, 7] := ⟨_, rfl⟩
  refine wpP_range 2 (i6 t f L σ) (by omega) ⟨by simp, by simp, by simp, by simp, by simp [hL, encI], by simp, by simp, by simp, by simp, by simp, rfl⟩ ?_ ?_ (hend := ?_)
  · rintro j ⟨env, loc, σ', live⟩ ⟨e4, e5, e6, e8, e52, e53, e54, l4, l5, l6, rfl⟩
    exact ⟨e54, by simpa using e53⟩
  · rintro j ⟨env, loc, σ', live⟩ hj ⟨e4, e5, e6, e8, e52, e53, e54, l4, l5, l6, rfl⟩
    obtain ⟨k, hk, hk2⟩ : ∃ k : Int, L[j]? = some k ∧ (k = 6 ∨ k = 7) := by
      subst hL
      have : j = 0 ∨ j = 1 := by omega
      rcases this with rfl | rfl
      · exact ⟨6, rfl, .inl rfl⟩
      · exact ⟨7, rfl, .inr rfl⟩
    simp [e4, e5, e6, e8, e52, e53, e54, l4, l5, l6, encI_get hk]
    refine opV_call (c24 (.q k t f) (by simp; omega) _) (by simp [Fm.q]) ?_
    simp [enc2, h67 k hk2, e1, e4, e5, e6, e8, e52, e53, e54, l4, l5, l6]
    refine opV_call (c26 (ctype f).1 (ctype f).1 (by omega) _) (by simp) ?_
    simp [Ty.same_refl, e4, e5, e6, e8, e52, e53, e54, l4, l5, l6]
    exact ⟨by simp, by simp, by simp, by simp, by simp, by simp, by simp, by simp [l4], by simp [l5], by simp [l6], rfl⟩
  · rintro ⟨env, loc, σ', live⟩ ⟨e4, e5, e6, e8, e52, e53, e54, l4, l5, l6, rfl⟩
    simp [e4, e5, e6, e8, l4, l5, l6]
    refine opV_call (c24 (.q 4 t f) (by simp; omega) _) (by simp [Fm.q]) ?_
    simp [enc2, e4, e5, e6, e8, l4, l5, l6]
    refine opV_call (c24 (.q 5 t f) (by simp; omega) _) (by simp [Fm.q]) ?_
    have z4 := ctype_size (.q 4 t f)
    have z5 := ctype_size (.q 5 t f)
    rcases ctype_err (Fm.q_ok (k := 4) (.inl rfl) htc hf1) with e9 | e9
    rotate_left
    · simp [enc2, e9, e4, e5, e6, e8, l4, l5, l6]
      refine opV_call (c40 4 _) (by simp) ?_
      simp
    rcases ctype_err (Fm.q_ok (k := 5) (.inr (.inl rfl)) htc hf1) with e10 | e10
    rotate_left
    · simp [enc2, e9, e10, e4, e5, e6, e8, l4, l5, l6]
      refine opV_call (c40 0 _) (by simp) ?_
      simp
      refine opV_call (c40 4 _) (by simp) ?_
      simp
    have q4 := (hq 4 (by omega)).2
    have q5 := (hq 5 (by omega)).2
    cases hh : f.has with
    | false =>
      rw [hh] at q4 q5
      simp [rstep] at q4 q5
      simp [enc2, q4, q5, e4, e5, e6, e8, l4, l5, l6, hh, Ty.unit]
      refine opV_call (c26 t t (by omega) _) (by simp) ?_
      simp [Ty.same_refl]
    | true =>
      rw [hh] at q4 q5
      simp [rstep, e1] at q4 q5
      rw [q4] at e9
      rw [q5] at e10
      have f4 := fits_zero e9
      have f5 := fits_zero e10
      rw [f4] at q4
      rw [f5] at q5
      simp [enc2, q4, q5, e4, e5, e6, e8, l4, l5, l6, hh]
      refine wpP_draw (fun _ _ _ => false) ?_
      simp [e4, e5, e6, e8, l4, l5, l6]
      refine stepD_call (c41 t (ctype f).1 _) (by simp) ?_
      simp [e4, e5, e6, e8, l4, l5, l6]
      refine stepD_call (c26 (.fn t (ctype f).1) (.fn t (ctype f).1) (by simp; omega) _) (by simp) ?_
      simp [Ty.same_refl, e4, e5, e6, e8, l4, l5, l6]
      refine stepD_call (c43 t (ctype f).1 _) (by simp) ?_
      simp [e4, e5, e6, e8, l4, l5, l6]
      refine stepD_call (c26 (.pair t (ctype f).1) (.pair t (ctype f).1) (by simp; omega) _) (by simp) ?_
      simp [Ty.same_refl]
end Go.Proofs.YtbcejphjmghkbaaDoor.V


namespace Go.Proofs.YtbcejphjmghkbaaDoor.V
open Go
mutual
def Tm.same : Tm → Tm → Bool
  | .mk k i t l, .mk k' i' t' l' => (k == k') && ((i == i') && (Ty.same t t' && Tm.sames l l'))
def Tm.sames : List Tm → List Tm → Bool
  | [], [] => true
  | x :: l, y :: m => x.same y && Tm.sames l m
  | _, _ => false
end
mutual
def Fm.same : Fm → Fm → Bool
  | .mk k t m l, .mk k' t' m' l' => (k == k') && (Ty.same t t' && (Tm.sames m m' && Fm.sames l l'))
def Fm.sames : List Fm → List Fm → Bool
  | [], [] => true
  | x :: l, y :: m => x.same y && Fm.sames l m
  | _, _ => false
end
@[simp] theorem Tm.sames_nil : Tm.sames [] [] = true := by rw [Tm.sames]
@[simp] theorem Tm.sames_cons (x y : Tm) (l m : List Tm) : Tm.sames (x :: l) (y :: m) = (x.same y && Tm.sames l m) := by rw [Tm.sames]
@[simp] theorem Fm.sames_nil : Fm.sames [] [] = true := by rw [Fm.sames]
@[simp] theorem Fm.sames_cons (x y : Fm) (l m : List Fm) : Fm.sames (x :: l) (y :: m) = (x.same y && Fm.sames l m) := by rw [Fm.sames]
theorem Tm.sames_length : ∀ {l m : List Tm}, Tm.sames l m = true → l.length = m.length
  | [], [], _ => rfl
  | _ :: l, _ :: m, h => by
    simp only [Tm.sames_cons, Bool.and_eq_true] at h
    simp [Tm.sames_length h.2]
  | [], _ :: _, h => by simp [Tm.sames] at h
  | _ :: _, [], h => by simp [Tm.sames] at h
theorem Fm.sames_length : ∀ {l m : List Fm}, Fm.sames l m = true → l.length = m.length
  | [], [], _ => rfl
  | _ :: l, _ :: m, h => by
    simp only [Fm.sames_cons, Bool.and_eq_true] at h
    simp [Fm.sames_length h.2]
  | [], _ :: _, h => by simp [Fm.sames] at h
  | _ :: _, [], h => by simp [Fm.sames] at h
def Fm.ty : Fm → Ty
  | .mk _ t _ _ => t
def Fm.tms : Fm → List Tm
  | .mk _ _ m _ => m
def Fm.kids : Fm → List Fm
  | .mk _ _ _ l => l
def Tm.kids : Tm → List Tm
  | .mk _ _ _ l => l
def less (s t : Tm) : Fm := .eq (.app2 .sub (.node 5 [s]) t) (.node 4 [])
def Fm.kid (f : Fm) (i : Nat) : Fm := f.kids.getD i .zeroF
def Tm.kid (t : Tm) (i : Nat) : Tm := t.kids.getD i .zeroT
def Fm.bound (f : Fm) : Bool × Tm × Fm × Bool :=
  let all := decide (f.kind = 4)
  if f.kind ≠ (if all = true then 4 else 5) ∨ f.ty.kind ≠ 1 ∨ (f.kid 0).kind ≠ (if all = true then 3 else 2) ∨ ((f.kid 0).kid 0).kind ≠ 1 then (false, .zeroT, .zeroF, false)
  else
    let e := (f.kid 0).kid 0
    let s := e.tms.getD 0 .zeroT
    if s.kind ≠ 3 ∨ 0 < (s.kid 1).times 0 ∨ e.same (less (.var 0) (s.kid 1)) = false then (false, .zeroT, .zeroF, false)
    else (all, s.kid 1, (f.kid 0).kid 1, true)
structure Cls where
  c : Bool
  q : Bool
  d : Bool
def Cls.n (x : Cls) : Int := (if x.c = true then 1 else 0) + (if x.q = true then 2 else 0) + (if x.d = true then 4 else 0)
def clsStep (k : Int) (fst lst : Cls) (bnd : Bool) (body : Cls) : Cls :=
  if k = 1 then ⟨false, true, true⟩
  else if k = 2 then ⟨lst.c || fst.c, fst.q && lst.q, fst.d && lst.d⟩
  else if k = 3 then ⟨lst.c, fst.q && lst.q, fst.d && lst.d⟩
  else ⟨if k = 5 then true else lst.c, false, if bnd = true then body.d else false⟩
def Cls.none : Cls := ⟨false, false, false⟩
mutual
def Fm.clsP : Fm → Cls × List Cls
  | .mk k t m l => (clsStep k ((Fm.clsPs l).headD (.none, [])).1 ((Fm.clsPs l).getLastD (.none, [])).1 (Fm.mk k t m l).bound.2.2.2 (((Fm.clsPs l).headD (.none, [])).2.getD 1 .none), (Fm.clsPs l).map (·.1))
def Fm.clsPs : List Fm → List (Cls × List Cls)
  | [] => []
  | x :: l => x.clsP :: Fm.clsPs l
end
def Fm.cls (f : Fm) : Cls := f.clsP.1
theorem Fm.clsPs_eq (l : List Fm) : Fm.clsPs l = l.map Fm.clsP := by
  induction l with
  | nil => rw [Fm.clsPs]; rfl
  | cons x l ih => rw [Fm.clsPs, ih]; rfl
theorem Fm.clsP_mk (k : Int) (t : Ty) (m : List Tm) (l : List Fm) : (Fm.mk k t m l).clsP = (clsStep k ((l.map Fm.clsP).headD (.none, [])).1 ((l.map Fm.clsP).getLastD (.none, [])).1 (Fm.mk k t m l).bound.2.2.2 (((l.map Fm.clsP).headD (.none, [])).2.getD 1 .none), l.map Fm.cls) := by
  rw [Fm.clsP, Fm.clsPs_eq, List.map_map]
  rfl
theorem cls_eq {t : Ty} {m : List Tm} {l : List Fm} : (Fm.mk 1 t m l).cls = ⟨false, true, true⟩ := by
  simp [Fm.cls, Fm.clsP_mk, clsStep]
theorem cls_two {k : Int} (hk : k = 2 ∨ k = 3) {t : Ty} {m : List Tm} {y x : Fm} : (Fm.mk k t m [y, x]).cls = ⟨if k = 2 then x.cls.c || y.cls.c else x.cls.c, y.cls.q && x.cls.q, y.cls.d && x.cls.d⟩ := by
  rcases hk with rfl | rfl <;> simp [Fm.cls, Fm.clsP_mk, clsStep]
theorem cls_q {k : Int} (hk : k = 4 ∨ k = 5 ∨ k = 6 ∨ k = 7) {t : Ty} {m : List Tm} {x : Fm} : (Fm.mk k t m [x]).cls = ⟨if k = 5 then true else x.cls.c, false, if (Fm.mk k t m [x]).bound.2.2.2 = true then (x.kids.map Fm.cls).getD 1 .none |>.d else false⟩ := by
  have e : x.clsP.2 = x.kids.map Fm.cls := by obtain ⟨k, t, m, l⟩ := x; rw [Fm.clsP_mk]; rfl
  rcases hk with rfl | rfl | rfl | rfl <;> simp [Fm.cls, Fm.clsP_mk, clsStep, e]
theorem cls_has (f : Fm) : f.ok = true → f.cls.c = f.has := by
  induction f using Fm.ind with
  | _ k t m l ih =>
    intro hok
    rw [Fm.has_mk]
    rcases Fm.shape hok with ⟨rfl, rfl⟩ | ⟨hk, y, x, rfl, hy, hx⟩ | ⟨hk, ht, x, rfl, hx⟩
    · simp [cls_eq]
    · rw [cls_two hk]
      have h1 := ih y (by simp) hy
      have h2 := ih x (by simp) hx
      rcases hk with rfl | rfl
      · simp [h1, h2, Bool.or_comm]
      · simp [h2]
    · rw [cls_q hk]
      have h2 := ih x (by simp) hx
      rcases hk with rfl | rfl | rfl | rfl <;> simp [h2]
end Go.Proofs.YtbcejphjmghkbaaDoor.V


set_option maxRecDepth 100000
namespace Go.Proofs.YtbcejphjmghkbaaDoor.V
open Go Go.Proofs
noncomputable section
def a144 : List Ann := [⟨[1, 2], [], []⟩,
 ⟨[1, 2, 3], [], []⟩,
 ⟨[2, 3, 10, 11, 12], [], []⟩,
 ⟨[2, 3, 10, 11, 12, 13], [], []⟩,
 ⟨[2, 3, 5, 10, 11, 12], [], []⟩,
 ⟨[2, 3, 10, 11, 12], [0, 1, 0, 4, 12, 31, 63, 127], [false, true, false, true, false, false, false, false]⟩,
 ⟨[2, 3, 10, 11, 12], [], []⟩,
 ⟨[2], [], []⟩]
def s144 : SC := .seq (.ops [⟨some 1, .box 25 (.tmp 0), 0, .always⟩,
 ⟨some 2, .alloc 25, 0, .always⟩] [1, 2])
 (.seq (.ops [⟨some 6, .fieldAddr 25 (.tmp 1) 0, 0, .always⟩,
 ⟨some 7, .load 3 (.tmp 6), 3, .always⟩,
 ⟨some 8, .build 25 #[(0, .tmp 7)], 25, .always⟩,
 ⟨some 3, .alloc 25, 0, .always⟩,
 ⟨none, .store 25 (.tmp 3) (.tmp 8), 0, .always⟩] [1, 2, 3])
 (.seq (.seq (.ops [⟨some 9, .fieldAddr 25 (.tmp 1) 1, 0, .always⟩,
 ⟨some 10, .load 23 (.tmp 9), 23, .always⟩,
 ⟨some 11, .call { callee := .builtin .len, args := #[.tmp 10], argTypes := #[23] }, 3, .always⟩,
 ⟨some 12, .move (.const (.int .i64 0)), 3, .always⟩] [2, 3, 10, 11, 12])
 (.block 0
 (.loop
 (.seq (.ops [⟨some 13, .binOp .lss 3 (.tmp 12) (.tmp 11) 3, 0, .always⟩] [2, 3, 10, 11, 12, 13])
 (.seq (.cond (.tmp 13)
 (.skip)
 (.exit 0))
 (.seq (.block 1
 (.seq (.ops [⟨some 14, .indexAddr 23 (.tmp 10) (.tmp 12), 0, .always⟩,
 ⟨some 15, .load 25 (.tmp 14), 25, .always⟩,
 ⟨some 5, .alloc 25, 0, .always⟩,
 ⟨none, .store 25 (.tmp 5) (.tmp 15), 0, .always⟩] [2, 3, 5, 10, 11, 12])
 (.draw [⟨some 16, .fieldAddr 25 (.tmp 3) 1, 0, .always⟩,
 ⟨some 17, .load 23 (.tmp 16), 23, .always⟩,
 ⟨some 18, .load 25 (.tmp 5), 25, .always⟩,
 ⟨some 19, .call { callee := .value (.func 144), args := #[.tmp 18], argTypes := #[25] }, 25, .always⟩,
 ⟨some 20, .buildSlice 23 1 #[(0, .tmp 19)], 23, .always⟩,
 ⟨some 21, .call { callee := .builtin .append, args := #[.tmp 17, .tmp 20], argTypes := #[23, 23] }, 23, .always⟩,
 ⟨some 22, .fieldAddr 25 (.tmp 3) 1, 0, .always⟩,
 ⟨none, .store 23 (.tmp 22) (.tmp 21), 0, .always⟩] [false, true, false, true, false, false, false, false] [2, 3, 10, 11, 12])))
 (.ops [⟨some 23, .binOp .add 3 (.tmp 12) (.const (.int .i64 1)) 3, 3, .always⟩,
 ⟨some 12, .move (.tmp 23), 3, .always⟩] [2, 3, 10, 11, 12])))))))
 (.seq (.ops [⟨some 24, .load 25 (.tmp 3), 25, .always⟩,
 ⟨none, .store 25 (.tmp 2) (.tmp 24), 0, .always⟩] [2])
 (.ret))))
theorem w144 {args : List PV} {σ σ' : List Frm} {r : Ret} (hr : ∀ p, r = .val p → erV p = p) (h : wpP cfg s144 (QEndP cfg [.cell 2 25] σ' r) ⟨initEnv args, fun _ => [], σ, ⟨fun _ => false, 0⟩⟩) : CallsV cfg 144 args σ r σ' :=
 callsV_of_p follows cfgT a144 (fn := Tryd.f144) (c := Tryd.f144.body.getD .skip) (by kernel_rfl) (by kernel_rfl) (by kernel_rfl) (by kernel_rfl) (by kernel_rfl) (sc := s144) (by kernel_rfl) [.cell 2 25] (by kernel_rfl) hr h
def a142 : List Ann := [⟨[1, 3], [], []⟩,
 ⟨[1, 3, 4], [], []⟩,
 ⟨[1, 3, 4, 7], [], []⟩,
 ⟨[1, 3, 4], [0, 0, 2, 6, 14, 31, 0, 64, 192, 448, 63, 2047], [false, false, false, true, false, true, false, true, false, true, false, false]⟩,
 ⟨[2, 3], [0, 0, 1, 7], [false, false, false, false]⟩]
def s142 : SC := .seq (.ops [⟨some 1, .box 29 (.tmp 0), 0, .always⟩,
 ⟨some 2, .assign (.const (.slice none 0 0)), 23, .always⟩,
 ⟨some 3, .alloc 29, 0, .always⟩] [1, 3])
 (.seq (.ops [⟨some 4, .assign (.const (.slice none 0 0)), 23, .always⟩] [1, 3, 4])
 (.seq (.block 0
 (.loop
 (.seq (.seq (.ops [⟨some 5, .fieldAddr 29 (.tmp 1) 0, 0, .always⟩,
 ⟨some 6, .load 3 (.tmp 5), 3, .always⟩,
 ⟨some 7, .binOp .eql 3 (.tmp 6) (.const (.int .i64 4)) 3, 4, .always⟩] [1, 3, 4, 7])
 (.cond (.tmp 7)
 (.skip)
 (.exit 0)))
 (.block 1
 (.draw [⟨some 8, .move (.tmp 4), 23, .always⟩,
 ⟨some 9, .fieldAddr 29 (.tmp 1) 1, 0, .always⟩,
 ⟨some 10, .load 25 (.tmp 9), 25, .always⟩,
 ⟨some 11, .call { callee := .value (.func 144), args := #[.tmp 10], argTypes := #[25] }, 25, .always⟩,
 ⟨some 12, .buildSlice 23 1 #[(0, .tmp 11)], 23, .always⟩,
 ⟨some 13, .call { callee := .builtin .append, args := #[.tmp 8, .tmp 12], argTypes := #[23, 23] }, 23, .always⟩,
 ⟨some 14, .fieldAddr 29 (.tmp 1) 3, 0, .always⟩,
 ⟨some 15, .load 27 (.tmp 14), 27, .always⟩,
 ⟨some 16, .indexAddr 27 (.tmp 15) (.const (.int .i64 0)), 0, .always⟩,
 ⟨some 17, .load 29 (.tmp 16), 29, .always⟩,
 ⟨some 4, .assign (.tmp 13), 23, .always⟩,
 ⟨none, .store 29 (.tmp 1) (.tmp 17), 0, .always⟩] [false, false, false, true, false, true, false, true, false, true, false, false] [1, 3, 4])))))
 (.seq (.draw [⟨some 18, .move (.tmp 4), 23, .always⟩,
 ⟨some 19, .load 29 (.tmp 1), 29, .always⟩,
 ⟨some 2, .assign (.tmp 18), 23, .always⟩,
 ⟨none, .store 29 (.tmp 3) (.tmp 19), 0, .always⟩] [false, false, false, false] [2, 3])
 (.ret))))
theorem w142 {args : List PV} {σ σ' : List Frm} {r : Ret} (hr : ∀ p, r = .val p → erV p = p) (h : wpP cfg s142 (QEndP cfg [.tmp 2, .cell 3 29] σ' r) ⟨initEnv args, fun _ => [], σ, ⟨fun _ => false, 0⟩⟩) : CallsV cfg 142 args σ r σ' :=
 callsV_of_p follows cfgT a142 (fn := Tryd.f142) (c := Tryd.f142.body.getD .skip) (by kernel_rfl) (by kernel_rfl) (by kernel_rfl) (by kernel_rfl) (by kernel_rfl) (sc := s142) (by kernel_rfl) [.tmp 2, .cell 3 29] (by kernel_rfl) hr h
def a181 : List Ann := [⟨[0], [], []⟩,
 ⟨[4], [], []⟩,
 ⟨[2, 3], [], []⟩,
 ⟨[2, 3], [], []⟩]
def s181 : SC := .seq (.ops [⟨some 2, .assign (.const (.int .i64 0)), 3, .always⟩,
 ⟨some 3, .assign (.const (.int .i64 0)), 3, .always⟩] [0])
 (.seq (.seq (.ops [⟨some 4, .move (.tmp 0), 4, .always⟩] [4])
 (.cond (.tmp 4)
 (.seq (.ops [⟨some 2, .assign (.const (.int .i64 4)), 3, .always⟩,
 ⟨some 3, .assign (.const (.int .i64 3)), 3, .always⟩] [2, 3])
 (.ret))
 (.skip)))
 (.seq (.ops [⟨some 2, .assign (.const (.int .i64 5)), 3, .always⟩,
 ⟨some 3, .assign (.const (.int .i64 2)), 3, .always⟩] [2, 3])
 (.ret)))
theorem w181 {args : List PV} {σ σ' : List Frm} {r : Ret} (hr : ∀ p, r = .val p → erV p = p) (h : wpP cfg s181 (QEndP cfg [.tmp 2, .tmp 3] σ' r) ⟨initEnv args, fun _ => [], σ, ⟨fun _ => false, 0⟩⟩) : CallsV cfg 181 args σ r σ' :=
 callsV_of_p follows cfgT a181 (fn := Tryd.f181) (c := Tryd.f181.body.getD .skip) (by kernel_rfl) (by kernel_rfl) (by kernel_rfl) (by kernel_rfl) (by kernel_rfl) (sc := s181) (by kernel_rfl) [.tmp 2, .tmp 3] (by kernel_rfl) hr h
def a172 : List Ann := [⟨[1, 2, 3, 4], [], []⟩,
 ⟨[1, 2, 3, 4, 10], [], []⟩,
 ⟨[1, 3, 4], [], []⟩,
 ⟨[1, 3, 4, 18], [], []⟩,
 ⟨[1, 3, 4], [], []⟩,
 ⟨[1, 3, 22, 23, 24], [], []⟩,
 ⟨[1, 3, 22, 23, 24, 25], [], []⟩,
 ⟨[1, 3, 7, 22, 23, 24], [], []⟩,
 ⟨[1, 3, 22, 23, 24], [], []⟩,
 ⟨[1, 3, 22, 23, 24], [], []⟩]
def s172 : SC := .seq (.ops [⟨some 4, .box 62 (.tmp 0), 0, .always⟩] [1, 2, 3, 4])
 (.seq (.seq (.ops [⟨some 8, .fieldAddr 62 (.tmp 4) 0, 0, .always⟩,
 ⟨some 9, .load 3 (.tmp 8), 3, .always⟩,
 ⟨some 10, .binOp .eql 3 (.tmp 9) (.const (.int .i64 1)) 3, 4, .always⟩] [1, 2, 3, 4, 10])
 (.cond (.tmp 10)
 (.ops [⟨some 11, .load 155 (.tmp 2), 155, .always⟩,
 ⟨some 12, .fieldAddr 62 (.tmp 4) 1, 0, .always⟩,
 ⟨some 13, .load 3 (.tmp 12), 3, .always⟩,
 ⟨some 14, .move (.tmp 1), 3, .always⟩,
 ⟨some 15, .call { callee := .value (.tmp 11), args := #[.tmp 13, .tmp 14], argTypes := #[3, 3] }, 0, .always⟩] [1, 3, 4])
 (.skip)))
 (.seq (.seq (.ops [⟨some 16, .fieldAddr 62 (.tmp 4) 0, 0, .always⟩,
 ⟨some 17, .load 3 (.tmp 16), 3, .always⟩,
 ⟨some 18, .binOp .eql 3 (.tmp 17) (.const (.int .i64 2)) 3, 4, .always⟩] [1, 3, 4, 18])
 (.cond (.tmp 18)
 (.ops [⟨some 19, .move (.tmp 1), 3, .always⟩,
 ⟨some 20, .binOp .add 3 (.tmp 19) (.const (.int .i64 1)) 3, 3, .always⟩,
 ⟨some 1, .assign (.tmp 20), 3, .always⟩] [1, 3, 4])
 (.skip)))
 (.seq (.ops [⟨some 21, .fieldAddr 62 (.tmp 4) 3, 0, .always⟩,
 ⟨some 22, .load 26 (.tmp 21), 26, .always⟩,
 ⟨some 23, .call { callee := .builtin .len, args := #[.tmp 22], argTypes := #[26] }, 3, .always⟩,
 ⟨some 24, .move (.const (.int .i64 0)), 3, .always⟩] [1, 3, 22, 23, 24])
 (.block 0
 (.loop
 (.seq (.ops [⟨some 25, .binOp .lss 3 (.tmp 24) (.tmp 23) 3, 0, .always⟩] [1, 3, 22, 23, 24, 25])
 (.seq (.cond (.tmp 25)
 (.skip)
 (.exit 0))
 (.seq (.block 1
 (.seq (.ops [⟨some 26, .indexAddr 26 (.tmp 22) (.tmp 24), 0, .always⟩,
 ⟨some 27, .load 62 (.tmp 26), 62, .always⟩,
 ⟨some 7, .alloc 62, 0, .always⟩,
 ⟨none, .store 62 (.tmp 7) (.tmp 27), 0, .always⟩] [1, 3, 7, 22, 23, 24])
 (.ops [⟨some 28, .load 175 (.tmp 3), 175, .always⟩,
 ⟨some 29, .load 62 (.tmp 7), 62, .always⟩,
 ⟨some 30, .move (.tmp 1), 3, .always⟩,
 ⟨some 31, .call { callee := .value (.tmp 28), args := #[.tmp 29, .tmp 30], argTypes := #[62, 3] }, 0, .always⟩] [1, 3, 22, 23, 24])))
 (.ops [⟨some 32, .binOp .add 3 (.tmp 24) (.const (.int .i64 1)) 3, 3, .always⟩,
 ⟨some 24, .move (.tmp 32), 3, .always⟩] [1, 3, 22, 23, 24])))))))))
theorem w172 {args : List PV} {σ σ' : List Frm} {r : Ret} (hr : ∀ p, r = .val p → erV p = p) (h : wpP cfg s172 (QEndP cfg [] σ' r) ⟨initEnv args, fun _ => [], σ, ⟨fun _ => false, 0⟩⟩) : CallsV cfg 172 args σ r σ' :=
 callsV_of_p follows cfgT a172 (fn := Tryd.f172) (c := Tryd.f172.body.getD .skip) (by kernel_rfl) (by kernel_rfl) (by kernel_rfl) (by kernel_rfl) (by kernel_rfl) (sc := s172) (by kernel_rfl) [] (by kernel_rfl) hr h
def a147 : List Ann := [⟨[2, 3], [], []⟩,
 ⟨[2, 3, 4], [], []⟩,
 ⟨[2, 4], [], []⟩,
 ⟨[], [], []⟩]
def s147 : SC := .seq (.ops [⟨some 2, .box 62 (.tmp 0), 0, .always⟩,
 ⟨some 3, .box 155 (.tmp 1), 0, .always⟩] [2, 3])
 (.seq (.ops [⟨some 4, .alloc 175, 0, .always⟩] [2, 3, 4])
 (.seq (.ops [⟨some 5, .makeFunc (.func 172) #[] #[.tmp 3, .tmp 4], 175, .always⟩,
 ⟨none, .store 175 (.tmp 4) (.tmp 5), 0, .always⟩] [2, 4])
 (.ops [⟨some 6, .load 175 (.tmp 4), 175, .always⟩,
 ⟨some 7, .load 62 (.tmp 2), 62, .always⟩,
 ⟨some 8, .call { callee := .value (.tmp 6), args := #[.tmp 7, .const (.int .i64 0)], argTypes := #[62, 3] }, 0, .always⟩] [])))
theorem w147 {args : List PV} {σ σ' : List Frm} {r : Ret} (hr : ∀ p, r = .val p → erV p = p) (h : wpP cfg s147 (QEndP cfg [] σ' r) ⟨initEnv args, fun _ => [], σ, ⟨fun _ => false, 0⟩⟩) : CallsV cfg 147 args σ r σ' :=
 callsV_of_p follows cfgT a147 (fn := Tryd.f147) (c := Tryd.f147.body.getD .skip) (by kernel_rfl) (by kernel_rfl) (by kernel_rfl) (by kernel_rfl) (by kernel_rfl) (sc := s147) (by kernel_rfl) [] (by kernel_rfl) hr h
def a193 : List Ann := [⟨[3, 10], [], []⟩,
 ⟨[], [], []⟩]
def s193 : SC := .seq (.ops [⟨some 6, .move (.tmp 0), 3, .always⟩,
 ⟨some 7, .move (.tmp 1), 3, .always⟩,
 ⟨some 8, .binOp .sub 3 (.tmp 6) (.tmp 7) 3, 3, .always⟩,
 ⟨some 9, .load 3 (.tmp 2), 3, .always⟩,
 ⟨some 10, .binOp .eql 3 (.tmp 8) (.tmp 9) 3, 4, .always⟩] [3, 10])
 (.cond (.tmp 10)
 (.ops [⟨some 11, .load 3 (.tmp 3), 3, .always⟩,
 ⟨some 12, .binOp .add 3 (.tmp 11) (.const (.int .i64 1)) 3, 3, .always⟩,
 ⟨none, .store 3 (.tmp 3) (.tmp 12), 0, .always⟩] [])
 (.skip))
theorem w193 {args : List PV} {σ σ' : List Frm} {r : Ret} (hr : ∀ p, r = .val p → erV p = p) (h : wpP cfg s193 (QEndP cfg [] σ' r) ⟨initEnv args, fun _ => [], σ, ⟨fun _ => false, 0⟩⟩) : CallsV cfg 193 args σ r σ' :=
 callsV_of_p follows cfgT a193 (fn := Tryd.f193) (c := Tryd.f193.body.getD .skip) (by kernel_rfl) (by kernel_rfl) (by kernel_rfl) (by kernel_rfl) (by kernel_rfl) (sc := s193) (by kernel_rfl) [] (by kernel_rfl) hr h
def a182 : List Ann := [⟨[2, 3], [], []⟩,
 ⟨[2, 3, 5], [], []⟩,
 ⟨[5], [], []⟩,
 ⟨[4], [], []⟩]
def s182 : SC := .seq (.ops [⟨some 2, .box 62 (.tmp 0), 0, .always⟩,
 ⟨some 3, .box 3 (.tmp 1), 0, .always⟩,
 ⟨some 4, .assign (.const (.int .i64 0)), 3, .always⟩] [2, 3])
 (.seq (.ops [⟨some 5, .alloc 3, 0, .always⟩,
 ⟨none, .store 3 (.tmp 5) (.const (.int .i64 0)), 0, .always⟩] [2, 3, 5])
 (.seq (.ops [⟨some 6, .load 62 (.tmp 2), 62, .always⟩,
 ⟨some 7, .makeFunc (.func 193) #[] #[.tmp 3, .tmp 5], 155, .always⟩,
 ⟨some 8, .call { callee := .value (.func 147), args := #[.tmp 6, .tmp 7], argTypes := #[62, 155] }, 0, .always⟩] [5])
 (.seq (.ops [⟨some 9, .load 3 (.tmp 5), 3, .always⟩,
 ⟨some 4, .assign (.tmp 9), 3, .always⟩] [4])
 (.ret))))
theorem w182 {args : List PV} {σ σ' : List Frm} {r : Ret} (hr : ∀ p, r = .val p → erV p = p) (h : wpP cfg s182 (QEndP cfg [.tmp 4] σ' r) ⟨initEnv args, fun _ => [], σ, ⟨fun _ => false, 0⟩⟩) : CallsV cfg 182 args σ r σ' :=
 callsV_of_p follows cfgT a182 (fn := Tryd.f182) (c := Tryd.f182.body.getD .skip) (by kernel_rfl) (by kernel_rfl) (by kernel_rfl) (by kernel_rfl) (by kernel_rfl) (sc := s182) (by kernel_rfl) [.tmp 4] (by kernel_rfl) hr h
def a175 : List Ann := [⟨[2, 3], [], []⟩,
 ⟨[2, 3, 20], [], []⟩,
 ⟨[4], [], []⟩,
 ⟨[3, 22, 23, 24], [], []⟩,
 ⟨[3, 22, 23, 24, 25], [], []⟩,
 ⟨[3, 5, 6, 22, 23, 24], [], []⟩,
 ⟨[3, 22, 23, 24, 36], [0, 0, 2, 0, 14, 30, 63, 127], [false, false, false, false, false, false, false, false]⟩,
 ⟨[4], [], []⟩,
 ⟨[3, 22, 23, 24], [], []⟩,
 ⟨[4], [], []⟩]
def s175 : SC := .seq (.ops [⟨some 2, .box 25 (.tmp 0), 0, .always⟩,
 ⟨some 3, .box 25 (.tmp 1), 0, .always⟩,
 ⟨some 4, .assign (.const (.bool false)), 4, .always⟩] [2, 3])
 (.seq (.seq (.ops [⟨some 7, .fieldAddr 25 (.tmp 2) 0, 0, .always⟩,
 ⟨some 8, .load 3 (.tmp 7), 3, .always⟩,
 ⟨some 9, .fieldAddr 25 (.tmp 3) 0, 0, .always⟩,
 ⟨some 10, .load 3 (.tmp 9), 3, .always⟩,
 ⟨some 11, .binOp .neq 3 (.tmp 8) (.tmp 10) 3, 4, .always⟩,
 ⟨some 12, .move (.tmp 11), 4, .always⟩,
 ⟨some 13, .fieldAddr 25 (.tmp 2) 1, 0, .tmp 12 false⟩,
 ⟨some 14, .load 23 (.tmp 13), 23, .tmp 12 false⟩,
 ⟨some 15, .call { callee := .builtin .len, args := #[.tmp 14], argTypes := #[23] }, 3, .tmp 12 false⟩,
 ⟨some 16, .fieldAddr 25 (.tmp 3) 1, 0, .tmp 12 false⟩,
 ⟨some 17, .load 23 (.tmp 16), 23, .tmp 12 false⟩,
 ⟨some 18, .call { callee := .builtin .len, args := #[.tmp 17], argTypes := #[23] }, 3, .tmp 12 false⟩,
 ⟨some 19, .binOp .neq 3 (.tmp 15) (.tmp 18) 3, 4, .tmp 12 false⟩,
 ⟨some 20, .pick (.tmp 12) (.const (.bool true)) (.tmp 19), 4, .always⟩] [2, 3, 20])
 (.cond (.tmp 20)
 (.seq (.ops [⟨some 4, .assign (.const (.bool false)), 4, .always⟩] [4])
 (.ret))
 (.skip)))
 (.seq (.seq (.ops [⟨some 21, .fieldAddr 25 (.tmp 2) 1, 0, .always⟩,
 ⟨some 22, .load 23 (.tmp 21), 23, .always⟩,
 ⟨some 23, .call { callee := .builtin .len, args := #[.tmp 22], argTypes := #[23] }, 3, .always⟩,
 ⟨some 24, .move (.const (.int .i64 0)), 3, .always⟩] [3, 22, 23, 24])
 (.block 0
 (.loop
 (.seq (.ops [⟨some 25, .binOp .lss 3 (.tmp 24) (.tmp 23) 3, 0, .always⟩] [3, 22, 23, 24, 25])
 (.seq (.cond (.tmp 25)
 (.skip)
 (.exit 0))
 (.seq (.block 1
 (.seq (.ops [⟨some 26, .move (.tmp 24), 3, .always⟩,
 ⟨some 27, .indexAddr 23 (.tmp 22) (.tmp 24), 0, .always⟩,
 ⟨some 28, .load 25 (.tmp 27), 25, .always⟩,
 ⟨some 6, .alloc 25, 0, .always⟩,
 ⟨some 5, .assign (.tmp 26), 3, .always⟩,
 ⟨none, .store 25 (.tmp 6) (.tmp 28), 0, .always⟩] [3, 5, 6, 22, 23, 24])
 (.seq (.draw [⟨some 29, .load 25 (.tmp 6), 25, .always⟩,
 ⟨some 30, .fieldAddr 25 (.tmp 3) 1, 0, .always⟩,
 ⟨some 31, .load 23 (.tmp 30), 23, .always⟩,
 ⟨some 32, .move (.tmp 5), 3, .always⟩,
 ⟨some 33, .indexAddr 23 (.tmp 31) (.tmp 32), 0, .always⟩,
 ⟨some 34, .load 25 (.tmp 33), 25, .always⟩,
 ⟨some 35, .call { callee := .value (.func 175), args := #[.tmp 29, .tmp 34], argTypes := #[25, 25] }, 4, .always⟩,
 ⟨some 36, .unOp .not 4 (.tmp 35), 4, .always⟩] [false, false, false, false, false, false, false, false] [3, 22, 23, 24, 36])
 (.cond (.tmp 36)
 (.seq (.ops [⟨some 4, .assign (.const (.bool false)), 4, .always⟩] [4])
 (.ret))
 (.skip)))))
 (.ops [⟨some 37, .binOp .add 3 (.tmp 24) (.const (.int .i64 1)) 3, 3, .always⟩,
 ⟨some 24, .move (.tmp 37), 3, .always⟩] [3, 22, 23, 24])))))))
 (.seq (.ops [⟨some 4, .assign (.const (.bool true)), 4, .always⟩] [4])
 (.ret))))
theorem w175 {args : List PV} {σ σ' : List Frm} {r : Ret} (hr : ∀ p, r = .val p → erV p = p) (h : wpP cfg s175 (QEndP cfg [.tmp 4] σ' r) ⟨initEnv args, fun _ => [], σ, ⟨fun _ => false, 0⟩⟩) : CallsV cfg 175 args σ r σ' :=
 callsV_of_p follows cfgT a175 (fn := Tryd.f175) (c := Tryd.f175.body.getD .skip) (by kernel_rfl) (by kernel_rfl) (by kernel_rfl) (by kernel_rfl) (by kernel_rfl) (sc := s175) (by kernel_rfl) [.tmp 4] (by kernel_rfl) hr h
def a155 : List Ann := [⟨[2, 3], [], []⟩,
 ⟨[2, 3, 35], [], []⟩,
 ⟨[4], [], []⟩,
 ⟨[3, 37, 38, 39], [], []⟩,
 ⟨[3, 37, 38, 39, 40], [], []⟩,
 ⟨[3, 5, 6, 37, 38, 39], [], []⟩,
 ⟨[3, 37, 38, 39, 51], [0, 0, 2, 0, 14, 30, 63, 127], [false, false, false, false, false, false, false, false]⟩,
 ⟨[4], [], []⟩,
 ⟨[3, 37, 38, 39], [], []⟩,
 ⟨[4], [], []⟩]
def s155 : SC := .seq (.ops [⟨some 2, .box 62 (.tmp 0), 0, .always⟩,
 ⟨some 3, .box 62 (.tmp 1), 0, .always⟩,
 ⟨some 4, .assign (.const (.bool false)), 4, .always⟩] [2, 3])
 (.seq (.seq (.ops [⟨some 7, .fieldAddr 62 (.tmp 2) 0, 0, .always⟩,
 ⟨some 8, .load 3 (.tmp 7), 3, .always⟩,
 ⟨some 9, .fieldAddr 62 (.tmp 3) 0, 0, .always⟩,
 ⟨some 10, .load 3 (.tmp 9), 3, .always⟩,
 ⟨some 11, .binOp .neq 3 (.tmp 8) (.tmp 10) 3, 4, .always⟩,
 ⟨some 12, .move (.tmp 11), 4, .always⟩,
 ⟨some 13, .fieldAddr 62 (.tmp 2) 1, 0, .tmp 12 false⟩,
 ⟨some 14, .load 3 (.tmp 13), 3, .tmp 12 false⟩,
 ⟨some 15, .fieldAddr 62 (.tmp 3) 1, 0, .tmp 12 false⟩,
 ⟨some 16, .load 3 (.tmp 15), 3, .tmp 12 false⟩,
 ⟨some 17, .binOp .neq 3 (.tmp 14) (.tmp 16) 3, 4, .tmp 12 false⟩,
 ⟨some 18, .pick (.tmp 12) (.const (.bool true)) (.tmp 17), 4, .always⟩,
 ⟨some 19, .move (.tmp 18), 4, .always⟩,
 ⟨some 20, .fieldAddr 62 (.tmp 2) 2, 0, .tmp 19 false⟩,
 ⟨some 21, .load 25 (.tmp 20), 25, .tmp 19 false⟩,
 ⟨some 22, .fieldAddr 62 (.tmp 3) 2, 0, .tmp 19 false⟩,
 ⟨some 23, .load 25 (.tmp 22), 25, .tmp 19 false⟩,
 ⟨some 24, .call { callee := .value (.func 175), args := #[.tmp 21, .tmp 23], argTypes := #[25, 25] }, 4, .tmp 19 false⟩,
 ⟨some 25, .unOp .not 4 (.tmp 24), 4, .tmp 19 false⟩,
 ⟨some 26, .pick (.tmp 19) (.const (.bool true)) (.tmp 25), 4, .always⟩,
 ⟨some 27, .move (.tmp 26), 4, .always⟩,
 ⟨some 28, .fieldAddr 62 (.tmp 2) 3, 0, .tmp 27 false⟩,
 ⟨some 29, .load 26 (.tmp 28), 26, .tmp 27 false⟩,
 ⟨some 30, .call { callee := .builtin .len, args := #[.tmp 29], argTypes := #[26] }, 3, .tmp 27 false⟩,
 ⟨some 31, .fieldAddr 62 (.tmp 3) 3, 0, .tmp 27 false⟩,
 ⟨some 32, .load 26 (.tmp 31), 26, .tmp 27 false⟩,
 ⟨some 33, .call { callee := .builtin .len, args := #[.tmp 32], argTypes := #[26] }, 3, .tmp 27 false⟩,
 ⟨some 34, .binOp .neq 3 (.tmp 30) (.tmp 33) 3, 4, .tmp 27 false⟩,
 ⟨some 35, .pick (.tmp 27) (.const (.bool true)) (.tmp 34), 4, .always⟩] [2, 3, 35])
 (.cond (.tmp 35)
 (.seq (.ops [⟨some 4, .assign (.const (.bool false)), 4, .always⟩] [4])
 (.ret))
 (.skip)))
 (.seq (.seq (.ops [⟨some 36, .fieldAddr 62 (.tmp 2) 3, 0, .always⟩,
 ⟨some 37, .load 26 (.tmp 36), 26, .always⟩,
 ⟨some 38, .call { callee := .builtin .len, args := #[.tmp 37], argTypes := #[26] }, 3, .always⟩,
 ⟨some 39, .move (.const (.int .i64 0)), 3, .always⟩] [3, 37, 38, 39])
 (.block 0
 (.loop
 (.seq (.ops [⟨some 40, .binOp .lss 3 (.tmp 39) (.tmp 38) 3, 0, .always⟩] [3, 37, 38, 39, 40])
 (.seq (.cond (.tmp 40)
 (.skip)
 (.exit 0))
 (.seq (.block 1
 (.seq (.ops [⟨some 41, .move (.tmp 39), 3, .always⟩,
 ⟨some 42, .indexAddr 26 (.tmp 37) (.tmp 39), 0, .always⟩,
 ⟨some 43, .load 62 (.tmp 42), 62, .always⟩,
 ⟨some 6, .alloc 62, 0, .always⟩,
 ⟨some 5, .assign (.tmp 41), 3, .always⟩,
 ⟨none, .store 62 (.tmp 6) (.tmp 43), 0, .always⟩] [3, 5, 6, 37, 38, 39])
 (.seq (.draw [⟨some 44, .load 62 (.tmp 6), 62, .always⟩,
 ⟨some 45, .fieldAddr 62 (.tmp 3) 3, 0, .always⟩,
 ⟨some 46, .load 26 (.tmp 45), 26, .always⟩,
 ⟨some 47, .move (.tmp 5), 3, .always⟩,
 ⟨some 48, .indexAddr 26 (.tmp 46) (.tmp 47), 0, .always⟩,
 ⟨some 49, .load 62 (.tmp 48), 62, .always⟩,
 ⟨some 50, .call { callee := .value (.func 155), args := #[.tmp 44, .tmp 49], argTypes := #[62, 62] }, 4, .always⟩,
 ⟨some 51, .unOp .not 4 (.tmp 50), 4, .always⟩] [false, false, false, false, false, false, false, false] [3, 37, 38, 39, 51])
 (.cond (.tmp 51)
 (.seq (.ops [⟨some 4, .assign (.const (.bool false)), 4, .always⟩] [4])
 (.ret))
 (.skip)))))
 (.ops [⟨some 52, .binOp .add 3 (.tmp 39) (.const (.int .i64 1)) 3, 3, .always⟩,
 ⟨some 39, .move (.tmp 52), 3, .always⟩] [3, 37, 38, 39])))))))
 (.seq (.ops [⟨some 4, .assign (.const (.bool true)), 4, .always⟩] [4])
 (.ret))))
theorem w155 {args : List PV} {σ σ' : List Frm} {r : Ret} (hr : ∀ p, r = .val p → erV p = p) (h : wpP cfg s155 (QEndP cfg [.tmp 4] σ' r) ⟨initEnv args, fun _ => [], σ, ⟨fun _ => false, 0⟩⟩) : CallsV cfg 155 args σ r σ' :=
 callsV_of_p follows cfgT a155 (fn := Tryd.f155) (c := Tryd.f155.body.getD .skip) (by kernel_rfl) (by kernel_rfl) (by kernel_rfl) (by kernel_rfl) (by kernel_rfl) (sc := s155) (by kernel_rfl) [.tmp 4] (by kernel_rfl) hr h
def a183 : List Ann := [⟨[2, 3], [], []⟩,
 ⟨[2, 3, 39], [], []⟩,
 ⟨[4], [], []⟩,
 ⟨[2, 3, 41, 42, 43], [], []⟩,
 ⟨[2, 3, 41, 42, 43, 44], [], []⟩,
 ⟨[2, 3, 5, 6, 41, 42, 43], [], []⟩,
 ⟨[2, 3, 41, 42, 43, 55], [0, 0, 2, 0, 14, 30, 63, 127], [false, false, false, false, false, false, false, false]⟩,
 ⟨[4], [], []⟩,
 ⟨[2, 3, 41, 42, 43], [], []⟩,
 ⟨[3, 58, 59, 60], [], []⟩,
 ⟨[3, 58, 59, 60, 61], [], []⟩,
 ⟨[3, 7, 8, 58, 59, 60], [], []⟩,
 ⟨[3, 58, 59, 60, 72], [0, 0, 2, 0, 14, 30, 63, 127], [false, false, false, false, false, false, false, false]⟩,
 ⟨[4], [], []⟩,
 ⟨[3, 58, 59, 60], [], []⟩,
 ⟨[4], [], []⟩]
def s183 : SC := .seq (.ops [⟨some 2, .box 29 (.tmp 0), 0, .always⟩,
 ⟨some 3, .box 29 (.tmp 1), 0, .always⟩,
 ⟨some 4, .assign (.const (.bool false)), 4, .always⟩] [2, 3])
 (.seq (.seq (.ops [⟨some 9, .fieldAddr 29 (.tmp 2) 0, 0, .always⟩,
 ⟨some 10, .load 3 (.tmp 9), 3, .always⟩,
 ⟨some 11, .fieldAddr 29 (.tmp 3) 0, 0, .always⟩,
 ⟨some 12, .load 3 (.tmp 11), 3, .always⟩,
 ⟨some 13, .binOp .neq 3 (.tmp 10) (.tmp 12) 3, 4, .always⟩,
 ⟨some 14, .move (.tmp 13), 4, .always⟩,
 ⟨some 15, .fieldAddr 29 (.tmp 2) 1, 0, .tmp 14 false⟩,
 ⟨some 16, .load 25 (.tmp 15), 25, .tmp 14 false⟩,
 ⟨some 17, .fieldAddr 29 (.tmp 3) 1, 0, .tmp 14 false⟩,
 ⟨some 18, .load 25 (.tmp 17), 25, .tmp 14 false⟩,
 ⟨some 19, .call { callee := .value (.func 175), args := #[.tmp 16, .tmp 18], argTypes := #[25, 25] }, 4, .tmp 14 false⟩,
 ⟨some 20, .unOp .not 4 (.tmp 19), 4, .tmp 14 false⟩,
 ⟨some 21, .pick (.tmp 14) (.const (.bool true)) (.tmp 20), 4, .always⟩,
 ⟨some 22, .move (.tmp 21), 4, .always⟩,
 ⟨some 23, .fieldAddr 29 (.tmp 2) 2, 0, .tmp 22 false⟩,
 ⟨some 24, .load 26 (.tmp 23), 26, .tmp 22 false⟩,
 ⟨some 25, .call { callee := .builtin .len, args := #[.tmp 24], argTypes := #[26] }, 3, .tmp 22 false⟩,
 ⟨some 26, .fieldAddr 29 (.tmp 3) 2, 0, .tmp 22 false⟩,
 ⟨some 27, .load 26 (.tmp 26), 26, .tmp 22 false⟩,
 ⟨some 28, .call { callee := .builtin .len, args := #[.tmp 27], argTypes := #[26] }, 3, .tmp 22 false⟩,
 ⟨some 29, .binOp .neq 3 (.tmp 25) (.tmp 28) 3, 4, .tmp 22 false⟩,
 ⟨some 30, .pick (.tmp 22) (.const (.bool true)) (.tmp 29), 4, .always⟩,
 ⟨some 31, .move (.tmp 30), 4, .always⟩,
 ⟨some 32, .fieldAddr 29 (.tmp 2) 3, 0, .tmp 31 false⟩,
 ⟨some 33, .load 27 (.tmp 32), 27, .tmp 31 false⟩,
 ⟨some 34, .call { callee := .builtin .len, args := #[.tmp 33], argTypes := #[27] }, 3, .tmp 31 false⟩,
 ⟨some 35, .fieldAddr 29 (.tmp 3) 3, 0, .tmp 31 false⟩,
 ⟨some 36, .load 27 (.tmp 35), 27, .tmp 31 false⟩,
 ⟨some 37, .call { callee := .builtin .len, args := #[.tmp 36], argTypes := #[27] }, 3, .tmp 31 false⟩,
 ⟨some 38, .binOp .neq 3 (.tmp 34) (.tmp 37) 3, 4, .tmp 31 false⟩,
 ⟨some 39, .pick (.tmp 31) (.const (.bool true)) (.tmp 38), 4, .always⟩] [2, 3, 39])
 (.cond (.tmp 39)
 (.seq (.ops [⟨some 4, .assign (.const (.bool false)), 4, .always⟩] [4])
 (.ret))
 (.skip)))
 (.seq (.seq (.ops [⟨some 40, .fieldAddr 29 (.tmp 2) 2, 0, .always⟩,
 ⟨some 41, .load 26 (.tmp 40), 26, .always⟩,
 ⟨some 42, .call { callee := .builtin .len, args := #[.tmp 41], argTypes := #[26] }, 3, .always⟩,
 ⟨some 43, .move (.const (.int .i64 0)), 3, .always⟩] [2, 3, 41, 42, 43])
 (.block 0
 (.loop
 (.seq (.ops [⟨some 44, .binOp .lss 3 (.tmp 43) (.tmp 42) 3, 0, .always⟩] [2, 3, 41, 42, 43, 44])
 (.seq (.cond (.tmp 44)
 (.skip)
 (.exit 0))
 (.seq (.block 1
 (.seq (.ops [⟨some 45, .move (.tmp 43), 3, .always⟩,
 ⟨some 46, .indexAddr 26 (.tmp 41) (.tmp 43), 0, .always⟩,
 ⟨some 47, .load 62 (.tmp 46), 62, .always⟩,
 ⟨some 6, .alloc 62, 0, .always⟩,
 ⟨some 5, .assign (.tmp 45), 3, .always⟩,
 ⟨none, .store 62 (.tmp 6) (.tmp 47), 0, .always⟩] [2, 3, 5, 6, 41, 42, 43])
 (.seq (.draw [⟨some 48, .load 62 (.tmp 6), 62, .always⟩,
 ⟨some 49, .fieldAddr 29 (.tmp 3) 2, 0, .always⟩,
 ⟨some 50, .load 26 (.tmp 49), 26, .always⟩,
 ⟨some 51, .move (.tmp 5), 3, .always⟩,
 ⟨some 52, .indexAddr 26 (.tmp 50) (.tmp 51), 0, .always⟩,
 ⟨some 53, .load 62 (.tmp 52), 62, .always⟩,
 ⟨some 54, .call { callee := .value (.func 155), args := #[.tmp 48, .tmp 53], argTypes := #[62, 62] }, 4, .always⟩,
 ⟨some 55, .unOp .not 4 (.tmp 54), 4, .always⟩] [false, false, false, false, false, false, false, false] [2, 3, 41, 42, 43, 55])
 (.cond (.tmp 55)
 (.seq (.ops [⟨some 4, .assign (.const (.bool false)), 4, .always⟩] [4])
 (.ret))
 (.skip)))))
 (.ops [⟨some 56, .binOp .add 3 (.tmp 43) (.const (.int .i64 1)) 3, 3, .always⟩,
 ⟨some 43, .move (.tmp 56), 3, .always⟩] [2, 3, 41, 42, 43])))))))
 (.seq (.seq (.ops [⟨some 57, .fieldAddr 29 (.tmp 2) 3, 0, .always⟩,
 ⟨some 58, .load 27 (.tmp 57), 27, .always⟩,
 ⟨some 59, .call { callee := .builtin .len, args := #[.tmp 58], argTypes := #[27] }, 3, .always⟩,
 ⟨some 60, .move (.const (.int .i64 0)), 3, .always⟩] [3, 58, 59, 60])
 (.block 2
 (.loop
 (.seq (.ops [⟨some 61, .binOp .lss 3 (.tmp 60) (.tmp 59) 3, 0, .always⟩] [3, 58, 59, 60, 61])
 (.seq (.cond (.tmp 61)
 (.skip)
 (.exit 2))
 (.seq (.block 3
 (.seq (.ops [⟨some 62, .move (.tmp 60), 3, .always⟩,
 ⟨some 63, .indexAddr 27 (.tmp 58) (.tmp 60), 0, .always⟩,
 ⟨some 64, .load 29 (.tmp 63), 29, .always⟩,
 ⟨some 8, .alloc 29, 0, .always⟩,
 ⟨some 7, .assign (.tmp 62), 3, .always⟩,
 ⟨none, .store 29 (.tmp 8) (.tmp 64), 0, .always⟩] [3, 7, 8, 58, 59, 60])
 (.seq (.draw [⟨some 65, .load 29 (.tmp 8), 29, .always⟩,
 ⟨some 66, .fieldAddr 29 (.tmp 3) 3, 0, .always⟩,
 ⟨some 67, .load 27 (.tmp 66), 27, .always⟩,
 ⟨some 68, .move (.tmp 7), 3, .always⟩,
 ⟨some 69, .indexAddr 27 (.tmp 67) (.tmp 68), 0, .always⟩,
 ⟨some 70, .load 29 (.tmp 69), 29, .always⟩,
 ⟨some 71, .call { callee := .value (.func 183), args := #[.tmp 65, .tmp 70], argTypes := #[29, 29] }, 4, .always⟩,
 ⟨some 72, .unOp .not 4 (.tmp 71), 4, .always⟩] [false, false, false, false, false, false, false, false] [3, 58, 59, 60, 72])
 (.cond (.tmp 72)
 (.seq (.ops [⟨some 4, .assign (.const (.bool false)), 4, .always⟩] [4])
 (.ret))
 (.skip)))))
 (.ops [⟨some 73, .binOp .add 3 (.tmp 60) (.const (.int .i64 1)) 3, 3, .always⟩,
 ⟨some 60, .move (.tmp 73), 3, .always⟩] [3, 58, 59, 60])))))))
 (.seq (.ops [⟨some 4, .assign (.const (.bool true)), 4, .always⟩] [4])
 (.ret)))))
theorem w183 {args : List PV} {σ σ' : List Frm} {r : Ret} (hr : ∀ p, r = .val p → erV p = p) (h : wpP cfg s183 (QEndP cfg [.tmp 4] σ' r) ⟨initEnv args, fun _ => [], σ, ⟨fun _ => false, 0⟩⟩) : CallsV cfg 183 args σ r σ' :=
 callsV_of_p follows cfgT a183 (fn := Tryd.f183) (c := Tryd.f183.body.getD .skip) (by kernel_rfl) (by kernel_rfl) (by kernel_rfl) (by kernel_rfl) (by kernel_rfl) (sc := s183) (by kernel_rfl) [.tmp 4] (by kernel_rfl) hr h
def a194 : List Ann := [⟨[2, 3, 4], [], []⟩,
 ⟨[4], [], []⟩]
def s194 : SC := .seq (.ops [⟨some 2, .box 62 (.tmp 0), 0, .always⟩,
 ⟨some 3, .box 62 (.tmp 1), 0, .always⟩,
 ⟨some 4, .alloc 29, 0, .always⟩] [2, 3, 4])
 (.seq (.ops [⟨some 5, .load 62 (.tmp 2), 62, .always⟩,
 ⟨some 6, .load 62 (.tmp 3), 62, .always⟩,
 ⟨some 7, .buildSlice 26 2 #[(0, .tmp 5), (1, .tmp 6)], 26, .always⟩,
 ⟨some 8, .build 29 #[(0, .const (.int .i64 1)), (2, .tmp 7)], 29, .always⟩,
 ⟨none, .store 29 (.tmp 4) (.tmp 8), 0, .always⟩] [4])
 (.ret))
theorem w194 {args : List PV} {σ σ' : List Frm} {r : Ret} (hr : ∀ p, r = .val p → erV p = p) (h : wpP cfg s194 (QEndP cfg [.cell 4 29] σ' r) ⟨initEnv args, fun _ => [], σ, ⟨fun _ => false, 0⟩⟩) : CallsV cfg 194 args σ r σ' :=
 callsV_of_p follows cfgT a194 (fn := Tryd.f194) (c := Tryd.f194.body.getD .skip) (by kernel_rfl) (by kernel_rfl) (by kernel_rfl) (by kernel_rfl) (by kernel_rfl) (sc := s194) (by kernel_rfl) [.cell 4 29] (by kernel_rfl) hr h
def a197 : List Ann := [⟨[0, 1, 4], [], []⟩,
 ⟨[4], [], []⟩]
def s197 : SC := .seq (.ops [⟨some 4, .alloc 62, 0, .always⟩] [0, 1, 4])
 (.seq (.ops [⟨some 5, .move (.tmp 0), 3, .always⟩,
 ⟨some 6, .move (.tmp 1), 26, .always⟩,
 ⟨some 7, .build 62 #[(0, .tmp 5), (3, .tmp 6)], 62, .always⟩,
 ⟨none, .store 62 (.tmp 4) (.tmp 7), 0, .always⟩] [4])
 (.ret))
theorem w197 {args : List PV} {σ σ' : List Frm} {r : Ret} (hr : ∀ p, r = .val p → erV p = p) (h : wpP cfg s197 (QEndP cfg [.cell 4 62] σ' r) ⟨initEnv args, fun _ => [], σ, ⟨fun _ => false, 0⟩⟩) : CallsV cfg 197 args σ r σ' :=
 callsV_of_p follows cfgT a197 (fn := Tryd.f197) (c := Tryd.f197.body.getD .skip) (by kernel_rfl) (by kernel_rfl) (by kernel_rfl) (by kernel_rfl) (by kernel_rfl) (sc := s197) (by kernel_rfl) [.cell 4 62] (by kernel_rfl) hr h
def a195 : List Ann := [⟨[1, 2, 4], [], []⟩,
 ⟨[2, 4, 7, 8, 9], [], []⟩,
 ⟨[2, 4, 7, 8, 9, 10], [], []⟩,
 ⟨[2, 4, 6, 7, 8, 9], [], []⟩,
 ⟨[2, 4, 7, 8, 9], [], []⟩,
 ⟨[2, 4, 7, 8, 9], [], []⟩,
 ⟨[4], [], []⟩]
def s195 : SC := .seq (.ops [⟨some 2, .box 62 (.tmp 0), 0, .always⟩,
 ⟨some 4, .alloc 62, 0, .always⟩] [1, 2, 4])
 (.seq (.seq (.ops [⟨some 7, .move (.tmp 1), 26, .always⟩,
 ⟨some 8, .call { callee := .builtin .len, args := #[.tmp 7], argTypes := #[26] }, 3, .always⟩,
 ⟨some 9, .move (.const (.int .i64 0)), 3, .always⟩] [2, 4, 7, 8, 9])
 (.block 0
 (.loop
 (.seq (.ops [⟨some 10, .binOp .lss 3 (.tmp 9) (.tmp 8) 3, 0, .always⟩] [2, 4, 7, 8, 9, 10])
 (.seq (.cond (.tmp 10)
 (.skip)
 (.exit 0))
 (.seq (.block 1
 (.seq (.ops [⟨some 11, .indexAddr 26 (.tmp 7) (.tmp 9), 0, .always⟩,
 ⟨some 12, .load 62 (.tmp 11), 62, .always⟩,
 ⟨some 6, .alloc 62, 0, .always⟩,
 ⟨none, .store 62 (.tmp 6) (.tmp 12), 0, .always⟩] [2, 4, 6, 7, 8, 9])
 (.ops [⟨some 13, .load 62 (.tmp 2), 62, .always⟩,
 ⟨some 14, .load 62 (.tmp 6), 62, .always⟩,
 ⟨some 15, .buildSlice 26 2 #[(0, .tmp 13), (1, .tmp 14)], 26, .always⟩,
 ⟨some 16, .call { callee := .value (.func 197), args := #[.const (.int .i64 3), .tmp 15], argTypes := #[3, 26] }, 62, .always⟩,
 ⟨none, .store 62 (.tmp 2) (.tmp 16), 0, .always⟩] [2, 4, 7, 8, 9])))
 (.ops [⟨some 17, .binOp .add 3 (.tmp 9) (.const (.int .i64 1)) 3, 3, .always⟩,
 ⟨some 9, .move (.tmp 17), 3, .always⟩] [2, 4, 7, 8, 9])))))))
 (.seq (.ops [⟨some 18, .load 62 (.tmp 2), 62, .always⟩,
 ⟨none, .store 62 (.tmp 4) (.tmp 18), 0, .always⟩] [4])
 (.ret)))
theorem w195 {args : List PV} {σ σ' : List Frm} {r : Ret} (hr : ∀ p, r = .val p → erV p = p) (h : wpP cfg s195 (QEndP cfg [.cell 4 62] σ' r) ⟨initEnv args, fun _ => [], σ, ⟨fun _ => false, 0⟩⟩) : CallsV cfg 195 args σ r σ' :=
 callsV_of_p follows cfgT a195 (fn := Tryd.f195) (c := Tryd.f195.body.getD .skip) (by kernel_rfl) (by kernel_rfl) (by kernel_rfl) (by kernel_rfl) (by kernel_rfl) (sc := s195) (by kernel_rfl) [.cell 4 62] (by kernel_rfl) hr h
def a185 : List Ann := [⟨[0, 2], [], []⟩,
 ⟨[2], [], []⟩]
def s185 : SC := .seq (.ops [⟨some 2, .alloc 62, 0, .always⟩] [0, 2])
 (.seq (.ops [⟨some 3, .move (.tmp 0), 3, .always⟩,
 ⟨some 4, .build 62 #[(0, .const (.int .i64 1)), (1, .tmp 3)], 62, .always⟩,
 ⟨none, .store 62 (.tmp 2) (.tmp 4), 0, .always⟩] [2])
 (.ret))
theorem w185 {args : List PV} {σ σ' : List Frm} {r : Ret} (hr : ∀ p, r = .val p → erV p = p) (h : wpP cfg s185 (QEndP cfg [.cell 2 62] σ' r) ⟨initEnv args, fun _ => [], σ, ⟨fun _ => false, 0⟩⟩) : CallsV cfg 185 args σ r σ' :=
 callsV_of_p follows cfgT a185 (fn := Tryd.f185) (c := Tryd.f185.body.getD .skip) (by kernel_rfl) (by kernel_rfl) (by kernel_rfl) (by kernel_rfl) (by kernel_rfl) (sc := s185) (by kernel_rfl) [.cell 2 62] (by kernel_rfl) hr h
def a201 : List Ann := [⟨[1, 2, 4], [], []⟩,
 ⟨[1, 2, 4, 5], [], []⟩,
 ⟨[1, 2, 4, 5, 10], [], []⟩,
 ⟨[1, 2, 4, 5], [], []⟩,
 ⟨[1, 2, 4, 5], [0, 0, 3, 7, 0, 16, 63, 127], [false, false, false, false, false, false, false, false]⟩,
 ⟨[4], [], []⟩]
def s201 : SC := .seq (.ops [⟨some 2, .box 62 (.tmp 0), 0, .always⟩,
 ⟨some 4, .alloc 62, 0, .always⟩] [1, 2, 4])
 (.seq (.seq (.ops [⟨some 6, .move (.tmp 1), 23, .always⟩,
 ⟨some 7, .call { callee := .builtin .len, args := #[.tmp 6], argTypes := #[23] }, 3, .always⟩,
 ⟨some 8, .binOp .sub 3 (.tmp 7) (.const (.int .i64 1)) 3, 3, .always⟩,
 ⟨some 5, .assign (.tmp 8), 3, .always⟩] [1, 2, 4, 5])
 (.block 0
 (.loop
 (.seq (.seq (.ops [⟨some 9, .move (.tmp 5), 3, .always⟩,
 ⟨some 10, .binOp .geq 3 (.tmp 9) (.const (.int .i64 0)) 3, 4, .always⟩] [1, 2, 4, 5, 10])
 (.cond (.tmp 10)
 (.skip)
 (.exit 0)))
 (.seq (.block 1
 (.draw [⟨some 13, .move (.tmp 1), 23, .always⟩,
 ⟨some 14, .move (.tmp 5), 3, .always⟩,
 ⟨some 15, .indexAddr 23 (.tmp 13) (.tmp 14), 0, .always⟩,
 ⟨some 16, .load 25 (.tmp 15), 25, .always⟩,
 ⟨some 17, .load 62 (.tmp 2), 62, .always⟩,
 ⟨some 18, .buildSlice 26 1 #[(0, .tmp 17)], 26, .always⟩,
 ⟨some 19, .build 62 #[(0, .const (.int .i64 2)), (2, .tmp 16), (3, .tmp 18)], 62, .always⟩,
 ⟨none, .store 62 (.tmp 2) (.tmp 19), 0, .always⟩] [false, false, false, false, false, false, false, false] [1, 2, 4, 5]))
 (.ops [⟨some 11, .move (.tmp 5), 3, .always⟩,
 ⟨some 12, .binOp .sub 3 (.tmp 11) (.const (.int .i64 1)) 3, 3, .always⟩,
 ⟨some 5, .assign (.tmp 12), 3, .always⟩] [1, 2, 4, 5]))))))
 (.seq (.ops [⟨some 20, .load 62 (.tmp 2), 62, .always⟩,
 ⟨none, .store 62 (.tmp 4) (.tmp 20), 0, .always⟩] [4])
 (.ret)))
theorem w201 {args : List PV} {σ σ' : List Frm} {r : Ret} (hr : ∀ p, r = .val p → erV p = p) (h : wpP cfg s201 (QEndP cfg [.cell 4 62] σ' r) ⟨initEnv args, fun _ => [], σ, ⟨fun _ => false, 0⟩⟩) : CallsV cfg 201 args σ r σ' :=
 callsV_of_p follows cfgT a201 (fn := Tryd.f201) (c := Tryd.f201.body.getD .skip) (by kernel_rfl) (by kernel_rfl) (by kernel_rfl) (by kernel_rfl) (by kernel_rfl) (sc := s201) (by kernel_rfl) [.cell 4 62] (by kernel_rfl) hr h
def a202 : List Ann := [⟨[0], [], []⟩,
 ⟨[0], [], []⟩]
def s202 : SC := .seq (.ops [⟨some 0, .alloc 25, 0, .always⟩] [0])
 (.seq (.ops [⟨some 1, .build 25 #[(0, .const (.int .i64 1))], 25, .always⟩,
 ⟨none, .store 25 (.tmp 0) (.tmp 1), 0, .always⟩] [0])
 (.ret))
theorem w202 {args : List PV} {σ σ' : List Frm} {r : Ret} (hr : ∀ p, r = .val p → erV p = p) (h : wpP cfg s202 (QEndP cfg [.cell 0 25] σ' r) ⟨initEnv args, fun _ => [], σ, ⟨fun _ => false, 0⟩⟩) : CallsV cfg 202 args σ r σ' :=
 callsV_of_p follows cfgT a202 (fn := Tryd.f202) (c := Tryd.f202.body.getD .skip) (by kernel_rfl) (by kernel_rfl) (by kernel_rfl) (by kernel_rfl) (by kernel_rfl) (sc := s202) (by kernel_rfl) [.cell 0 25] (by kernel_rfl) hr h
def a198 : List Ann := [⟨[1, 2], [], []⟩,
 ⟨[2], [0, 0, 2, 6, 15, 31], [true, true, true, false, false, false]⟩]
def s198 : SC := .seq (.ops [⟨some 1, .box 62 (.tmp 0), 0, .always⟩,
 ⟨some 2, .alloc 62, 0, .always⟩] [1, 2])
 (.seq (.draw [⟨some 3, .load 62 (.tmp 1), 62, .always⟩,
 ⟨some 4, .call { callee := .value (.func 202), args := #[], argTypes := #[] }, 25, .always⟩,
 ⟨some 5, .call { callee := .value (.func 202), args := #[], argTypes := #[] }, 25, .always⟩,
 ⟨some 6, .buildSlice 23 2 #[(0, .tmp 4), (1, .tmp 5)], 23, .always⟩,
 ⟨some 7, .call { callee := .value (.func 201), args := #[.tmp 3, .tmp 6], argTypes := #[62, 23] }, 62, .always⟩,
 ⟨none, .store 62 (.tmp 2) (.tmp 7), 0, .always⟩] [true, true, true, false, false, false] [2])
 (.ret))
theorem w198 {args : List PV} {σ σ' : List Frm} {r : Ret} (hr : ∀ p, r = .val p → erV p = p) (h : wpP cfg s198 (QEndP cfg [.cell 2 62] σ' r) ⟨initEnv args, fun _ => [], σ, ⟨fun _ => false, 0⟩⟩) : CallsV cfg 198 args σ r σ' :=
 callsV_of_p follows cfgT a198 (fn := Tryd.f198) (c := Tryd.f198.body.getD .skip) (by kernel_rfl) (by kernel_rfl) (by kernel_rfl) (by kernel_rfl) (by kernel_rfl) (sc := s198) (by kernel_rfl) [.cell 2 62] (by kernel_rfl) hr h
def a203 : List Ann := [⟨[0, 6, 7, 8, 9, 10], [], []⟩,
 ⟨[10], [], []⟩]
def s203 : SC := .seq (.ops [⟨some 6, .box 25 (.tmp 1), 0, .always⟩,
 ⟨some 7, .box 62 (.tmp 2), 0, .always⟩,
 ⟨some 8, .box 62 (.tmp 3), 0, .always⟩,
 ⟨some 9, .box 62 (.tmp 4), 0, .always⟩,
 ⟨some 10, .alloc 62, 0, .always⟩] [0, 6, 7, 8, 9, 10])
 (.seq (.ops [⟨some 11, .move (.tmp 0), 3, .always⟩,
 ⟨some 12, .load 25 (.tmp 6), 25, .always⟩,
 ⟨some 13, .load 62 (.tmp 7), 62, .always⟩,
 ⟨some 14, .load 62 (.tmp 8), 62, .always⟩,
 ⟨some 15, .load 62 (.tmp 9), 62, .always⟩,
 ⟨some 16, .buildSlice 26 3 #[(0, .tmp 13), (1, .tmp 14), (2, .tmp 15)], 26, .always⟩,
 ⟨some 17, .build 62 #[(0, .tmp 11), (2, .tmp 12), (3, .tmp 16)], 62, .always⟩,
 ⟨none, .store 62 (.tmp 10) (.tmp 17), 0, .always⟩] [10])
 (.ret))
theorem w203 {args : List PV} {σ σ' : List Frm} {r : Ret} (hr : ∀ p, r = .val p → erV p = p) (h : wpP cfg s203 (QEndP cfg [.cell 10 62] σ' r) ⟨initEnv args, fun _ => [], σ, ⟨fun _ => false, 0⟩⟩) : CallsV cfg 203 args σ r σ' :=
 callsV_of_p follows cfgT a203 (fn := Tryd.f203) (c := Tryd.f203.body.getD .skip) (by kernel_rfl) (by kernel_rfl) (by kernel_rfl) (by kernel_rfl) (by kernel_rfl) (sc := s203) (by kernel_rfl) [.cell 10 62] (by kernel_rfl) hr h
def a199 : List Ann := [⟨[3, 4, 5, 6], [], []⟩,
 ⟨[6], [0, 0, 0, 1, 9, 25, 61, 0, 255, 511], [true, true, true, true, true, false, true, true, false, false]⟩]
def s199 : SC := .seq (.ops [⟨some 3, .box 62 (.tmp 0), 0, .always⟩,
 ⟨some 4, .box 62 (.tmp 1), 0, .always⟩,
 ⟨some 5, .box 62 (.tmp 2), 0, .always⟩,
 ⟨some 6, .alloc 62, 0, .always⟩] [3, 4, 5, 6])
 (.seq (.draw [⟨some 7, .call { callee := .value (.func 202), args := #[], argTypes := #[] }, 25, .always⟩,
 ⟨some 8, .load 62 (.tmp 3), 62, .always⟩,
 ⟨some 9, .load 62 (.tmp 4), 62, .always⟩,
 ⟨some 10, .call { callee := .value (.func 202), args := #[], argTypes := #[] }, 25, .always⟩,
 ⟨some 11, .call { callee := .value (.func 202), args := #[], argTypes := #[] }, 25, .always⟩,
 ⟨some 12, .buildSlice 23 2 #[(0, .tmp 10), (1, .tmp 11)], 23, .always⟩,
 ⟨some 13, .call { callee := .value (.func 201), args := #[.tmp 9, .tmp 12], argTypes := #[62, 23] }, 62, .always⟩,
 ⟨some 14, .load 62 (.tmp 5), 62, .always⟩,
 ⟨some 15, .call { callee := .value (.func 203), args := #[.const (.int .i64 6), .tmp 7, .tmp 8, .tmp 13, .tmp 14], argTypes := #[3, 25, 62, 62, 62] }, 62, .always⟩,
 ⟨none, .store 62 (.tmp 6) (.tmp 15), 0, .always⟩] [true, true, true, true, true, false, true, true, false, false] [6])
 (.ret))
theorem w199 {args : List PV} {σ σ' : List Frm} {r : Ret} (hr : ∀ p, r = .val p → erV p = p) (h : wpP cfg s199 (QEndP cfg [.cell 6 62] σ' r) ⟨initEnv args, fun _ => [], σ, ⟨fun _ => false, 0⟩⟩) : CallsV cfg 199 args σ r σ' :=
 callsV_of_p follows cfgT a199 (fn := Tryd.f199) (c := Tryd.f199.body.getD .skip) (by kernel_rfl) (by kernel_rfl) (by kernel_rfl) (by kernel_rfl) (by kernel_rfl) (sc := s199) (by kernel_rfl) [.cell 6 62] (by kernel_rfl) hr h
def a200 : List Ann := [⟨[0], [], []⟩,
 ⟨[0], [], []⟩]
def s200 : SC := .seq (.ops [⟨some 0, .alloc 62, 0, .always⟩] [0])
 (.seq (.ops [⟨some 1, .call { callee := .value (.func 197), args := #[.const (.int .i64 4), .const (.slice none 0 0)], argTypes := #[3, 26] }, 62, .always⟩,
 ⟨some 2, .call { callee := .value (.func 185), args := #[.const (.int .i64 1)], argTypes := #[3] }, 62, .always⟩,
 ⟨some 3, .call { callee := .value (.func 185), args := #[.const (.int .i64 0)], argTypes := #[3] }, 62, .always⟩,
 ⟨some 4, .call { callee := .value (.func 199), args := #[.tmp 1, .tmp 2, .tmp 3], argTypes := #[62, 62, 62] }, 62, .always⟩,
 ⟨some 5, .call { callee := .value (.func 202), args := #[], argTypes := #[] }, 25, .always⟩,
 ⟨some 6, .buildSlice 23 1 #[(0, .tmp 5)], 23, .always⟩,
 ⟨some 7, .call { callee := .value (.func 201), args := #[.tmp 4, .tmp 6], argTypes := #[62, 23] }, 62, .always⟩,
 ⟨none, .store 62 (.tmp 0) (.tmp 7), 0, .always⟩] [0])
 (.ret))
theorem w200 {args : List PV} {σ σ' : List Frm} {r : Ret} (hr : ∀ p, r = .val p → erV p = p) (h : wpP cfg s200 (QEndP cfg [.cell 0 62] σ' r) ⟨initEnv args, fun _ => [], σ, ⟨fun _ => false, 0⟩⟩) : CallsV cfg 200 args σ r σ' :=
 callsV_of_p follows cfgT a200 (fn := Tryd.f200) (c := Tryd.f200.body.getD .skip) (by kernel_rfl) (by kernel_rfl) (by kernel_rfl) (by kernel_rfl) (by kernel_rfl) (sc := s200) (by kernel_rfl) [.cell 0 62] (by kernel_rfl) hr h
def a196 : List Ann := [⟨[0], [], []⟩,
 ⟨[0], [], []⟩]
def s196 : SC := .seq (.ops [⟨some 0, .alloc 62, 0, .always⟩] [0])
 (.seq (.ops [⟨some 1, .call { callee := .value (.func 185), args := #[.const (.int .i64 1)], argTypes := #[3] }, 62, .always⟩,
 ⟨some 2, .call { callee := .value (.func 200), args := #[], argTypes := #[] }, 62, .always⟩,
 ⟨some 3, .call { callee := .value (.func 185), args := #[.const (.int .i64 0)], argTypes := #[3] }, 62, .always⟩,
 ⟨some 4, .buildSlice 26 1 #[(0, .tmp 3)], 26, .always⟩,
 ⟨some 5, .call { callee := .value (.func 195), args := #[.tmp 2, .tmp 4], argTypes := #[62, 26] }, 62, .always⟩,
 ⟨some 6, .call { callee := .value (.func 185), args := #[.const (.int .i64 0)], argTypes := #[3] }, 62, .always⟩,
 ⟨some 7, .call { callee := .value (.func 199), args := #[.tmp 1, .tmp 5, .tmp 6], argTypes := #[62, 62, 62] }, 62, .always⟩,
 ⟨some 8, .call { callee := .value (.func 198), args := #[.tmp 7], argTypes := #[62] }, 62, .always⟩,
 ⟨none, .store 62 (.tmp 0) (.tmp 8), 0, .always⟩] [0])
 (.ret))
theorem w196 {args : List PV} {σ σ' : List Frm} {r : Ret} (hr : ∀ p, r = .val p → erV p = p) (h : wpP cfg s196 (QEndP cfg [.cell 0 62] σ' r) ⟨initEnv args, fun _ => [], σ, ⟨fun _ => false, 0⟩⟩) : CallsV cfg 196 args σ r σ' :=
 callsV_of_p follows cfgT a196 (fn := Tryd.f196) (c := Tryd.f196.body.getD .skip) (by kernel_rfl) (by kernel_rfl) (by kernel_rfl) (by kernel_rfl) (by kernel_rfl) (sc := s196) (by kernel_rfl) [.cell 0 62] (by kernel_rfl) hr h
def a184 : List Ann := [⟨[2, 3, 4], [], []⟩,
 ⟨[4], [0, 0, 2, 7, 0, 31, 63, 127, 255, 511], [true, true, false, true, true, false, false, false, false, false]⟩]
def s184 : SC := .seq (.ops [⟨some 2, .box 62 (.tmp 0), 0, .always⟩,
 ⟨some 3, .box 62 (.tmp 1), 0, .always⟩,
 ⟨some 4, .alloc 29, 0, .always⟩] [2, 3, 4])
 (.seq (.draw [⟨some 5, .call { callee := .value (.func 196), args := #[], argTypes := #[] }, 62, .always⟩,
 ⟨some 6, .load 62 (.tmp 2), 62, .always⟩,
 ⟨some 7, .buildSlice 26 1 #[(0, .tmp 6)], 26, .always⟩,
 ⟨some 8, .call { callee := .value (.func 197), args := #[.const (.int .i64 5), .tmp 7], argTypes := #[3, 26] }, 62, .always⟩,
 ⟨some 9, .load 62 (.tmp 3), 62, .always⟩,
 ⟨some 10, .buildSlice 26 2 #[(0, .tmp 8), (1, .tmp 9)], 26, .always⟩,
 ⟨some 11, .call { callee := .value (.func 195), args := #[.tmp 5, .tmp 10], argTypes := #[62, 26] }, 62, .always⟩,
 ⟨some 12, .call { callee := .value (.func 197), args := #[.const (.int .i64 4), .const (.slice none 0 0)], argTypes := #[3, 26] }, 62, .always⟩,
 ⟨some 13, .call { callee := .value (.func 194), args := #[.tmp 11, .tmp 12], argTypes := #[62, 62] }, 29, .always⟩,
 ⟨none, .store 29 (.tmp 4) (.tmp 13), 0, .always⟩] [true, true, false, true, true, false, false, false, false, false] [4])
 (.ret))
theorem w184 {args : List PV} {σ σ' : List Frm} {r : Ret} (hr : ∀ p, r = .val p → erV p = p) (h : wpP cfg s184 (QEndP cfg [.cell 4 29] σ' r) ⟨initEnv args, fun _ => [], σ, ⟨fun _ => false, 0⟩⟩) : CallsV cfg 184 args σ r σ' :=
 callsV_of_p follows cfgT a184 (fn := Tryd.f184) (c := Tryd.f184.body.getD .skip) (by kernel_rfl) (by kernel_rfl) (by kernel_rfl) (by kernel_rfl) (by kernel_rfl) (sc := s184) (by kernel_rfl) [.cell 4 29] (by kernel_rfl) hr h
def a167 : List Ann := [⟨[1, 3, 4], [], []⟩,
 ⟨[1, 3, 4, 6], [], []⟩,
 ⟨[1, 3, 4, 6, 7, 8], [], []⟩,
 ⟨[1, 3, 4, 6, 48], [], []⟩,
 ⟨[2, 3, 4, 5], [], []⟩,
 ⟨[1, 3, 4, 6, 9], [], []⟩,
 ⟨[1, 3, 4, 6, 9, 10], [], []⟩,
 ⟨[1, 3, 4, 6, 10, 83], [0, 1, 3, 7, 15, 31, 63, 127, 255, 511, 1023, 2047, 4095, 4095, 4095, 20479, 53247, 118783, 258047, 524287, 1048575, 2097151], [false, false, false, false, false, false, false, false, false, false, false, false, true, true, false, true, false, true, true, false, false, false]⟩,
 ⟨[2, 3, 4, 5], [], []⟩,
 ⟨[2, 3, 4, 5], [0, 0, 2, 6, 14, 0, 32, 96, 224, 480, 992, 2016, 1, 4127, 16383, 32767], [false, false, false, false, false, false, true, false, false, true, false, true, false, true, false, false]⟩]
def s167 : SC := .seq (.ops [⟨some 1, .box 29 (.tmp 0), 0, .always⟩,
 ⟨some 2, .assign (.const (.bool false)), 4, .always⟩,
 ⟨some 3, .alloc 62, 0, .always⟩,
 ⟨some 4, .alloc 29, 0, .always⟩,
 ⟨some 5, .assign (.const (.bool false)), 4, .always⟩] [1, 3, 4])
 (.seq (.ops [⟨some 11, .fieldAddr 29 (.tmp 1) 0, 0, .always⟩,
 ⟨some 12, .load 3 (.tmp 11), 3, .always⟩,
 ⟨some 13, .binOp .eql 3 (.tmp 12) (.const (.int .i64 4)) 3, 4, .always⟩,
 ⟨some 6, .assign (.tmp 13), 4, .always⟩] [1, 3, 4, 6])
 (.seq (.ops [⟨some 15, .move (.tmp 6), 4, .always⟩,
 ⟨some 16, .call { callee := .value (.func 181), args := #[.tmp 15], argTypes := #[4] }, 180, .always⟩,
 ⟨some 14, .move (.tmp 16), 180, .always⟩,
 ⟨some 17, .extract (.tmp 14) 0, 3, .always⟩,
 ⟨some 18, .extract (.tmp 14) 1, 3, .always⟩,
 ⟨some 7, .assign (.tmp 17), 3, .always⟩,
 ⟨some 8, .assign (.tmp 18), 3, .always⟩] [1, 3, 4, 6, 7, 8])
 (.seq (.seq (.ops [⟨some 19, .fieldAddr 29 (.tmp 1) 0, 0, .always⟩,
 ⟨some 20, .load 3 (.tmp 19), 3, .always⟩,
 ⟨some 21, .move (.tmp 7), 3, .always⟩,
 ⟨some 22, .binOp .neq 3 (.tmp 20) (.tmp 21) 3, 4, .always⟩,
 ⟨some 23, .move (.tmp 22), 4, .always⟩,
 ⟨some 24, .fieldAddr 29 (.tmp 1) 1, 0, .tmp 23 false⟩,
 ⟨some 25, .fieldAddr 25 (.tmp 24) 0, 0, .tmp 23 false⟩,
 ⟨some 26, .load 3 (.tmp 25), 3, .tmp 23 false⟩,
 ⟨some 27, .binOp .neq 3 (.tmp 26) (.const (.int .i64 1)) 3, 4, .tmp 23 false⟩,
 ⟨some 28, .pick (.tmp 23) (.const (.bool true)) (.tmp 27), 4, .always⟩,
 ⟨some 29, .move (.tmp 28), 4, .always⟩,
 ⟨some 30, .fieldAddr 29 (.tmp 1) 3, 0, .tmp 29 false⟩,
 ⟨some 31, .load 27 (.tmp 30), 27, .tmp 29 false⟩,
 ⟨some 32, .indexAddr 27 (.tmp 31) (.const (.int .i64 0)), 0, .tmp 29 false⟩,
 ⟨some 33, .fieldAddr 29 (.tmp 32) 0, 0, .tmp 29 false⟩,
 ⟨some 34, .load 3 (.tmp 33), 3, .tmp 29 false⟩,
 ⟨some 35, .move (.tmp 8), 3, .tmp 29 false⟩,
 ⟨some 36, .binOp .neq 3 (.tmp 34) (.tmp 35) 3, 4, .tmp 29 false⟩,
 ⟨some 37, .pick (.tmp 29) (.const (.bool true)) (.tmp 36), 4, .always⟩,
 ⟨some 38, .move (.tmp 37), 4, .always⟩,
 ⟨some 39, .fieldAddr 29 (.tmp 1) 3, 0, .tmp 38 false⟩,
 ⟨some 40, .load 27 (.tmp 39), 27, .tmp 38 false⟩,
 ⟨some 41, .indexAddr 27 (.tmp 40) (.const (.int .i64 0)), 0, .tmp 38 false⟩,
 ⟨some 42, .fieldAddr 29 (.tmp 41) 3, 0, .tmp 38 false⟩,
 ⟨some 43, .load 27 (.tmp 42), 27, .tmp 38 false⟩,
 ⟨some 44, .indexAddr 27 (.tmp 43) (.const (.int .i64 0)), 0, .tmp 38 false⟩,
 ⟨some 45, .fieldAddr 29 (.tmp 44) 0, 0, .tmp 38 false⟩,
 ⟨some 46, .load 3 (.tmp 45), 3, .tmp 38 false⟩,
 ⟨some 47, .binOp .neq 3 (.tmp 46) (.const (.int .i64 1)) 3, 4, .tmp 38 false⟩,
 ⟨some 48, .pick (.tmp 38) (.const (.bool true)) (.tmp 47), 4, .always⟩] [1, 3, 4, 6, 48])
 (.cond (.tmp 48)
 (.seq (.ops [⟨some 49, .build 62 #[], 62, .always⟩,
 ⟨some 50, .build 29 #[], 29, .always⟩,
 ⟨some 2, .assign (.const (.bool false)), 4, .always⟩,
 ⟨none, .store 62 (.tmp 3) (.tmp 49), 0, .always⟩,
 ⟨none, .store 29 (.tmp 4) (.tmp 50), 0, .always⟩,
 ⟨some 5, .assign (.const (.bool false)), 4, .always⟩] [2, 3, 4, 5])
 (.ret))
 (.skip)))
 (.seq (.ops [⟨some 51, .fieldAddr 29 (.tmp 1) 3, 0, .always⟩,
 ⟨some 52, .load 27 (.tmp 51), 27, .always⟩,
 ⟨some 53, .indexAddr 27 (.tmp 52) (.const (.int .i64 0)), 0, .always⟩,
 ⟨some 54, .fieldAddr 29 (.tmp 53) 3, 0, .always⟩,
 ⟨some 55, .load 27 (.tmp 54), 27, .always⟩,
 ⟨some 56, .indexAddr 27 (.tmp 55) (.const (.int .i64 0)), 0, .always⟩,
 ⟨some 57, .load 29 (.tmp 56), 29, .always⟩,
 ⟨some 9, .alloc 29, 0, .always⟩,
 ⟨none, .store 29 (.tmp 9) (.tmp 57), 0, .always⟩] [1, 3, 4, 6, 9])
 (.seq (.ops [⟨some 58, .fieldAddr 29 (.tmp 9) 2, 0, .always⟩,
 ⟨some 59, .load 26 (.tmp 58), 26, .always⟩,
 ⟨some 60, .indexAddr 26 (.tmp 59) (.const (.int .i64 0)), 0, .always⟩,
 ⟨some 61, .load 62 (.tmp 60), 62, .always⟩,
 ⟨some 10, .alloc 62, 0, .always⟩,
 ⟨none, .store 62 (.tmp 10) (.tmp 61), 0, .always⟩] [1, 3, 4, 6, 9, 10])
 (.seq (.seq (.draw [⟨some 62, .fieldAddr 62 (.tmp 10) 0, 0, .always⟩,
 ⟨some 63, .load 3 (.tmp 62), 3, .always⟩,
 ⟨some 64, .binOp .neq 3 (.tmp 63) (.const (.int .i64 3)) 3, 4, .always⟩,
 ⟨some 65, .move (.tmp 64), 4, .always⟩,
 ⟨some 66, .fieldAddr 62 (.tmp 10) 3, 0, .tmp 65 false⟩,
 ⟨some 67, .load 26 (.tmp 66), 26, .tmp 65 false⟩,
 ⟨some 68, .indexAddr 26 (.tmp 67) (.const (.int .i64 1)), 0, .tmp 65 false⟩,
 ⟨some 69, .load 62 (.tmp 68), 62, .tmp 65 false⟩,
 ⟨some 70, .call { callee := .value (.func 182), args := #[.tmp 69, .const (.int .i64 0)], argTypes := #[62, 3] }, 3, .tmp 65 false⟩,
 ⟨some 71, .binOp .gtr 3 (.tmp 70) (.const (.int .i64 0)) 3, 4, .tmp 65 false⟩,
 ⟨some 72, .pick (.tmp 65) (.const (.bool true)) (.tmp 71), 4, .always⟩,
 ⟨some 73, .move (.tmp 72), 4, .always⟩,
 ⟨some 74, .load 29 (.tmp 9), 29, .tmp 73 false⟩,
 ⟨some 75, .call { callee := .value (.func 185), args := #[.const (.int .i64 0)], argTypes := #[3] }, 62, .tmp 73 false⟩,
 ⟨some 76, .fieldAddr 62 (.tmp 10) 3, 0, .tmp 73 false⟩,
 ⟨some 77, .load 26 (.tmp 76), 26, .tmp 73 false⟩,
 ⟨some 78, .indexAddr 26 (.tmp 77) (.const (.int .i64 1)), 0, .tmp 73 false⟩,
 ⟨some 79, .load 62 (.tmp 78), 62, .tmp 73 false⟩,
 ⟨some 80, .call { callee := .value (.func 184), args := #[.tmp 75, .tmp 79], argTypes := #[62, 62] }, 29, .tmp 73 false⟩,
 ⟨some 81, .call { callee := .value (.func 183), args := #[.tmp 74, .tmp 80], argTypes := #[29, 29] }, 4, .tmp 73 false⟩,
 ⟨some 82, .unOp .not 4 (.tmp 81), 4, .tmp 73 false⟩,
 ⟨some 83, .pick (.tmp 73) (.const (.bool true)) (.tmp 82), 4, .always⟩] [false, false, false, false, false, false, false, false, false, false, false, false, true, true, false, true, false, true, true, false, false, false] [1, 3, 4, 6, 10, 83])
 (.cond (.tmp 83)
 (.seq (.ops [⟨some 84, .build 62 #[], 62, .always⟩,
 ⟨some 85, .build 29 #[], 29, .always⟩,
 ⟨some 2, .assign (.const (.bool false)), 4, .always⟩,
 ⟨none, .store 62 (.tmp 3) (.tmp 84), 0, .always⟩,
 ⟨none, .store 29 (.tmp 4) (.tmp 85), 0, .always⟩,
 ⟨some 5, .assign (.const (.bool false)), 4, .always⟩] [2, 3, 4, 5])
 (.ret))
 (.skip)))
 (.seq (.draw [⟨some 86, .move (.tmp 6), 4, .always⟩,
 ⟨some 87, .fieldAddr 62 (.tmp 10) 3, 0, .always⟩,
 ⟨some 88, .load 26 (.tmp 87), 26, .always⟩,
 ⟨some 89, .indexAddr 26 (.tmp 88) (.const (.int .i64 1)), 0, .always⟩,
 ⟨some 90, .load 62 (.tmp 89), 62, .always⟩,
 ⟨some 91, .fieldAddr 29 (.tmp 1) 3, 0, .always⟩,
 ⟨some 92, .load 27 (.tmp 91), 27, .always⟩,
 ⟨some 93, .indexAddr 27 (.tmp 92) (.const (.int .i64 0)), 0, .always⟩,
 ⟨some 94, .fieldAddr 29 (.tmp 93) 3, 0, .always⟩,
 ⟨some 95, .load 27 (.tmp 94), 27, .always⟩,
 ⟨some 96, .indexAddr 27 (.tmp 95) (.const (.int .i64 1)), 0, .always⟩,
 ⟨some 97, .load 29 (.tmp 96), 29, .always⟩,
 ⟨some 2, .assign (.tmp 86), 4, .always⟩,
 ⟨none, .store 62 (.tmp 3) (.tmp 90), 0, .always⟩,
 ⟨none, .store 29 (.tmp 4) (.tmp 97), 0, .always⟩,
 ⟨some 5, .assign (.const (.bool true)), 4, .always⟩] [false, false, false, false, false, false, true, false, false, true, false, true, false, true, false, false] [2, 3, 4, 5])
 (.ret))))))))
theorem w167 {args : List PV} {σ σ' : List Frm} {r : Ret} (hr : ∀ p, r = .val p → erV p = p) (h : wpP cfg s167 (QEndP cfg [.tmp 2, .cell 3 62, .cell 4 29, .tmp 5] σ' r) ⟨initEnv args, fun _ => [], σ, ⟨fun _ => false, 0⟩⟩) : CallsV cfg 167 args σ r σ' :=
 callsV_of_p follows cfgT a167 (fn := Tryd.f167) (c := Tryd.f167.body.getD .skip) (by kernel_rfl) (by kernel_rfl) (by kernel_rfl) (by kernel_rfl) (by kernel_rfl) (sc := s167) (by kernel_rfl) [.tmp 2, .cell 3 62, .cell 4 29, .tmp 5] (by kernel_rfl) hr h
def a143 : List Ann := [⟨[1], [], []⟩,
 ⟨[1, 13], [], []⟩,
 ⟨[2], [], []⟩,
 ⟨[1, 3], [], []⟩,
 ⟨[1, 3, 24], [], []⟩,
 ⟨[1, 3, 24, 25], [], []⟩,
 ⟨[1, 3, 24, 25], [], []⟩,
 ⟨[1, 3, 4], [], []⟩,
 ⟨[1, 3, 4, 5], [], []⟩,
 ⟨[3, 4, 5, 39], [], []⟩,
 ⟨[3, 5], [], []⟩,
 ⟨[2], [], []⟩,
 ⟨[1, 3, 47], [], []⟩,
 ⟨[1, 3], [], []⟩,
 ⟨[1, 6], [], []⟩,
 ⟨[6, 9, 10], [], []⟩,
 ⟨[6, 9, 60], [], []⟩,
 ⟨[6], [], []⟩,
 ⟨[2], [], []⟩]
def s143 : SC := .seq (.ops [⟨some 1, .box 29 (.tmp 0), 0, .always⟩,
 ⟨some 2, .assign (.const (.int .u8 0)), 122, .always⟩] [1])
 (.seq (.seq (.ops [⟨some 11, .fieldAddr 29 (.tmp 1) 0, 0, .always⟩,
 ⟨some 12, .load 3 (.tmp 11), 3, .always⟩,
 ⟨some 13, .binOp .eql 3 (.tmp 12) (.const (.int .i64 1)) 3, 4, .always⟩] [1, 13])
 (.cond (.tmp 13)
 (.seq (.ops [⟨some 2, .assign (.const (.int .u8 6)), 122, .always⟩] [2])
 (.ret))
 (.skip)))
 (.seq (.ops [⟨some 14, .fieldAddr 29 (.tmp 1) 3, 0, .always⟩,
 ⟨some 15, .load 27 (.tmp 14), 27, .always⟩,
 ⟨some 16, .fieldAddr 29 (.tmp 1) 3, 0, .always⟩,
 ⟨some 17, .load 27 (.tmp 16), 27, .always⟩,
 ⟨some 18, .call { callee := .builtin .len, args := #[.tmp 17], argTypes := #[27] }, 3, .always⟩,
 ⟨some 19, .binOp .sub 3 (.tmp 18) (.const (.int .i64 1)) 3, 3, .always⟩,
 ⟨some 20, .indexAddr 27 (.tmp 15) (.tmp 19), 0, .always⟩,
 ⟨some 21, .load 29 (.tmp 20), 29, .always⟩,
 ⟨some 22, .call { callee := .value (.func 143), args := #[.tmp 21], argTypes := #[29] }, 122, .always⟩,
 ⟨some 3, .assign (.tmp 22), 122, .always⟩] [1, 3])
 (.seq (.seq (.ops [⟨some 23, .fieldAddr 29 (.tmp 1) 0, 0, .always⟩,
 ⟨some 24, .load 3 (.tmp 23), 3, .always⟩] [1, 3, 24])
 (.block 0
 (.seq (.seq (.ops [⟨some 26, .binOp .eql 3 (.tmp 24) (.const (.int .i64 2)) 3, 4, .always⟩,
 ⟨some 25, .assign (.tmp 26), 4, .always⟩] [1, 3, 24, 25])
 (.cond (.tmp 25)
 (.skip)
 (.ops [⟨some 27, .binOp .eql 3 (.tmp 24) (.const (.int .i64 3)) 3, 4, .always⟩,
 ⟨some 25, .assign (.tmp 27), 4, .always⟩] [1, 3, 24, 25])))
 (.cond (.tmp 25)
 (.seq (.ops [⟨some 28, .fieldAddr 29 (.tmp 1) 3, 0, .always⟩,
 ⟨some 29, .load 27 (.tmp 28), 27, .always⟩,
 ⟨some 30, .indexAddr 27 (.tmp 29) (.const (.int .i64 0)), 0, .always⟩,
 ⟨some 31, .load 29 (.tmp 30), 29, .always⟩,
 ⟨some 32, .call { callee := .value (.func 143), args := #[.tmp 31], argTypes := #[29] }, 122, .always⟩,
 ⟨some 4, .assign (.tmp 32), 122, .always⟩] [1, 3, 4])
 (.seq (.ops [⟨some 33, .move (.tmp 4), 122, .always⟩,
 ⟨some 34, .move (.tmp 3), 122, .always⟩,
 ⟨some 35, .binOp .and 122 (.tmp 33) (.tmp 34) 122, 122, .always⟩,
 ⟨some 36, .binOp .and 122 (.tmp 35) (.const (.int .u8 6)) 122, 122, .always⟩,
 ⟨some 5, .assign (.tmp 36), 122, .always⟩] [1, 3, 4, 5])
 (.seq (.seq (.ops [⟨some 37, .fieldAddr 29 (.tmp 1) 0, 0, .always⟩,
 ⟨some 38, .load 3 (.tmp 37), 3, .always⟩,
 ⟨some 39, .binOp .eql 3 (.tmp 38) (.const (.int .i64 2)) 3, 4, .always⟩] [3, 4, 5, 39])
 (.cond (.tmp 39)
 (.ops [⟨some 40, .move (.tmp 3), 122, .always⟩,
 ⟨some 41, .move (.tmp 4), 122, .always⟩,
 ⟨some 42, .binOp .or 122 (.tmp 40) (.tmp 41) 122, 122, .always⟩,
 ⟨some 3, .assign (.tmp 42), 122, .always⟩] [3, 5])
 (.skip)))
 (.seq (.ops [⟨some 43, .move (.tmp 5), 122, .always⟩,
 ⟨some 44, .move (.tmp 3), 122, .always⟩,
 ⟨some 45, .binOp .and 122 (.tmp 44) (.const (.int .u8 1)) 122, 122, .always⟩,
 ⟨some 46, .binOp .or 122 (.tmp 43) (.tmp 45) 122, 122, .always⟩,
 ⟨some 2, .assign (.tmp 46), 122, .always⟩] [2])
 (.ret)))))
 (.seq (.ops [⟨some 48, .binOp .eql 3 (.tmp 24) (.const (.int .i64 5)) 3, 4, .always⟩,
 ⟨some 47, .assign (.tmp 48), 4, .always⟩] [1, 3, 47])
 (.cond (.tmp 47)
 (.ops [⟨some 49, .move (.tmp 3), 122, .always⟩,
 ⟨some 50, .binOp .or 122 (.tmp 49) (.const (.int .u8 1)) 122, 122, .always⟩,
 ⟨some 3, .assign (.tmp 50), 122, .always⟩] [1, 3])
 (.skip)))))))
 (.seq (.ops [⟨some 51, .move (.tmp 3), 122, .always⟩,
 ⟨some 52, .binOp .and 122 (.tmp 51) (.const (.int .u8 1)) 122, 122, .always⟩,
 ⟨some 6, .assign (.tmp 52), 122, .always⟩] [1, 6])
 (.seq (.seq (.ops [⟨some 54, .load 29 (.tmp 1), 29, .always⟩,
 ⟨some 55, .call { callee := .value (.func 167), args := #[.tmp 54], argTypes := #[29] }, 170, .always⟩,
 ⟨some 53, .move (.tmp 55), 170, .always⟩,
 ⟨some 56, .extract (.tmp 53) 0, 4, .always⟩,
 ⟨some 57, .extract (.tmp 53) 1, 62, .always⟩,
 ⟨some 58, .extract (.tmp 53) 2, 29, .always⟩,
 ⟨some 59, .extract (.tmp 53) 3, 4, .always⟩,
 ⟨some 8, .alloc 62, 0, .always⟩,
 ⟨some 9, .alloc 29, 0, .always⟩,
 ⟨some 7, .assign (.tmp 56), 4, .always⟩,
 ⟨none, .store 62 (.tmp 8) (.tmp 57), 0, .always⟩,
 ⟨none, .store 29 (.tmp 9) (.tmp 58), 0, .always⟩,
 ⟨some 10, .assign (.tmp 59), 4, .always⟩] [6, 9, 10])
 (.seq (.ops [⟨some 60, .move (.tmp 10), 4, .always⟩] [6, 9, 60])
 (.cond (.tmp 60)
 (.ops [⟨some 61, .move (.tmp 6), 122, .always⟩,
 ⟨some 62, .load 29 (.tmp 9), 29, .always⟩,
 ⟨some 63, .call { callee := .value (.func 143), args := #[.tmp 62], argTypes := #[29] }, 122, .always⟩,
 ⟨some 64, .binOp .and 122 (.tmp 63) (.const (.int .u8 4)) 122, 122, .always⟩,
 ⟨some 65, .binOp .or 122 (.tmp 61) (.tmp 64) 122, 122, .always⟩,
 ⟨some 6, .assign (.tmp 65), 122, .always⟩] [6])
 (.skip))))
 (.seq (.ops [⟨some 66, .move (.tmp 6), 122, .always⟩,
 ⟨some 2, .assign (.tmp 66), 122, .always⟩] [2])
 (.ret)))))))
theorem w143 {args : List PV} {σ σ' : List Frm} {r : Ret} (hr : ∀ p, r = .val p → erV p = p) (h : wpP cfg s143 (QEndP cfg [.tmp 2] σ' r) ⟨initEnv args, fun _ => [], σ, ⟨fun _ => false, 0⟩⟩) : CallsV cfg 143 args σ r σ' :=
 callsV_of_p follows cfgT a143 (fn := Tryd.f143) (c := Tryd.f143.body.getD .skip) (by kernel_rfl) (by kernel_rfl) (by kernel_rfl) (by kernel_rfl) (by kernel_rfl) (sc := s143) (by kernel_rfl) [.tmp 2] (by kernel_rfl) hr h
def a186 : List Ann := [⟨[0], [], []⟩,
 ⟨[2], [], []⟩]
def s186 : SC := .seq (.ops [⟨some 2, .assign (.const (.bool false)), 4, .always⟩] [0])
 (.seq (.ops [⟨some 3, .move (.tmp 0), 3, .always⟩,
 ⟨some 4, .binOp .geq 3 (.tmp 3) (.const (.int .i64 4)) 3, 4, .always⟩,
 ⟨some 5, .move (.tmp 4), 4, .always⟩,
 ⟨some 6, .move (.tmp 0), 3, .tmp 5 true⟩,
 ⟨some 7, .binOp .leq 3 (.tmp 6) (.const (.int .i64 7)) 3, 4, .tmp 5 true⟩,
 ⟨some 8, .pick (.tmp 5) (.tmp 7) (.const (.bool false)), 4, .always⟩,
 ⟨some 2, .assign (.tmp 8), 4, .always⟩] [2])
 (.ret))
theorem w186 {args : List PV} {σ σ' : List Frm} {r : Ret} (hr : ∀ p, r = .val p → erV p = p) (h : wpP cfg s186 (QEndP cfg [.tmp 2] σ' r) ⟨initEnv args, fun _ => [], σ, ⟨fun _ => false, 0⟩⟩) : CallsV cfg 186 args σ r σ' :=
 callsV_of_p follows cfgT a186 (fn := Tryd.f186) (c := Tryd.f186.body.getD .skip) (by kernel_rfl) (by kernel_rfl) (by kernel_rfl) (by kernel_rfl) (by kernel_rfl) (sc := s186) (by kernel_rfl) [.tmp 2] (by kernel_rfl) hr h
def a168 : List Ann := [⟨[1, 2, 3, 6], [], []⟩,
 ⟨[1, 2, 3, 6, 7], [0, 1, 0, 4, 12, 31, 0, 127], [false, true, false, false, true, false, true, false]⟩,
 ⟨[1, 2, 3, 6, 7, 19, 20, 21], [], []⟩,
 ⟨[1, 2, 3, 6, 7, 19, 20, 21, 22], [], []⟩,
 ⟨[1, 2, 3, 6, 7, 9, 19, 20, 21], [], []⟩,
 ⟨[1, 2, 3, 6, 7, 19, 20, 21], [0, 1, 0, 0, 0, 28, 60, 127, 255, 511], [false, true, false, false, false, true, false, false, false, false]⟩,
 ⟨[1, 2, 3, 6, 7, 19, 20, 21], [], []⟩,
 ⟨[1, 2, 3, 6, 7, 37], [], []⟩,
 ⟨[1, 2, 3, 6, 7], [], []⟩,
 ⟨[1, 2, 6, 7, 41, 42, 43], [], []⟩,
 ⟨[1, 2, 6, 7, 41, 42, 43, 44], [], []⟩,
 ⟨[1, 2, 6, 7, 11, 41, 42, 43], [], []⟩,
 ⟨[1, 2, 6, 7, 41, 42, 43], [0, 1, 0, 0, 0, 28, 60, 127, 255, 511], [false, true, false, false, false, true, false, false, false, false]⟩,
 ⟨[1, 2, 6, 7, 41, 42, 43], [], []⟩,
 ⟨[6], [], []⟩]
def s168 : SC := .seq (.ops [⟨some 3, .box 29 (.tmp 0), 0, .always⟩,
 ⟨some 6, .alloc 29, 0, .always⟩] [1, 2, 3, 6])
 (.seq (.draw [⟨some 12, .fieldAddr 29 (.tmp 3) 0, 0, .always⟩,
 ⟨some 13, .load 3 (.tmp 12), 3, .always⟩,
 ⟨some 14, .fieldAddr 29 (.tmp 3) 1, 0, .always⟩,
 ⟨some 15, .load 25 (.tmp 14), 25, .always⟩,
 ⟨some 16, .call { callee := .value (.func 144), args := #[.tmp 15], argTypes := #[25] }, 25, .always⟩,
 ⟨some 17, .build 29 #[(0, .tmp 13), (1, .tmp 16)], 29, .always⟩,
 ⟨some 7, .alloc 29, 0, .always⟩,
 ⟨none, .store 29 (.tmp 7) (.tmp 17), 0, .always⟩] [false, true, false, false, true, false, true, false] [1, 2, 3, 6, 7])
 (.seq (.seq (.ops [⟨some 18, .fieldAddr 29 (.tmp 3) 2, 0, .always⟩,
 ⟨some 19, .load 26 (.tmp 18), 26, .always⟩,
 ⟨some 20, .call { callee := .builtin .len, args := #[.tmp 19], argTypes := #[26] }, 3, .always⟩,
 ⟨some 21, .move (.const (.int .i64 0)), 3, .always⟩] [1, 2, 3, 6, 7, 19, 20, 21])
 (.block 0
 (.loop
 (.seq (.ops [⟨some 22, .binOp .lss 3 (.tmp 21) (.tmp 20) 3, 0, .always⟩] [1, 2, 3, 6, 7, 19, 20, 21, 22])
 (.seq (.cond (.tmp 22)
 (.skip)
 (.exit 0))
 (.seq (.block 1
 (.seq (.ops [⟨some 23, .indexAddr 26 (.tmp 19) (.tmp 21), 0, .always⟩,
 ⟨some 24, .load 62 (.tmp 23), 62, .always⟩,
 ⟨some 9, .alloc 62, 0, .always⟩,
 ⟨none, .store 62 (.tmp 9) (.tmp 24), 0, .always⟩] [1, 2, 3, 6, 7, 9, 19, 20, 21])
 (.draw [⟨some 25, .fieldAddr 29 (.tmp 7) 2, 0, .always⟩,
 ⟨some 26, .load 26 (.tmp 25), 26, .always⟩,
 ⟨some 27, .move (.tmp 2), 173, .always⟩,
 ⟨some 28, .load 62 (.tmp 9), 62, .always⟩,
 ⟨some 29, .move (.tmp 1), 3, .always⟩,
 ⟨some 30, .call { callee := .value (.tmp 27), args := #[.tmp 28, .tmp 29], argTypes := #[62, 3] }, 62, .always⟩,
 ⟨some 31, .buildSlice 26 1 #[(0, .tmp 30)], 26, .always⟩,
 ⟨some 32, .call { callee := .builtin .append, args := #[.tmp 26, .tmp 31], argTypes := #[26, 26] }, 26, .always⟩,
 ⟨some 33, .fieldAddr 29 (.tmp 7) 2, 0, .always⟩,
 ⟨none, .store 26 (.tmp 33) (.tmp 32), 0, .always⟩] [false, true, false, false, false, true, false, false, false, false] [1, 2, 3, 6, 7, 19, 20, 21])))
 (.ops [⟨some 34, .binOp .add 3 (.tmp 21) (.const (.int .i64 1)) 3, 3, .always⟩,
 ⟨some 21, .move (.tmp 34), 3, .always⟩] [1, 2, 3, 6, 7, 19, 20, 21])))))))
 (.seq (.seq (.ops [⟨some 35, .fieldAddr 29 (.tmp 3) 0, 0, .always⟩,
 ⟨some 36, .load 3 (.tmp 35), 3, .always⟩,
 ⟨some 37, .call { callee := .value (.func 186), args := #[.tmp 36], argTypes := #[3] }, 4, .always⟩] [1, 2, 3, 6, 7, 37])
 (.cond (.tmp 37)
 (.ops [⟨some 38, .move (.tmp 1), 3, .always⟩,
 ⟨some 39, .binOp .add 3 (.tmp 38) (.const (.int .i64 1)) 3, 3, .always⟩,
 ⟨some 1, .assign (.tmp 39), 3, .always⟩] [1, 2, 3, 6, 7])
 (.skip)))
 (.seq (.seq (.ops [⟨some 40, .fieldAddr 29 (.tmp 3) 3, 0, .always⟩,
 ⟨some 41, .load 27 (.tmp 40), 27, .always⟩,
 ⟨some 42, .call { callee := .builtin .len, args := #[.tmp 41], argTypes := #[27] }, 3, .always⟩,
 ⟨some 43, .move (.const (.int .i64 0)), 3, .always⟩] [1, 2, 6, 7, 41, 42, 43])
 (.block 2
 (.loop
 (.seq (.ops [⟨some 44, .binOp .lss 3 (.tmp 43) (.tmp 42) 3, 0, .always⟩] [1, 2, 6, 7, 41, 42, 43, 44])
 (.seq (.cond (.tmp 44)
 (.skip)
 (.exit 2))
 (.seq (.block 3
 (.seq (.ops [⟨some 45, .indexAddr 27 (.tmp 41) (.tmp 43), 0, .always⟩,
 ⟨some 46, .load 29 (.tmp 45), 29, .always⟩,
 ⟨some 11, .alloc 29, 0, .always⟩,
 ⟨none, .store 29 (.tmp 11) (.tmp 46), 0, .always⟩] [1, 2, 6, 7, 11, 41, 42, 43])
 (.draw [⟨some 47, .fieldAddr 29 (.tmp 7) 3, 0, .always⟩,
 ⟨some 48, .load 27 (.tmp 47), 27, .always⟩,
 ⟨some 49, .load 29 (.tmp 11), 29, .always⟩,
 ⟨some 50, .move (.tmp 1), 3, .always⟩,
 ⟨some 51, .move (.tmp 2), 173, .always⟩,
 ⟨some 52, .call { callee := .value (.func 168), args := #[.tmp 49, .tmp 50, .tmp 51], argTypes := #[29, 3, 173] }, 29, .always⟩,
 ⟨some 53, .buildSlice 27 1 #[(0, .tmp 52)], 27, .always⟩,
 ⟨some 54, .call { callee := .builtin .append, args := #[.tmp 48, .tmp 53], argTypes := #[27, 27] }, 27, .always⟩,
 ⟨some 55, .fieldAddr 29 (.tmp 7) 3, 0, .always⟩,
 ⟨none, .store 27 (.tmp 55) (.tmp 54), 0, .always⟩] [false, true, false, false, false, true, false, false, false, false] [1, 2, 6, 7, 41, 42, 43])))
 (.ops [⟨some 56, .binOp .add 3 (.tmp 43) (.const (.int .i64 1)) 3, 3, .always⟩,
 ⟨some 43, .move (.tmp 56), 3, .always⟩] [1, 2, 6, 7, 41, 42, 43])))))))
 (.seq (.ops [⟨some 57, .load 29 (.tmp 7), 29, .always⟩,
 ⟨none, .store 29 (.tmp 6) (.tmp 57), 0, .always⟩] [6])
 (.ret))))))
theorem w168 {args : List PV} {σ σ' : List Frm} {r : Ret} (hr : ∀ p, r = .val p → erV p = p) (h : wpP cfg s168 (QEndP cfg [.cell 6 29] σ' r) ⟨initEnv args, fun _ => [], σ, ⟨fun _ => false, 0⟩⟩) : CallsV cfg 168 args σ r σ' :=
 callsV_of_p follows cfgT a168 (fn := Tryd.f168) (c := Tryd.f168.body.getD .skip) (by kernel_rfl) (by kernel_rfl) (by kernel_rfl) (by kernel_rfl) (by kernel_rfl) (sc := s168) (by kernel_rfl) [.cell 6 29] (by kernel_rfl) hr h
def a170 : List Ann := [⟨[1, 2], [], []⟩,
 ⟨[1, 2, 3], [0, 1, 0, 4, 0, 16, 48, 127, 0, 511], [false, true, false, true, false, false, true, false, true, false]⟩,
 ⟨[2, 3, 15, 16, 17], [], []⟩,
 ⟨[2, 3, 15, 16, 17, 18], [], []⟩,
 ⟨[2, 3, 5, 15, 16, 17], [], []⟩,
 ⟨[2, 3, 15, 16, 17], [0, 1, 0, 4, 12, 31, 63, 127], [false, true, false, true, false, false, false, false]⟩,
 ⟨[2, 3, 15, 16, 17], [], []⟩,
 ⟨[2], [], []⟩]
def s170 : SC := .seq (.ops [⟨some 1, .box 62 (.tmp 0), 0, .always⟩,
 ⟨some 2, .alloc 62, 0, .always⟩] [1, 2])
 (.seq (.draw [⟨some 6, .fieldAddr 62 (.tmp 1) 0, 0, .always⟩,
 ⟨some 7, .load 3 (.tmp 6), 3, .always⟩,
 ⟨some 8, .fieldAddr 62 (.tmp 1) 1, 0, .always⟩,
 ⟨some 9, .load 3 (.tmp 8), 3, .always⟩,
 ⟨some 10, .fieldAddr 62 (.tmp 1) 2, 0, .always⟩,
 ⟨some 11, .load 25 (.tmp 10), 25, .always⟩,
 ⟨some 12, .call { callee := .value (.func 144), args := #[.tmp 11], argTypes := #[25] }, 25, .always⟩,
 ⟨some 13, .build 62 #[(0, .tmp 7), (1, .tmp 9), (2, .tmp 12)], 62, .always⟩,
 ⟨some 3, .alloc 62, 0, .always⟩,
 ⟨none, .store 62 (.tmp 3) (.tmp 13), 0, .always⟩] [false, true, false, true, false, false, true, false, true, false] [1, 2, 3])
 (.seq (.seq (.ops [⟨some 14, .fieldAddr 62 (.tmp 1) 3, 0, .always⟩,
 ⟨some 15, .load 26 (.tmp 14), 26, .always⟩,
 ⟨some 16, .call { callee := .builtin .len, args := #[.tmp 15], argTypes := #[26] }, 3, .always⟩,
 ⟨some 17, .move (.const (.int .i64 0)), 3, .always⟩] [2, 3, 15, 16, 17])
 (.block 0
 (.loop
 (.seq (.ops [⟨some 18, .binOp .lss 3 (.tmp 17) (.tmp 16) 3, 0, .always⟩] [2, 3, 15, 16, 17, 18])
 (.seq (.cond (.tmp 18)
 (.skip)
 (.exit 0))
 (.seq (.block 1
 (.seq (.ops [⟨some 19, .indexAddr 26 (.tmp 15) (.tmp 17), 0, .always⟩,
 ⟨some 20, .load 62 (.tmp 19), 62, .always⟩,
 ⟨some 5, .alloc 62, 0, .always⟩,
 ⟨none, .store 62 (.tmp 5) (.tmp 20), 0, .always⟩] [2, 3, 5, 15, 16, 17])
 (.draw [⟨some 21, .fieldAddr 62 (.tmp 3) 3, 0, .always⟩,
 ⟨some 22, .load 26 (.tmp 21), 26, .always⟩,
 ⟨some 23, .load 62 (.tmp 5), 62, .always⟩,
 ⟨some 24, .call { callee := .value (.func 170), args := #[.tmp 23], argTypes := #[62] }, 62, .always⟩,
 ⟨some 25, .buildSlice 26 1 #[(0, .tmp 24)], 26, .always⟩,
 ⟨some 26, .call { callee := .builtin .append, args := #[.tmp 22, .tmp 25], argTypes := #[26, 26] }, 26, .always⟩,
 ⟨some 27, .fieldAddr 62 (.tmp 3) 3, 0, .always⟩,
 ⟨none, .store 26 (.tmp 27) (.tmp 26), 0, .always⟩] [false, true, false, true, false, false, false, false] [2, 3, 15, 16, 17])))
 (.ops [⟨some 28, .binOp .add 3 (.tmp 17) (.const (.int .i64 1)) 3, 3, .always⟩,
 ⟨some 17, .move (.tmp 28), 3, .always⟩] [2, 3, 15, 16, 17])))))))
 (.seq (.ops [⟨some 29, .load 62 (.tmp 3), 62, .always⟩,
 ⟨none, .store 62 (.tmp 2) (.tmp 29), 0, .always⟩] [2])
 (.ret))))
theorem w170 {args : List PV} {σ σ' : List Frm} {r : Ret} (hr : ∀ p, r = .val p → erV p = p) (h : wpP cfg s170 (QEndP cfg [.cell 2 62] σ' r) ⟨initEnv args, fun _ => [], σ, ⟨fun _ => false, 0⟩⟩) : CallsV cfg 170 args σ r σ' :=
 callsV_of_p follows cfgT a170 (fn := Tryd.f170) (c := Tryd.f170.body.getD .skip) (by kernel_rfl) (by kernel_rfl) (by kernel_rfl) (by kernel_rfl) (by kernel_rfl) (sc := s170) (by kernel_rfl) [.cell 2 62] (by kernel_rfl) hr h
def a169 : List Ann := [⟨[2, 4], [], []⟩,
 ⟨[4], [], []⟩]
def s169 : SC := .seq (.ops [⟨some 2, .box 62 (.tmp 0), 0, .always⟩,
 ⟨some 4, .alloc 62, 0, .always⟩] [2, 4])
 (.seq (.ops [⟨some 5, .load 62 (.tmp 2), 62, .always⟩,
 ⟨some 6, .call { callee := .value (.func 170), args := #[.tmp 5], argTypes := #[62] }, 62, .always⟩,
 ⟨none, .store 62 (.tmp 4) (.tmp 6), 0, .always⟩] [4])
 (.ret))
theorem w169 {args : List PV} {σ σ' : List Frm} {r : Ret} (hr : ∀ p, r = .val p → erV p = p) (h : wpP cfg s169 (QEndP cfg [.cell 4 62] σ' r) ⟨initEnv args, fun _ => [], σ, ⟨fun _ => false, 0⟩⟩) : CallsV cfg 169 args σ r σ' :=
 callsV_of_p follows cfgT a169 (fn := Tryd.f169) (c := Tryd.f169.body.getD .skip) (by kernel_rfl) (by kernel_rfl) (by kernel_rfl) (by kernel_rfl) (by kernel_rfl) (sc := s169) (by kernel_rfl) [.cell 4 62] (by kernel_rfl) hr h
def a145 : List Ann := [⟨[1, 2], [], []⟩,
 ⟨[2], [], []⟩]
def s145 : SC := .seq (.ops [⟨some 1, .box 29 (.tmp 0), 0, .always⟩,
 ⟨some 2, .alloc 29, 0, .always⟩] [1, 2])
 (.seq (.ops [⟨some 3, .load 29 (.tmp 1), 29, .always⟩,
 ⟨some 4, .call { callee := .value (.func 168), args := #[.tmp 3, .const (.int .i64 0), .func 169], argTypes := #[29, 3, 173] }, 29, .always⟩,
 ⟨none, .store 29 (.tmp 2) (.tmp 4), 0, .always⟩] [2])
 (.ret))
theorem w145 {args : List PV} {σ σ' : List Frm} {r : Ret} (hr : ∀ p, r = .val p → erV p = p) (h : wpP cfg s145 (QEndP cfg [.cell 2 29] σ' r) ⟨initEnv args, fun _ => [], σ, ⟨fun _ => false, 0⟩⟩) : CallsV cfg 145 args σ r σ' :=
 callsV_of_p follows cfgT a145 (fn := Tryd.f145) (c := Tryd.f145.body.getD .skip) (by kernel_rfl) (by kernel_rfl) (by kernel_rfl) (by kernel_rfl) (by kernel_rfl) (sc := s145) (by kernel_rfl) [.cell 2 29] (by kernel_rfl) hr h
def a103 : List Ann := [⟨[1, 3, 4], [], []⟩,
 ⟨[1, 3, 4, 10], [], []⟩,
 ⟨[2, 3, 4, 5], [], []⟩,
 ⟨[3, 4, 6, 7], [], []⟩,
 ⟨[3, 4, 6, 7, 29], [], []⟩,
 ⟨[2, 3, 4, 5], [], []⟩,
 ⟨[2, 3, 4, 5], [0, 0, 2, 6, 0, 16, 48, 112, 254, 511, 1023, 2047, 4095], [false, false, false, true, false, true, false, true, false, false, false, false, false]⟩]
def s103 : SC := .seq (.ops [⟨some 1, .box 29 (.tmp 0), 0, .always⟩,
 ⟨some 2, .assign (.const (.slice none 0 0)), 23, .always⟩,
 ⟨some 3, .alloc 25, 0, .always⟩,
 ⟨some 4, .alloc 29, 0, .always⟩,
 ⟨some 5, .assign (.const (.bool false)), 4, .always⟩] [1, 3, 4])
 (.seq (.seq (.ops [⟨some 8, .load 29 (.tmp 1), 29, .always⟩,
 ⟨some 9, .call { callee := .value (.func 75), args := #[.tmp 8], argTypes := #[29] }, 43, .always⟩,
 ⟨some 10, .binOp .neq 43 (.tmp 9) (.const (.int .i64 0)) 43, 4, .always⟩] [1, 3, 4, 10])
 (.cond (.tmp 10)
 (.seq (.ops [⟨some 11, .build 25 #[], 25, .always⟩,
 ⟨some 12, .build 29 #[], 29, .always⟩,
 ⟨some 2, .assign (.const (.slice none 0 0)), 23, .always⟩,
 ⟨none, .store 25 (.tmp 3) (.tmp 11), 0, .always⟩,
 ⟨none, .store 29 (.tmp 4) (.tmp 12), 0, .always⟩,
 ⟨some 5, .assign (.const (.bool false)), 4, .always⟩] [2, 3, 4, 5])
 (.ret))
 (.skip)))
 (.seq (.ops [⟨some 14, .load 29 (.tmp 1), 29, .always⟩,
 ⟨some 15, .call { callee := .value (.func 142), args := #[.tmp 14], argTypes := #[29] }, 150, .always⟩,
 ⟨some 13, .move (.tmp 15), 150, .always⟩,
 ⟨some 16, .extract (.tmp 13) 0, 23, .always⟩,
 ⟨some 17, .extract (.tmp 13) 1, 29, .always⟩,
 ⟨some 7, .alloc 29, 0, .always⟩,
 ⟨some 6, .assign (.tmp 16), 23, .always⟩,
 ⟨none, .store 29 (.tmp 7) (.tmp 17), 0, .always⟩] [3, 4, 6, 7])
 (.seq (.seq (.ops [⟨some 18, .fieldAddr 29 (.tmp 7) 0, 0, .always⟩,
 ⟨some 19, .load 3 (.tmp 18), 3, .always⟩,
 ⟨some 20, .binOp .neq 3 (.tmp 19) (.const (.int .i64 5)) 3, 4, .always⟩,
 ⟨some 21, .move (.tmp 20), 4, .always⟩,
 ⟨some 22, .fieldAddr 29 (.tmp 7) 3, 0, .tmp 21 false⟩,
 ⟨some 23, .load 27 (.tmp 22), 27, .tmp 21 false⟩,
 ⟨some 24, .indexAddr 27 (.tmp 23) (.const (.int .i64 0)), 0, .tmp 21 false⟩,
 ⟨some 25, .load 29 (.tmp 24), 29, .tmp 21 false⟩,
 ⟨some 26, .call { callee := .value (.func 143), args := #[.tmp 25], argTypes := #[29] }, 122, .tmp 21 false⟩,
 ⟨some 27, .binOp .and 122 (.tmp 26) (.const (.int .u8 4)) 122, 122, .tmp 21 false⟩,
 ⟨some 28, .binOp .eql 122 (.tmp 27) (.const (.int .u8 0)) 122, 4, .tmp 21 false⟩,
 ⟨some 29, .pick (.tmp 21) (.const (.bool true)) (.tmp 28), 4, .always⟩] [3, 4, 6, 7, 29])
 (.cond (.tmp 29)
 (.seq (.ops [⟨some 30, .build 25 #[], 25, .always⟩,
 ⟨some 31, .build 29 #[], 29, .always⟩,
 ⟨some 2, .assign (.const (.slice none 0 0)), 23, .always⟩,
 ⟨none, .store 25 (.tmp 3) (.tmp 30), 0, .always⟩,
 ⟨none, .store 29 (.tmp 4) (.tmp 31), 0, .always⟩,
 ⟨some 5, .assign (.const (.bool false)), 4, .always⟩] [2, 3, 4, 5])
 (.ret))
 (.skip)))
 (.seq (.draw [⟨some 32, .move (.tmp 6), 23, .always⟩,
 ⟨some 33, .fieldAddr 29 (.tmp 7) 1, 0, .always⟩,
 ⟨some 34, .load 25 (.tmp 33), 25, .always⟩,
 ⟨some 35, .call { callee := .value (.func 144), args := #[.tmp 34], argTypes := #[25] }, 25, .always⟩,
 ⟨some 36, .fieldAddr 29 (.tmp 7) 3, 0, .always⟩,
 ⟨some 37, .load 27 (.tmp 36), 27, .always⟩,
 ⟨some 38, .indexAddr 27 (.tmp 37) (.const (.int .i64 0)), 0, .always⟩,
 ⟨some 39, .load 29 (.tmp 38), 29, .always⟩,
 ⟨some 40, .call { callee := .value (.func 145), args := #[.tmp 39], argTypes := #[29] }, 29, .always⟩,
 ⟨some 2, .assign (.tmp 32), 23, .always⟩,
 ⟨none, .store 25 (.tmp 3) (.tmp 35), 0, .always⟩,
 ⟨none, .store 29 (.tmp 4) (.tmp 40), 0, .always⟩,
 ⟨some 5, .assign (.const (.bool true)), 4, .always⟩] [false, false, false, true, false, true, false, true, false, false, false, false, false] [2, 3, 4, 5])
 (.ret)))))
theorem w103 {args : List PV} {σ σ' : List Frm} {r : Ret} (hr : ∀ p, r = .val p → erV p = p) (h : wpP cfg s103 (QEndP cfg [.tmp 2, .cell 3 25, .cell 4 29, .tmp 5] σ' r) ⟨initEnv args, fun _ => [], σ, ⟨fun _ => false, 0⟩⟩) : CallsV cfg 103 args σ r σ' :=
 callsV_of_p follows cfgT a103 (fn := Tryd.f103) (c := Tryd.f103.body.getD .skip) (by kernel_rfl) (by kernel_rfl) (by kernel_rfl) (by kernel_rfl) (by kernel_rfl) (sc := s103) (by kernel_rfl) [.tmp 2, .cell 3 25, .cell 4 29, .tmp 5] (by kernel_rfl) hr h
def a44 : List Ann := [⟨[], [], []⟩,
 ⟨[1], [], []⟩,
 ⟨[1, 2, 3, 4, 5], [0, 0, 0, 4, 12, 30, 63, 127, 255, 511, 511, 511, 511, 0, 0, 25599, 59391, 126975, 262143], [true, true, true, true, true, true, true, true, false, false, false, false, false, true, true, false, false, false, false]⟩,
 ⟨[0], [], []⟩]
def s44 : SC := .seq (.ops [⟨some 0, .assign (.const (.bool false)), 4, .always⟩] [])
 (.seq (.ops [⟨some 6, .call { callee := .value (.func 73), args := #[], argTypes := #[] }, 25, .always⟩,
 ⟨some 1, .alloc 25, 0, .always⟩,
 ⟨none, .store 25 (.tmp 1) (.tmp 6), 0, .always⟩] [1])
 (.seq (.draw [⟨some 8, .load 25 (.tmp 1), 25, .always⟩,
 ⟨some 9, .load 25 (.tmp 1), 25, .always⟩,
 ⟨some 10, .call { callee := .value (.func 93), args := #[.const (.int .i64 0)], argTypes := #[3] }, 62, .always⟩,
 ⟨some 11, .call { callee := .value (.func 93), args := #[.const (.int .i64 1)], argTypes := #[3] }, 62, .always⟩,
 ⟨some 12, .call { callee := .value (.func 74), args := #[.tmp 10, .tmp 11], argTypes := #[62, 62] }, 29, .always⟩,
 ⟨some 13, .call { callee := .value (.func 47), args := #[.const (.int .i64 5), .tmp 9, .tmp 12], argTypes := #[3, 25, 29] }, 29, .always⟩,
 ⟨some 14, .call { callee := .value (.func 47), args := #[.const (.int .i64 4), .tmp 8, .tmp 13], argTypes := #[3, 25, 29] }, 29, .always⟩,
 ⟨some 15, .call { callee := .value (.func 103), args := #[.tmp 14], argTypes := #[29] }, 119, .always⟩,
 ⟨some 7, .move (.tmp 15), 119, .always⟩,
 ⟨some 16, .extract (.tmp 7) 0, 23, .always⟩,
 ⟨some 17, .extract (.tmp 7) 1, 25, .always⟩,
 ⟨some 18, .extract (.tmp 7) 2, 29, .always⟩,
 ⟨some 19, .extract (.tmp 7) 3, 4, .always⟩,
 ⟨some 3, .alloc 25, 0, .always⟩,
 ⟨some 4, .alloc 29, 0, .always⟩,
 ⟨some 2, .assign (.tmp 16), 23, .always⟩,
 ⟨none, .store 25 (.tmp 3) (.tmp 17), 0, .always⟩,
 ⟨none, .store 29 (.tmp 4) (.tmp 18), 0, .always⟩,
 ⟨some 5, .assign (.tmp 19), 4, .always⟩] [true, true, true, true, true, true, true, true, false, false, false, false, false, true, true, false, false, false, false] [1, 2, 3, 4, 5])
 (.seq (.ops [⟨some 20, .move (.tmp 5), 4, .always⟩,
 ⟨some 21, .move (.tmp 20), 4, .always⟩,
 ⟨some 22, .move (.tmp 2), 23, .tmp 21 true⟩,
 ⟨some 23, .call { callee := .builtin .len, args := #[.tmp 22], argTypes := #[23] }, 3, .tmp 21 true⟩,
 ⟨some 24, .binOp .eql 3 (.tmp 23) (.const (.int .i64 1)) 3, 4, .tmp 21 true⟩,
 ⟨some 25, .pick (.tmp 21) (.tmp 24) (.const (.bool false)), 4, .always⟩,
 ⟨some 26, .move (.tmp 25), 4, .always⟩,
 ⟨some 27, .load 25 (.tmp 3), 25, .tmp 26 true⟩,
 ⟨some 28, .load 25 (.tmp 1), 25, .tmp 26 true⟩,
 ⟨some 29, .call { callee := .value (.func 26), args := #[.tmp 27, .tmp 28], argTypes := #[25, 25] }, 4, .tmp 26 true⟩,
 ⟨some 30, .pick (.tmp 26) (.tmp 29) (.const (.bool false)), 4, .always⟩,
 ⟨some 31, .move (.tmp 30), 4, .always⟩,
 ⟨some 32, .fieldAddr 29 (.tmp 4) 0, 0, .tmp 31 true⟩,
 ⟨some 33, .load 3 (.tmp 32), 3, .tmp 31 true⟩,
 ⟨some 34, .binOp .eql 3 (.tmp 33) (.const (.int .i64 1)) 3, 4, .tmp 31 true⟩,
 ⟨some 35, .pick (.tmp 31) (.tmp 34) (.const (.bool false)), 4, .always⟩,
 ⟨some 0, .assign (.tmp 35), 4, .always⟩] [0])
 (.ret))))
theorem w44 {args : List PV} {σ σ' : List Frm} {r : Ret} (hr : ∀ p, r = .val p → erV p = p) (h : wpP cfg s44 (QEndP cfg [.tmp 0] σ' r) ⟨initEnv args, fun _ => [], σ, ⟨fun _ => false, 0⟩⟩) : CallsV cfg 44 args σ r σ' :=
 callsV_of_p follows cfgT a44 (fn := Tryd.f44) (c := Tryd.f44.body.getD .skip) (by kernel_rfl) (by kernel_rfl) (by kernel_rfl) (by kernel_rfl) (by kernel_rfl) (sc := s44) (by kernel_rfl) [.tmp 0] (by kernel_rfl) hr h
def a104 : List Ann := [⟨[1, 2], [], []⟩,
 ⟨[1, 2, 6], [], []⟩,
 ⟨[1, 2, 6, 10], [], []⟩,
 ⟨[4, 5], [], []⟩,
 ⟨[4, 5], [], []⟩]
def s104 : SC := .seq (.ops [⟨some 2, .box 29 (.tmp 0), 0, .always⟩,
 ⟨some 4, .assign (.const (.bool false)), 4, .always⟩,
 ⟨some 5, .assign (.const (.int .i64 0)), 43, .always⟩] [1, 2])
 (.seq (.seq (.ops [⟨some 7, .load 29 (.tmp 2), 29, .always⟩,
 ⟨some 8, .call { callee := .value (.func 75), args := #[.tmp 7], argTypes := #[29] }, 43, .always⟩,
 ⟨some 6, .assign (.tmp 8), 43, .always⟩] [1, 2, 6])
 (.seq (.ops [⟨some 9, .move (.tmp 6), 43, .always⟩,
 ⟨some 10, .binOp .neq 43 (.tmp 9) (.const (.int .i64 0)) 43, 4, .always⟩] [1, 2, 6, 10])
 (.cond (.tmp 10)
 (.seq (.ops [⟨some 11, .move (.tmp 6), 43, .always⟩,
 ⟨some 4, .assign (.const (.bool false)), 4, .always⟩,
 ⟨some 5, .assign (.tmp 11), 43, .always⟩] [4, 5])
 (.ret))
 (.skip))))
 (.seq (.ops [⟨some 12, .load 29 (.tmp 2), 29, .always⟩,
 ⟨some 13, .call { callee := .value (.func 143), args := #[.tmp 12], argTypes := #[29] }, 122, .always⟩,
 ⟨some 14, .move (.tmp 1), 122, .always⟩,
 ⟨some 15, .binOp .and 122 (.tmp 13) (.tmp 14) 122, 122, .always⟩,
 ⟨some 16, .binOp .neq 122 (.tmp 15) (.const (.int .u8 0)) 122, 4, .always⟩,
 ⟨some 4, .assign (.tmp 16), 4, .always⟩,
 ⟨some 5, .assign (.const (.int .i64 0)), 43, .always⟩] [4, 5])
 (.ret)))
theorem w104 {args : List PV} {σ σ' : List Frm} {r : Ret} (hr : ∀ p, r = .val p → erV p = p) (h : wpP cfg s104 (QEndP cfg [.tmp 4, .tmp 5] σ' r) ⟨initEnv args, fun _ => [], σ, ⟨fun _ => false, 0⟩⟩) : CallsV cfg 104 args σ r σ' :=
 callsV_of_p follows cfgT a104 (fn := Tryd.f104) (c := Tryd.f104.body.getD .skip) (by kernel_rfl) (by kernel_rfl) (by kernel_rfl) (by kernel_rfl) (by kernel_rfl) (sc := s104) (by kernel_rfl) [.tmp 4, .tmp 5] (by kernel_rfl) hr h
def a45 : List Ann := [⟨[1], [], []⟩,
 ⟨[2, 3], [], []⟩]
def s45 : SC := .seq (.ops [⟨some 1, .box 29 (.tmp 0), 0, .always⟩,
 ⟨some 2, .assign (.const (.bool false)), 4, .always⟩,
 ⟨some 3, .assign (.const (.int .i64 0)), 43, .always⟩] [1])
 (.seq (.ops [⟨some 4, .load 29 (.tmp 1), 29, .always⟩,
 ⟨some 5, .call { callee := .value (.func 104), args := #[.tmp 4, .const (.int .u8 1)], argTypes := #[29, 122] }, 64, .always⟩,
 ⟨some 6, .extract (.tmp 5) 0, 4, .always⟩,
 ⟨some 7, .extract (.tmp 5) 1, 43, .always⟩,
 ⟨some 2, .assign (.tmp 6), 4, .always⟩,
 ⟨some 3, .assign (.tmp 7), 43, .always⟩] [2, 3])
 (.ret))
theorem w45 {args : List PV} {σ σ' : List Frm} {r : Ret} (hr : ∀ p, r = .val p → erV p = p) (h : wpP cfg s45 (QEndP cfg [.tmp 2, .tmp 3] σ' r) ⟨initEnv args, fun _ => [], σ, ⟨fun _ => false, 0⟩⟩) : CallsV cfg 45 args σ r σ' :=
 callsV_of_p follows cfgT a45 (fn := Tryd.f45) (c := Tryd.f45.body.getD .skip) (by kernel_rfl) (by kernel_rfl) (by kernel_rfl) (by kernel_rfl) (by kernel_rfl) (sc := s45) (by kernel_rfl) [.tmp 2, .tmp 3] (by kernel_rfl) hr h
def a7 : List Ann := [⟨[0], [], []⟩,
 ⟨[0, 21], [], []⟩,
 ⟨[2], [], []⟩,
 ⟨[0, 24], [], []⟩,
 ⟨[2], [], []⟩,
 ⟨[3], [], []⟩,
 ⟨[3, 4], [], []⟩,
 ⟨[3, 5, 6], [], []⟩,
 ⟨[5, 6, 7], [], []⟩,
 ⟨[5, 6, 7, 8, 9], [], []⟩,
 ⟨[5, 6, 7, 8, 9, 10, 11], [], []⟩,
 ⟨[5, 6, 7, 8, 9, 10, 11, 12, 13], [], []⟩,
 ⟨[5, 7, 8, 9, 10, 11, 12, 13, 14, 15], [], []⟩,
 ⟨[5, 7, 8, 87], [], []⟩,
 ⟨[2], [], []⟩,
 ⟨[5, 7, 8, 88, 89, 90], [], []⟩,
 ⟨[5, 7, 8, 88, 89, 90, 91], [], []⟩,
 ⟨[5, 7, 8, 17, 88, 89, 90], [], []⟩,
 ⟨[5, 7, 8, 17, 18, 19, 88, 89, 90], [], []⟩,
 ⟨[5, 7, 8, 88, 89, 90, 112], [], []⟩,
 ⟨[2], [], []⟩,
 ⟨[5, 7, 8, 88, 89, 90], [], []⟩,
 ⟨[2], [], []⟩]
def s7 : SC := .seq (.ops [⟨some 2, .assign (.const (.bool false)), 4, .always⟩] [0])
 (.seq (.seq (.ops [⟨some 20, .call { callee := .value (.func 44), args := #[], argTypes := #[] }, 4, .always⟩,
 ⟨some 21, .unOp .not 4 (.tmp 20), 4, .always⟩] [0, 21])
 (.cond (.tmp 21)
 (.seq (.ops [⟨some 2, .assign (.const (.bool false)), 4, .always⟩] [2])
 (.ret))
 (.skip)))
 (.seq (.seq (.ops [⟨some 22, .move (.tmp 0), 22, .always⟩,
 ⟨some 23, .call { callee := .value (.func 16), args := #[.tmp 22], argTypes := #[22] }, 4, .always⟩,
 ⟨some 24, .unOp .not 4 (.tmp 23), 4, .always⟩] [0, 24])
 (.cond (.tmp 24)
 (.seq (.ops [⟨some 2, .assign (.const (.bool true)), 4, .always⟩] [2])
 (.ret))
 (.skip)))
 (.seq (.ops [⟨some 25, .move (.tmp 0), 22, .always⟩,
 ⟨some 26, .call { callee := .value (.func 21), args := #[.tmp 25], argTypes := #[22] }, 39, .always⟩,
 ⟨some 3, .assign (.tmp 26), 39, .always⟩] [3])
 (.seq (.ops [⟨some 27, .move (.tmp 3), 39, .always⟩,
 ⟨some 28, .call { callee := .value (.func 33), args := #[.tmp 27], argTypes := #[39] }, 23, .always⟩,
 ⟨some 4, .assign (.tmp 28), 23, .always⟩] [3, 4])
 (.seq (.ops [⟨some 29, .move (.tmp 3), 39, .always⟩,
 ⟨some 30, .move (.tmp 4), 23, .always⟩,
 ⟨some 31, .call { callee := .value (.func 23), args := #[.tmp 29, .tmp 30, .const (.int .i64 2)], argTypes := #[39, 23, 3] }, 29, .always⟩,
 ⟨some 32, .move (.tmp 3), 39, .always⟩,
 ⟨some 33, .move (.tmp 4), 23, .always⟩,
 ⟨some 34, .call { callee := .value (.func 23), args := #[.tmp 32, .tmp 33, .const (.int .i64 2)], argTypes := #[39, 23, 3] }, 29, .always⟩,
 ⟨some 5, .alloc 29, 0, .always⟩,
 ⟨some 6, .alloc 29, 0, .always⟩,
 ⟨none, .store 29 (.tmp 5) (.tmp 31), 0, .always⟩,
 ⟨none, .store 29 (.tmp 6) (.tmp 34), 0, .always⟩] [3, 5, 6])
 (.seq (.ops [⟨some 35, .move (.tmp 3), 39, .always⟩,
 ⟨some 36, .call { callee := .value (.func 42), args := #[.tmp 35, .const (.int .i64 1)], argTypes := #[39, 3] }, 25, .always⟩,
 ⟨some 7, .alloc 25, 0, .always⟩,
 ⟨none, .store 25 (.tmp 7) (.tmp 36), 0, .always⟩] [5, 6, 7])
 (.seq (.ops [⟨some 38, .load 29 (.tmp 5), 29, .always⟩,
 ⟨some 39, .call { callee := .value (.func 45), args := #[.tmp 38], argTypes := #[29] }, 64, .always⟩,
 ⟨some 37, .move (.tmp 39), 64, .always⟩,
 ⟨some 40, .extract (.tmp 37) 0, 4, .always⟩,
 ⟨some 41, .extract (.tmp 37) 1, 43, .always⟩,
 ⟨some 8, .assign (.tmp 40), 4, .always⟩,
 ⟨some 9, .assign (.tmp 41), 43, .always⟩] [5, 6, 7, 8, 9])
 (.seq (.ops [⟨some 43, .load 29 (.tmp 6), 29, .always⟩,
 ⟨some 44, .call { callee := .value (.func 45), args := #[.tmp 43], argTypes := #[29] }, 64, .always⟩,
 ⟨some 42, .move (.tmp 44), 64, .always⟩,
 ⟨some 45, .extract (.tmp 42) 0, 4, .always⟩,
 ⟨some 46, .extract (.tmp 42) 1, 43, .always⟩,
 ⟨some 10, .assign (.tmp 45), 4, .always⟩,
 ⟨some 11, .assign (.tmp 46), 43, .always⟩] [5, 6, 7, 8, 9, 10, 11])
 (.seq (.ops [⟨some 48, .load 29 (.tmp 5), 29, .always⟩,
 ⟨some 49, .load 29 (.tmp 6), 29, .always⟩,
 ⟨some 50, .call { callee := .value (.func 46), args := #[.const (.int .i64 2), .tmp 48, .tmp 49], argTypes := #[3, 29, 29] }, 29, .always⟩,
 ⟨some 51, .call { callee := .value (.func 45), args := #[.tmp 50], argTypes := #[29] }, 64, .always⟩,
 ⟨some 47, .move (.tmp 51), 64, .always⟩,
 ⟨some 52, .extract (.tmp 47) 0, 4, .always⟩,
 ⟨some 53, .extract (.tmp 47) 1, 43, .always⟩,
 ⟨some 12, .assign (.tmp 52), 4, .always⟩,
 ⟨some 13, .assign (.tmp 53), 43, .always⟩] [5, 6, 7, 8, 9, 10, 11, 12, 13])
 (.seq (.ops [⟨some 55, .load 29 (.tmp 5), 29, .always⟩,
 ⟨some 56, .load 29 (.tmp 6), 29, .always⟩,
 ⟨some 57, .call { callee := .value (.func 46), args := #[.const (.int .i64 3), .tmp 55, .tmp 56], argTypes := #[3, 29, 29] }, 29, .always⟩,
 ⟨some 58, .call { callee := .value (.func 45), args := #[.tmp 57], argTypes := #[29] }, 64, .always⟩,
 ⟨some 54, .move (.tmp 58), 64, .always⟩,
 ⟨some 59, .extract (.tmp 54) 0, 4, .always⟩,
 ⟨some 60, .extract (.tmp 54) 1, 43, .always⟩,
 ⟨some 14, .assign (.tmp 59), 4, .always⟩,
 ⟨some 15, .assign (.tmp 60), 43, .always⟩] [5, 7, 8, 9, 10, 11, 12, 13, 14, 15])
 (.seq (.seq (.ops [⟨some 61, .move (.tmp 9), 43, .always⟩,
 ⟨some 62, .binOp .neq 43 (.tmp 61) (.const (.int .i64 0)) 43, 4, .always⟩,
 ⟨some 63, .move (.tmp 62), 4, .always⟩,
 ⟨some 64, .move (.tmp 11), 43, .tmp 63 false⟩,
 ⟨some 65, .binOp .neq 43 (.tmp 64) (.const (.int .i64 0)) 43, 4, .tmp 63 false⟩,
 ⟨some 66, .pick (.tmp 63) (.const (.bool true)) (.tmp 65), 4, .always⟩,
 ⟨some 67, .move (.tmp 66), 4, .always⟩,
 ⟨some 68, .move (.tmp 13), 43, .tmp 67 false⟩,
 ⟨some 69, .binOp .neq 43 (.tmp 68) (.const (.int .i64 0)) 43, 4, .tmp 67 false⟩,
 ⟨some 70, .pick (.tmp 67) (.const (.bool true)) (.tmp 69), 4, .always⟩,
 ⟨some 71, .move (.tmp 70), 4, .always⟩,
 ⟨some 72, .move (.tmp 15), 43, .tmp 71 false⟩,
 ⟨some 73, .binOp .neq 43 (.tmp 72) (.const (.int .i64 0)) 43, 4, .tmp 71 false⟩,
 ⟨some 74, .pick (.tmp 71) (.const (.bool true)) (.tmp 73), 4, .always⟩,
 ⟨some 75, .move (.tmp 74), 4, .always⟩,
 ⟨some 76, .move (.tmp 12), 4, .tmp 75 false⟩,
 ⟨some 77, .move (.tmp 8), 4, .tmp 75 false⟩,
 ⟨some 78, .move (.tmp 77), 4, .tmp 75 false⟩,
 ⟨some 79, .move (.tmp 10), 4, .tmp 78 false⟩,
 ⟨some 80, .pick (.tmp 78) (.const (.bool true)) (.tmp 79), 4, .tmp 75 false⟩,
 ⟨some 81, .binOp .neq 4 (.tmp 76) (.tmp 80) 4, 4, .tmp 75 false⟩,
 ⟨some 82, .pick (.tmp 75) (.const (.bool true)) (.tmp 81), 4, .always⟩,
 ⟨some 83, .move (.tmp 82), 4, .always⟩,
 ⟨some 84, .move (.tmp 14), 4, .tmp 83 false⟩,
 ⟨some 85, .move (.tmp 10), 4, .tmp 83 false⟩,
 ⟨some 86, .binOp .neq 4 (.tmp 84) (.tmp 85) 4, 4, .tmp 83 false⟩,
 ⟨some 87, .pick (.tmp 83) (.const (.bool true)) (.tmp 86), 4, .always⟩] [5, 7, 8, 87])
 (.cond (.tmp 87)
 (.seq (.ops [⟨some 2, .assign (.const (.bool false)), 4, .always⟩] [2])
 (.ret))
 (.skip)))
 (.seq (.seq (.ops [⟨some 88, .buildSlice 22 4 #[(0, .const (.int .i64 4)), (1, .const (.int .i64 5)), (2, .const (.int .i64 6)), (3, .const (.int .i64 7))], 22, .always⟩,
 ⟨some 89, .call { callee := .builtin .len, args := #[.tmp 88], argTypes := #[22] }, 3, .always⟩,
 ⟨some 90, .move (.const (.int .i64 0)), 3, .always⟩] [5, 7, 8, 88, 89, 90])
 (.block 0
 (.loop
 (.seq (.ops [⟨some 91, .binOp .lss 3 (.tmp 90) (.tmp 89) 3, 0, .always⟩] [5, 7, 8, 88, 89, 90, 91])
 (.seq (.cond (.tmp 91)
 (.skip)
 (.exit 0))
 (.seq (.block 1
 (.seq (.ops [⟨some 92, .indexAddr 22 (.tmp 88) (.tmp 90), 0, .always⟩,
 ⟨some 93, .load 3 (.tmp 92), 3, .always⟩,
 ⟨some 17, .assign (.tmp 93), 3, .always⟩] [5, 7, 8, 17, 88, 89, 90])
 (.seq (.ops [⟨some 95, .move (.tmp 17), 3, .always⟩,
 ⟨some 96, .load 25 (.tmp 7), 25, .always⟩,
 ⟨some 97, .load 29 (.tmp 5), 29, .always⟩,
 ⟨some 98, .call { callee := .value (.func 47), args := #[.tmp 95, .tmp 96, .tmp 97], argTypes := #[3, 25, 29] }, 29, .always⟩,
 ⟨some 99, .call { callee := .value (.func 45), args := #[.tmp 98], argTypes := #[29] }, 64, .always⟩,
 ⟨some 94, .move (.tmp 99), 64, .always⟩,
 ⟨some 100, .extract (.tmp 94) 0, 4, .always⟩,
 ⟨some 101, .extract (.tmp 94) 1, 43, .always⟩,
 ⟨some 18, .assign (.tmp 100), 4, .always⟩,
 ⟨some 19, .assign (.tmp 101), 43, .always⟩] [5, 7, 8, 17, 18, 19, 88, 89, 90])
 (.seq (.ops [⟨some 102, .move (.tmp 19), 43, .always⟩,
 ⟨some 103, .binOp .neq 43 (.tmp 102) (.const (.int .i64 0)) 43, 4, .always⟩,
 ⟨some 104, .move (.tmp 103), 4, .always⟩,
 ⟨some 105, .move (.tmp 18), 4, .tmp 104 false⟩,
 ⟨some 106, .move (.tmp 8), 4, .tmp 104 false⟩,
 ⟨some 107, .move (.tmp 106), 4, .tmp 104 false⟩,
 ⟨some 108, .move (.tmp 17), 3, .tmp 107 false⟩,
 ⟨some 109, .binOp .eql 3 (.tmp 108) (.const (.int .i64 5)) 3, 4, .tmp 107 false⟩,
 ⟨some 110, .pick (.tmp 107) (.const (.bool true)) (.tmp 109), 4, .tmp 104 false⟩,
 ⟨some 111, .binOp .neq 4 (.tmp 105) (.tmp 110) 4, 4, .tmp 104 false⟩,
 ⟨some 112, .pick (.tmp 104) (.const (.bool true)) (.tmp 111), 4, .always⟩] [5, 7, 8, 88, 89, 90, 112])
 (.cond (.tmp 112)
 (.seq (.ops [⟨some 2, .assign (.const (.bool false)), 4, .always⟩] [2])
 (.ret))
 (.skip))))))
 (.ops [⟨some 113, .binOp .add 3 (.tmp 90) (.const (.int .i64 1)) 3, 3, .always⟩,
 ⟨some 90, .move (.tmp 113), 3, .always⟩] [5, 7, 8, 88, 89, 90])))))))
 (.seq (.ops [⟨some 2, .assign (.const (.bool true)), 4, .always⟩] [2])
 (.ret))))))))))))))
theorem w7 {args : List PV} {σ σ' : List Frm} {r : Ret} (hr : ∀ p, r = .val p → erV p = p) (h : wpP cfg s7 (QEndP cfg [.tmp 2] σ' r) ⟨initEnv args, fun _ => [], σ, ⟨fun _ => false, 0⟩⟩) : CallsV cfg 7 args σ r σ' :=
 callsV_of_p follows cfgT a7 (fn := Tryd.f7) (c := Tryd.f7.body.getD .skip) (by kernel_rfl) (by kernel_rfl) (by kernel_rfl) (by kernel_rfl) (by kernel_rfl) (sc := s7) (by kernel_rfl) [.tmp 2] (by kernel_rfl) hr h
end
end Go.Proofs.YtbcejphjmghkbaaDoor.V
