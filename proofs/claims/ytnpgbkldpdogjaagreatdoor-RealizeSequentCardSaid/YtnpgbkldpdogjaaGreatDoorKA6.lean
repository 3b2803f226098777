/-
Parts of the proof of one law, put together by program: part 6.
-/
import Derived.Test.YtnpgbkldpdogjaaGreatDoorKA5
set_option linter.unusedSimpArgs false
set_option linter.unusedVariables false
set_option maxRecDepth 100000
namespace Go.Proofs.YtnpgbkldpdogjaaGreatDoor.V
open Go Go.Proofs
def bump (k : Int) : Int := if k = 2 then 1 else 0
def bumpF (k : Int) : Int := if fmQ k = true then 1 else 0
theorem bump_le (k : Int) : 0 ≤ bump k ∧ bump k ≤ 1 := by unfold bump; split <;> omega
theorem bumpF_le (k : Int) : 0 ≤ bumpF k ∧ bumpF k ≤ 1 := by unfold bumpF; split <;> omega
theorem bump_eq (k a : Int) : (if k = 2 then a + 1 else a) = a + bump k := by unfold bump; split <;> omega
theorem bumpF_eq (k a : Int) : (if fmQ k = true then a + 1 else a) = a + bumpF k := by unfold bumpF; split <;> omega
theorem c106 (k i : Int) (s : Ty) (l : List Tm) (σ : List Frm) : CallsV cfg 106 [.agg (encT (.mk k i s l))] σ (.val (.one (.int .i64 (bump k)))) σ := by
  refine w106 (by simp) ?_
  rw [s106, bump]
  by_cases h : k = 2 <;> simp [h]
theorem c105 (k : Int) (s : Ty) (m : List Tm) (l : List Fm) (σ : List Frm) : CallsV cfg 105 [.agg (encF (.mk k s m l))] σ (.val (.one (.int .i64 (bumpF k)))) σ := by
  refine w105 (by simp) ?_
  rw [s105, bumpF]
  simp
  refine opV_call (c118 k _) (by simp) ?_
  by_cases h : fmQ k = true <;> simp [h]
theorem c57 (t : Tm) (hsz : t.size ≤ 1099511627776) (σ : List Frm) : CallsV cfg 57 [.agg (encT t)] σ (.val (.one (.int .i64 t.check))) σ := by
  refine w57 (by simp) ?_
  rw [s57]
  simp
  refine opV_call (c104 t hsz _) (by simp) ?_
  unfold Tm.check
  cases hok : t.ok with
  | false => simp
  | true =>
    simp
    refine opV_call (c62 t hsz _) (by simp) ?_
    by_cases h : t.count ≤ 4096
    · have h' : ¬ ((4096 : Int) < t.count) := by omega
      simp [h, h']
    · have h' : ((4096 : Int) < t.count) := by omega
      simp [h, h']
theorem Tm.least_mk (k i : Int) (t : Ty) (l : List Tm) (m : Int) : (Tm.mk k i t l).least m = (decide (i ≤ m) && Tm.leasts l m) := by rw [Tm.least]
theorem Fm.least_mk (k : Int) (t : Ty) (a : List Tm) (l : List Fm) (m : Int) : (Fm.mk k t a l).least m = (Tm.leasts a m && Fm.leasts l m) := by rw [Fm.least]
theorem Tm.ok_parts {k i : Int} {t : Ty} {l : List Tm} (h : (Tm.mk k i t l).ok = true) : 0 ≤ i ∧ ∀ x ∈ l, x.ok = true := by
  simp only [Tm.ok_mk, Bool.and_eq_true, Tm.oks_iff] at h
  exact ⟨Tm.head_nonneg h.1, h.2⟩
theorem Tm.least_parts {k i : Int} {t : Ty} {l : List Tm} {m : Int} (h : (Tm.mk k i t l).least m = true) : i ≤ m ∧ ∀ x ∈ l, x.least m = true := by
  simp only [Tm.least_mk, Bool.and_eq_true, decide_eq_true_eq, Tm.leasts_iff] at h
  exact h
@[simp] theorem flatLL_tms {α : Type} (g : α → Tm) (l : List α) : flatLL (l.map fun x => encT (g x)) = true := flatLL_of fun e he => by
  obtain ⟨y, _, rfl⟩ := List.mem_map.1 he
  simp
@[simp] theorem flatLL_fms {α : Type} (g : α → Fm) (l : List α) : flatLL (l.map fun x => encF (g x)) = true := flatLL_of fun e he => by
  obtain ⟨y, _, rfl⟩ := List.mem_map.1 he
  simp
def i107a (t : Tm) (k i : Int) (s : Ty) (fr b : Int) (σ : List Frm) : St → Prop
  | ⟨env, loc, σ', live⟩ => env 1 = .one (.int .i64 fr) ∧ env 2 = .one (.int .i64 b) ∧ env 3 = .one (.box σ.length 3 0 0) ∧ env 6 = .one (.box σ.length 6 0 0) ∧ env 7 = .one (.box σ.length 7 0 0) ∧
    loc 3 = [encT t] ∧ loc 6 = [z62] ∧ loc 7 = [.int .i64 k :: .int .i64 i :: (enc s ++ [.slice .full 5 []])] ∧ σ' = σ
def i107 (t : Tm) (k i : Int) (s : Ty) (l : List Tm) (fr b fr' : Int) (σ : List Frm) (j : Nat) : St → Prop
  | ⟨env, loc, σ', live⟩ => ∃ ow, env 1 = .one (.int .i64 fr) ∧ env 2 = .one (.int .i64 b) ∧ env 3 = .one (.box σ.length 3 0 0) ∧ env 6 = .one (.box σ.length 6 0 0) ∧ env 7 = .one (.box σ.length 7 0 0) ∧ env 32 = .one (.slice .no 5 (l.map encT)) ∧ env 33 = .one (.int .i64 l.length) ∧ env 34 = .one (.int .i64 j) ∧
    loc 3 = [encT t] ∧ loc 6 = [z62] ∧ loc 7 = [.int .i64 k :: .int .i64 i :: (enc s ++ [.slice ow 5 ((l.take j).map fun x => encT (x.up fr' b))])] ∧ σ' = σ ∧ okOwn live ow
theorem c107 (t : Tm) : t.size ≤ 1099511627776 → t.ok = true → t.least 536870912 = true → ∀ (fr b : Int), 0 ≤ fr → fr + t.size ≤ 4398046511104 → -1099511627776 ≤ b → b ≤ 1099511627776 → ∀ (σ : List Frm), CallsV cfg 107 [.agg (encT t), .one (.int .i64 fr), .one (.int .i64 b)] σ (.val (.agg (encT (t.up fr b)))) σ := by
  induction t using Tm.ind with
  | _ k i s l ih =>
  intro hsz hok hle fr b hf0 hf1 hb0 hb1 σ
  simp at hsz hf1
  have hlen := Tm.length_le l
  have hsp := s.size_pos
  obtain ⟨hi0, hpo⟩ := Tm.ok_parts hok
  obtain ⟨hi1, hpl⟩ := Tm.least_parts hle
  refine w107 (by simp) ?_
  rw [s107, Tm.up_mk]
  rw [bump_eq]
  obtain ⟨hd0, hd1⟩ := bump_le k
  refine cut3 (i107a (.mk k i s l) k (if k = 1 ∧ fr ≤ i then i + b else i) s fr b σ) ?_ ?_
  · by_cases hk : k = 1
    · subst hk
      by_cases hfi : fr ≤ i
      · simp [hfi]
        rw [wrap_id (by omega) (by omega)]
        exact ⟨by simp, by simp, by simp, by simp, by simp, by simp, by simp [z62], by simp, rfl⟩
      · simp [hfi]
        exact ⟨by simp, by simp, by simp, by simp, by simp, by simp, by simp [z62], by simp, rfl⟩
    · simp [hk]
      exact ⟨by simp, by simp, by simp, by simp, by simp, by simp, by simp [z62], by simp, rfl⟩
  · rintro ⟨env, loc, σ', live⟩ ⟨e1, e2, e3, e6, e7, h3, h6, h7, rfl⟩
    simp [e1, e2, e3, e6, e7, h3, h6, h7]
    refine wpP_range l.length (i107 (.mk k i s l) k (if k = 1 ∧ fr ≤ i then i + b else i) s l fr b (fr + bump k) σ') (by omega) ⟨.full, by simp [e1], by simp [e2], by simp [e3], by simp [e6], by simp [e7], by simp, by simp, by simp, by simp [h3], by simp [h6], by simp [h7], rfl, by simp⟩ ?_ ?_ (hend := ?_)
    · rintro j ⟨env, loc, σ', live⟩ ⟨ow, e1, e2, e3, e6, e7, e32, e33, e34, h3, h6, h7, rfl, how⟩
      exact ⟨e34, e33⟩
    · rintro j ⟨env, loc, σ', live⟩ hj ⟨ow, e1, e2, e3, e6, e7, e32, e33, e34, h3, h6, h7, rfl, how⟩
      obtain ⟨x, hx, hdr, hm⟩ := drop_cons hj
      have := Tm.sizes_mem hm
      simp [e1, e2, e3, e6, e7, e32, e33, e34, hx]
      refine wpP_draw (fun _ _ _ => false) ?_
      simp [e1, e2, e3, e6, e7, e32, e33, e34, h3, h7]
      refine stepD_call (c106 k i s l _) (by simp) ?_
      simp [e1, e2, e3, e6, e7, e32, e33, e34, h3, h7]
      rw [wrap_id (by omega) (by omega)]
      refine stepD_call (ih x hm (by omega) (hpo x hm) (hpl x hm) (fr + bump k) b (by omega) (by omega) hb0 hb1 _) (by simp) ?_
      simp [e1, e2, e3, e6, e7, e32, e33, e34, h3, h7, how]
      exact ⟨by omega, by omega, .tip live.nx, by simp, by simp, by simp, by simp, by simp, by simp, by simp, by simp, by simp [h3], by simp [h6], by simp [List.take_add_one, hx], rfl, grown_on⟩
    · rintro ⟨env, loc, σ', live⟩ ⟨ow, e1, e2, e3, e6, e7, e32, e33, e34, h3, h6, h7, rfl, how⟩
      simp [e1, e2, e3, e6, e7, h3, h6, h7, z62]
theorem Tm.timess_take {l : List Tm} {j : Nat} {x : Tm} (a : Int) (h : l[j]? = some x) : Tm.timess (l.take (j + 1)) a = Tm.timess (l.take j) a + x.times a := by
  induction l generalizing j with
  | nil => simp at h
  | cons y l ih =>
    cases j with
    | zero => simp at h; subst h; simp [Tm.timess]
    | succ j =>
      have := ih (j := j) (by simpa using h)
      simp only [List.take_succ_cons, Tm.timess, this]
      omega
theorem Fm.timess_take {l : List Fm} {j : Nat} {x : Fm} (a : Int) (h : l[j]? = some x) : Fm.timess (l.take (j + 1)) a = Fm.timess (l.take j) a + x.times a := by
  induction l generalizing j with
  | nil => simp at h
  | cons y l ih =>
    cases j with
    | zero => simp at h; subst h; simp [Fm.timess]
    | succ j =>
      have := ih (j := j) (by simpa using h)
      simp only [List.take_succ_cons, Fm.timess, this]
      omega
theorem Tm.timess_le' {l : List Tm} (h : ∀ x ∈ l, ∀ a, 0 ≤ x.times a ∧ x.times a ≤ x.count) (a : Int) : 0 ≤ Tm.timess l a ∧ Tm.timess l a ≤ Tm.counts l := by
  induction l with
  | nil => simp [Tm.timess]
  | cons x l ih =>
    have h1 := h x (by simp) a
    have h2 := ih fun y hy => h y (by simp [hy])
    simp only [Tm.timess, Tm.counts_cons]
    omega
theorem Tm.times_le (t : Tm) : ∀ a, 0 ≤ t.times a ∧ t.times a ≤ t.count := by
  induction t using Tm.ind with
  | _ k i s l ih =>
    intro a
    have h := Tm.timess_le' ih (if k = 2 then a + 1 else a)
    rw [Tm.times_mk, Tm.count_mk]
    split <;> omega
theorem Tm.timess_le (l : List Tm) (a : Int) : 0 ≤ Tm.timess l a ∧ Tm.timess l a ≤ Tm.counts l := Tm.timess_le' (fun x _ => x.times_le) a
theorem Fm.timess_le' {l : List Fm} (h : ∀ x ∈ l, ∀ a, 0 ≤ x.times a ∧ x.times a ≤ x.count) (a : Int) : 0 ≤ Fm.timess l a ∧ Fm.timess l a ≤ Fm.counts l := by
  induction l with
  | nil => simp [Fm.timess]
  | cons x l ih =>
    have h1 := h x (by simp) a
    have h2 := ih fun y hy => h y (by simp [hy])
    simp only [Fm.timess, Fm.counts_cons]
    omega
theorem Fm.times_le (t : Fm) : ∀ a, 0 ≤ t.times a ∧ t.times a ≤ t.count := by
  induction t using Fm.ind with
  | _ k s m l ih =>
    intro a
    have h := Fm.timess_le' ih (if fmQ k = true then a + 1 else a)
    have h1 := Tm.timess_le m a
    rw [Fm.times_mk, Fm.count_mk]
    omega
theorem Fm.timess_le (l : List Fm) (a : Int) : 0 ≤ Fm.timess l a ∧ Fm.timess l a ≤ Fm.counts l := Fm.timess_le' (fun x _ => x.times_le) a
def i65a (t : Tm) (a n : Int) (σ : List Frm) : St → Prop
  | ⟨env, loc, σ', _⟩ => env 1 = .one (.int .i64 a) ∧ env 2 = .one (.box σ.length 2 0 0) ∧ env 5 = .one (.int .i64 n) ∧ loc 2 = [encT t] ∧ σ' = σ
def i65 (t : Tm) (l : List Tm) (a n a' : Int) (σ : List Frm) (j : Nat) : St → Prop
  | ⟨env, loc, σ', _⟩ => env 1 = .one (.int .i64 a) ∧ env 2 = .one (.box σ.length 2 0 0) ∧ env 5 = .one (.int .i64 (n + Tm.timess (l.take j) a')) ∧ env 20 = .one (.slice .no 5 (l.map encT)) ∧ env 21 = .one (.int .i64 l.length) ∧ env 22 = .one (.int .i64 j) ∧ loc 2 = [encT t] ∧ σ' = σ
theorem c65 (t : Tm) : t.size ≤ 1099511627776 → ∀ (a : Int), 0 ≤ a → a + t.size ≤ 4398046511104 → ∀ (σ : List Frm), CallsV cfg 65 [.agg (encT t), .one (.int .i64 a)] σ (.val (.one (.int .i64 (t.times a)))) σ := by
  induction t using Tm.ind with
  | _ k i s l ih =>
  intro hsz a ha0 ha1 σ
  simp at hsz ha1
  have hlen := Tm.length_le l
  have hsp := s.size_pos
  have hcl := Tm.counts_le l
  refine w65 (by simp) ?_
  rw [s65, Tm.times_mk, bump_eq]
  obtain ⟨hd0, hd1⟩ := bump_le k
  refine cut3 (i65a (.mk k i s l) a (if k = 1 ∧ i = a then 1 else 0) σ) ?_ ?_
  · by_cases hk : k = 1
    · subst hk
      by_cases hfi : i = a
      · subst hfi
        simp
        rw [wrap_id (by omega) (by omega)]
        exact ⟨by simp, by simp, by simp, by simp, rfl⟩
      · simp [hfi]
        exact ⟨by simp, by simp, by simp, by simp, rfl⟩
    · simp [hk]
      exact ⟨by simp, by simp, by simp, by simp, rfl⟩
  · rintro ⟨env, loc, σ', live⟩ ⟨e1, e2, e5, h2, rfl⟩
    simp [e1, e2, e5, h2]
    have hn : ∀ n : Int, n = (if k = 1 ∧ i = a then 1 else 0) → 0 ≤ n ∧ n ≤ 1 := fun n h => by subst h; split <;> omega
    generalize (if k = 1 ∧ i = a then (1 : Int) else 0) = n at *
    have hn' := hn n rfl
    refine wpP_range l.length (i65 (.mk k i s l) l a n (a + bump k) σ') (by omega) ⟨by simp [e1], by simp [e2], by simp [e5, Tm.timess], by simp, by simp, by simp, by simp [h2], rfl⟩ ?_ ?_ (hend := ?_)
    · rintro j ⟨env, loc, σ', live⟩ ⟨e1, e2, e5, e20, e21, e22, h2, rfl⟩
      exact ⟨e22, e21⟩
    · rintro j ⟨env, loc, σ', live⟩ hj ⟨e1, e2, e5, e20, e21, e22, h2, rfl⟩
      obtain ⟨x, hx, hdr, hm⟩ := drop_cons hj
      have := Tm.sizes_mem hm
      have ht := Tm.timess_take (a + bump k) hx
      have hb1 := Tm.timess_le (l.take (j + 1)) (a + bump k)
      have hb2 := Tm.counts_take_le l (j + 1)
      have hb3 := Tm.timess_le (l.take j) (a + bump k)
      have hb4 := x.times_le (a + bump k)
      simp [e1, e2, e5, e20, e21, e22, hx]
      refine wpP_draw (fun _ _ _ => false) ?_
      simp [e1, e2, e5, e20, e21, e22, h2]
      refine stepD_call (c106 k i s l _) (by simp) ?_
      simp [e1, e2, e5, e20, e21, e22, h2]
      rw [wrap_id (by omega) (by omega)]
      refine stepD_call (ih x hm (by omega) (a + bump k) (by omega) (by omega) _) (by simp) ?_
      simp [e1, e2, e5, e20, e21, e22, h2]
      rw [wrap_id (by omega) (by omega)]
      exact ⟨by simp, by simp, by simp [ht]; omega, by simp, by simp, by simp, by simp [h2], rfl⟩
    · rintro ⟨env, loc, σ', live⟩ ⟨e1, e2, e5, e20, e21, e22, h2, rfl⟩
      rw [List.take_length] at e5
      simp [e5]
def i67 (t s' : Tm) (k i : Int) (s : Ty) (l : List Tm) (a d d' : Int) (σ : List Frm) (j : Nat) : St → Prop
  | ⟨env, loc, σ', live⟩ => ∃ ow, env 1 = .one (.int .i64 a) ∧ env 2 = .one (.int .i64 d) ∧ env 4 = .one (.box σ.length 4 0 0) ∧ env 7 = .one (.box σ.length 7 0 0) ∧ env 8 = .one (.box σ.length 8 0 0) ∧ env 9 = .one (.box σ.length 9 0 0) ∧ env 45 = .one (.slice .no 5 (l.map encT)) ∧ env 46 = .one (.int .i64 l.length) ∧ env 47 = .one (.int .i64 j) ∧
    loc 4 = [encT t] ∧ loc 7 = [encT s'] ∧ loc 8 = [z62] ∧ loc 9 = [.int .i64 k :: .int .i64 i :: (enc s ++ [.slice ow 5 ((l.take j).map fun x => encT (x.put a d' s'))])] ∧ σ' = σ ∧ okOwn live ow
theorem c67 (s' : Tm) (hs1 : s'.size ≤ 549755813888) (hs2 : s'.ok = true) (hs3 : s'.least 536870912 = true) (a : Int) (ha0 : 0 ≤ a) (ha1 : a ≤ 4096) (t : Tm) : t.ok = true → t.least 536870912 = true → ∀ (d : Int), 0 ≤ d → d + t.size ≤ 549755813888 → ∀ (σ : List Frm), CallsV cfg 67 [.agg (encT t), .one (.int .i64 a), .one (.int .i64 d), .agg (encT s')] σ (.val (.agg (encT (t.put a d s')))) σ := by
  induction t using Tm.ind with
  | _ k i s l ih =>
  intro hok hle d hd0 hd1 σ
  simp at hd1
  have hlen := Tm.length_le l
  have hsp := s.size_pos
  obtain ⟨hi0, hpo⟩ := Tm.ok_parts hok
  obtain ⟨hi1, hpl⟩ := Tm.least_parts hle
  refine w67 (by simp) ?_
  rw [s67, Tm.put_mk, bump_eq]
  obtain ⟨hb0, hb1⟩ := bump_le k
  by_cases hk : k = 1
  · subst hk
    simp
    rw [wrap_id (by omega) (by omega)]
    by_cases h1 : i = a + d
    · subst h1
      simp
      refine opV_call (c107 s' (by omega) hs2 hs3 0 (a + d) (by omega) (by omega) (by omega) (by omega) _) (by simp) ?_
      simp
    · have h1' : (i == a + d) = false := by simpa using h1
      simp [h1, h1']
      rw [wrap_id (by omega) (by omega)]
      by_cases h2 : a + d < i
      · simp [h2]
        refine opV_call (c44 (i - 1) _) (by simp) ?_
        simp
      · simp [h2]
  · simp [hk]
    refine wpP_range l.length (i67 (.mk k i s l) s' k i s l a d (d + bump k) σ) (by omega) ⟨.full, by simp, by simp, by simp, by simp, by simp, by simp, by simp, by simp, by simp, by simp, by simp, by simp [z62], by simp, rfl, by simp⟩ ?_ ?_ (hend := ?_)
    · rintro j ⟨env, loc, σ', live⟩ ⟨ow, e1, e2, e4, e7, e8, e9, e45, e46, e47, h4, h7, h8, h9, rfl, how⟩
      exact ⟨e47, e46⟩
    · rintro j ⟨env, loc, σ', live⟩ hj ⟨ow, e1, e2, e4, e7, e8, e9, e45, e46, e47, h4, h7, h8, h9, rfl, how⟩
      obtain ⟨x, hx, hdr, hm⟩ := drop_cons hj
      have := Tm.sizes_mem hm
      simp [e1, e2, e4, e7, e8, e9, e45, e46, e47, hx]
      refine wpP_draw (fun _ _ _ => false) ?_
      simp [e1, e2, e4, e7, e8, e9, e45, e46, e47, h4, h7, h9]
      refine stepD_call (c106 k i s l _) (by simp) ?_
      simp [e1, e2, e4, e7, e8, e9, e45, e46, e47, h4, h7, h9]
      rw [wrap_id (by omega) (by omega)]
      refine stepD_call (ih x hm (hpo x hm) (hpl x hm) (d + bump k) (by omega) (by omega) _) (by simp) ?_
      simp [e1, e2, e4, e7, e8, e9, e45, e46, e47, h4, h7, h9, how]
      exact ⟨by omega, by omega, .tip live.nx, by simp, by simp, by simp, by simp, by simp, by simp, by simp, by simp, by simp, by simp [h4], by simp [h7], by simp [h8], by simp [List.take_add_one, hx], rfl, grown_on⟩
    · rintro ⟨env, loc, σ', live⟩ ⟨ow, e1, e2, e4, e7, e8, e9, e45, e46, e47, h4, h7, h8, h9, rfl, how⟩
      simp [e8, e9, h8, h9, z62]
def i59 (l : List Tm) (m : Int) (σ : List Frm) (j : Nat) : St → Prop
  | ⟨env, _, σ', _⟩ => env 1 = .one (.int .i64 m) ∧ env 12 = .one (.slice .no 5 (l.map encT)) ∧ env 13 = .one (.int .i64 l.length) ∧ env 14 = .one (.int .i64 j) ∧ σ' = σ ∧ Tm.leasts l m = Tm.leasts (l.drop j) m
theorem c59 (m : Int) (t : Tm) : t.size ≤ 1099511627776 → ∀ (σ : List Frm), CallsV cfg 59 [.agg (encT t), .one (.int .i64 m)] σ (.val (.one (.bool (t.least m)))) σ := by
  induction t using Tm.ind with
  | _ k i s l ih =>
  intro hsz σ
  simp at hsz
  have hlen := Tm.length_le l
  refine w59 (by simp) ?_
  rw [s59, Tm.least_mk]
  by_cases hi : m < i
  · have hi' : ¬ i ≤ m := by omega
    simp [hi, hi']
  have hi' : i ≤ m := by omega
  simp [hi, hi']
  refine wpP_range l.length (i59 l m σ) (by omega) ⟨by simp, by simp, by simp, by simp, rfl, by simp⟩ ?_ ?_ (hend := ?_)
  · rintro j ⟨env, loc, σ', live⟩ ⟨e1, e12, e13, e14, rfl, hs⟩
    exact ⟨e14, e13⟩
  · rintro j ⟨env, loc, σ', live⟩ hj ⟨e1, e12, e13, e14, rfl, hs⟩
    obtain ⟨x, hx, hdr, hm⟩ := drop_cons hj
    have := Tm.sizes_mem hm
    rw [hdr, Tm.leasts] at hs
    simp [e1, e12, e13, e14, hx]
    refine opV_call (ih x hm (by omega) _) (by simp) ?_
    cases hl : x.least m with
    | true =>
      rw [hl, Bool.true_and] at hs
      simp [e1, e12, e13, e14]
      exact ⟨by simp, by simp, by simp, by simp, rfl, hs⟩
    | false =>
      rw [hl, Bool.false_and] at hs
      simp [hs]
  · rintro ⟨env, loc, σ', live⟩ ⟨e1, e12, e13, e14, rfl, hs⟩
    rw [List.drop_length] at hs
    simp [hs, Tm.leasts]
def i58a (f : Fm) (l : List Tm) (m : Int) (σ : List Frm) (j : Nat) : St → Prop
  | ⟨env, loc, σ', _⟩ => env 1 = .one (.int .i64 m) ∧ env 2 = .one (.box σ.length 2 0 0) ∧ env 10 = .one (.slice .no 5 (l.map encT)) ∧ env 11 = .one (.int .i64 l.length) ∧ env 12 = .one (.int .i64 j) ∧ loc 2 = [encF f] ∧ σ' = σ ∧ Tm.leasts l m = Tm.leasts (l.drop j) m
def i58b (l : List Fm) (m : Int) (σ : List Frm) (j : Nat) : St → Prop
  | ⟨env, _, σ', _⟩ => env 1 = .one (.int .i64 m) ∧ env 22 = .one (.slice .no 5 (l.map encF)) ∧ env 23 = .one (.int .i64 l.length) ∧ env 24 = .one (.int .i64 j) ∧ σ' = σ ∧ Fm.leasts l m = Fm.leasts (l.drop j) m
theorem c58 (m : Int) (f : Fm) : f.size ≤ 1099511627776 → ∀ (σ : List Frm), CallsV cfg 58 [.agg (encF f), .one (.int .i64 m)] σ (.val (.one (.bool (f.least m)))) σ := by
  induction f using Fm.ind with
  | _ k s a l ih =>
  intro hsz σ
  simp at hsz
  have hla := Tm.length_le a
  have hll := Fm.length_le l
  refine w58 (by simp) ?_
  rw [s58, Fm.least_mk]
  simp
  refine wpP_range a.length (i58a (.mk k s a l) a m σ) (by omega) ⟨by simp, by simp, by simp, by simp, by simp, by simp, rfl, by simp⟩ ?_ ?_ (hend := ?_)
  · rintro j ⟨env, loc, σ', live⟩ ⟨e1, e2, e10, e11, e12, h2, rfl, hs⟩
    exact ⟨e12, e11⟩
  · rintro j ⟨env, loc, σ', live⟩ hj ⟨e1, e2, e10, e11, e12, h2, rfl, hs⟩
    obtain ⟨x, hx, hdr, hm⟩ := drop_cons hj
    have := Tm.sizes_mem hm
    rw [hdr, Tm.leasts] at hs
    simp [e1, e2, e10, e11, e12, hx]
    refine opV_call (c59 m x (by omega) _) (by simp) ?_
    cases hl : x.least m with
    | true =>
      rw [hl, Bool.true_and] at hs
      simp [e1, e2, e10, e11, e12]
      exact ⟨by simp, by simp, by simp, by simp, by simp, by simp [h2], rfl, hs⟩
    | false =>
      rw [hl, Bool.false_and] at hs
      simp [hs]
  · rintro ⟨env, loc, σ', live⟩ ⟨e1, e2, e10, e11, e12, h2, rfl, hs⟩
    rw [List.drop_length] at hs
    rw [hs]
    simp [e1, e2, h2, Tm.leasts]
    refine wpP_range l.length (i58b l m σ') (by omega) ⟨by simp [e1], by simp, by simp, by simp, rfl, by simp⟩ ?_ ?_ (hend := ?_)
    · rintro j ⟨env, loc, σ', live⟩ ⟨e1, e22, e23, e24, rfl, hs⟩
      exact ⟨e24, e23⟩
    · rintro j ⟨env, loc, σ', live⟩ hj ⟨e1, e22, e23, e24, rfl, hs⟩
      obtain ⟨x, hx, hdr, hm⟩ := drop_cons hj
      have := Fm.sizes_mem hm
      rw [hdr, Fm.leasts] at hs
      simp [e1, e22, e23, e24, hx]
      refine opV_call (ih x hm (by omega) _) (by simp) ?_
      cases hl : x.least m with
      | true =>
        rw [hl, Bool.true_and] at hs
        simp [e1, e22, e23, e24]
        exact ⟨by simp, by simp, by simp, by simp, rfl, hs⟩
      | false =>
        rw [hl, Bool.false_and] at hs
        simp [hs]
    · rintro ⟨env, loc, σ', live⟩ ⟨e1, e22, e23, e24, rfl, hs⟩
      rw [List.drop_length] at hs
      simp [hs, Fm.leasts]
end Go.Proofs.YtnpgbkldpdogjaaGreatDoor.V

set_option maxRecDepth 100000
namespace Go.Proofs.YtnpgbkldpdogjaaGreatDoor.V
open Go Go.Proofs
theorem Fm.ok_parts {k : Int} {t : Ty} {m : List Tm} {l : List Fm} (h : (Fm.mk k t m l).ok = true) : (∀ x ∈ m, x.ok = true) ∧ ∀ x ∈ l, x.ok = true := by
  simp only [Fm.ok_mk, Bool.and_eq_true, Tm.oks_iff, Fm.oks_iff] at h
  exact h.2
theorem Fm.least_parts {k : Int} {t : Ty} {a : List Tm} {l : List Fm} {m : Int} (h : (Fm.mk k t a l).least m = true) : (∀ x ∈ a, x.least m = true) ∧ ∀ x ∈ l, x.least m = true := by
  simp only [Fm.least_mk, Bool.and_eq_true, Tm.leasts_iff, Fm.leasts_iff] at h
  exact h
def i61a (f : Fm) (m : List Tm) (a : Int) (σ : List Frm) (j : Nat) : St → Prop
  | ⟨env, loc, σ', _⟩ => env 1 = .one (.int .i64 a) ∧ env 2 = .one (.box σ.length 2 0 0) ∧ env 5 = .one (.int .i64 (Tm.timess (m.take j) a)) ∧ env 11 = .one (.slice .no 5 (m.map encT)) ∧ env 12 = .one (.int .i64 m.length) ∧ env 13 = .one (.int .i64 j) ∧ loc 2 = [encF f] ∧ σ' = σ
def i61b (f : Fm) (l : List Fm) (a n a' : Int) (σ : List Frm) (j : Nat) : St → Prop
  | ⟨env, loc, σ', _⟩ => env 1 = .one (.int .i64 a) ∧ env 2 = .one (.box σ.length 2 0 0) ∧ env 5 = .one (.int .i64 (n + Fm.timess (l.take j) a')) ∧ env 24 = .one (.slice .no 5 (l.map encF)) ∧ env 25 = .one (.int .i64 l.length) ∧ env 26 = .one (.int .i64 j) ∧ loc 2 = [encF f] ∧ σ' = σ
theorem c61 (f : Fm) : f.size ≤ 1099511627776 → ∀ (a : Int), 0 ≤ a → a + f.size ≤ 4398046511104 → ∀ (σ : List Frm), CallsV cfg 61 [.agg (encF f), .one (.int .i64 a)] σ (.val (.one (.int .i64 (f.times a)))) σ := by
  induction f using Fm.ind with
  | _ k t m l ih =>
  intro hsz a ha0 ha1 σ
  simp at hsz ha1
  have hlm := Tm.length_le m
  have hll := Fm.length_le l
  have hsp := t.size_pos
  have hcm := Tm.counts_le m
  have hcl := Fm.counts_le l
  refine w61 (by simp) ?_
  rw [s61, Fm.times_mk, bumpF_eq]
  obtain ⟨hd0, hd1⟩ := bumpF_le k
  simp
  refine wpP_range m.length (i61a (.mk k t m l) m a σ) (by omega) ⟨by simp, by simp, by simp [Tm.timess], by simp, by simp, by simp, by simp, rfl⟩ ?_ ?_ (hend := ?_)
  · rintro j ⟨env, loc, σ', live⟩ ⟨e1, e2, e5, e11, e12, e13, h2, rfl⟩
    exact ⟨e13, e12⟩
  · rintro j ⟨env, loc, σ', live⟩ hj ⟨e1, e2, e5, e11, e12, e13, h2, rfl⟩
    obtain ⟨x, hx, hdr, hm⟩ := drop_cons hj
    have := Tm.sizes_mem hm
    have ht := Tm.timess_take a hx
    have hb1 := Tm.timess_le (m.take (j + 1)) a
    have hb2 := Tm.counts_take_le m (j + 1)
    have hb3 := Tm.timess_le (m.take j) a
    have hb4 := x.times_le a
    simp [e1, e2, e5, e11, e12, e13, hx]
    refine opV_call (c65 x (by omega) a (by omega) (by omega) _) (by simp) ?_
    simp [e1, e2, e5, e11, e12, e13]
    rw [wrap_id (by omega) (by omega)]
    exact ⟨by simp, by simp, by simp [ht], by simp, by simp, by simp, by simp [h2], rfl⟩
  · rintro ⟨env, loc, σ', live⟩ ⟨e1, e2, e5, e11, e12, e13, h2, rfl⟩
    rw [List.take_length] at e5
    simp [e1, e2, e5, h2]
    have hn := Tm.timess_le m a
    generalize Tm.timess m a = n at *
    refine wpP_range l.length (i61b (.mk k t m l) l a n (a + bumpF k) σ') (by omega) ⟨by simp, by simp, by simp [Fm.timess], by simp, by simp, by simp, by simp [h2], rfl⟩ ?_ ?_ (hend := ?_)
    · rintro j ⟨env, loc, σ', live⟩ ⟨e1, e2, e5, e24, e25, e26, h2, rfl⟩
      exact ⟨e26, e25⟩
    · rintro j ⟨env, loc, σ', live⟩ hj ⟨e1, e2, e5, e24, e25, e26, h2, rfl⟩
      obtain ⟨x, hx, hdr, hm⟩ := drop_cons hj
      have := Fm.sizes_mem hm
      have ht := Fm.timess_take (a + bumpF k) hx
      have hb1 := Fm.timess_le (l.take (j + 1)) (a + bumpF k)
      have hb2 := Fm.counts_take_le l (j + 1)
      have hb3 := Fm.timess_le (l.take j) (a + bumpF k)
      have hb4 := x.times_le (a + bumpF k)
      simp [e1, e2, e5, e24, e25, e26, hx]
      refine wpP_draw (fun _ _ _ => false) ?_
      simp [e1, e2, e5, e24, e25, e26, h2]
      refine stepD_call (c105 k t m l _) (by simp) ?_
      simp [e1, e2, e5, e24, e25, e26, h2]
      rw [wrap_id (by omega) (by omega)]
      refine stepD_call (ih x hm (by omega) (a + bumpF k) (by omega) (by omega) _) (by simp) ?_
      simp [e1, e2, e5, e24, e25, e26, h2]
      rw [wrap_id (by omega) (by omega)]
      exact ⟨by simp, by simp, by simp [ht]; omega, by simp, by simp, by simp, by simp [h2], rfl⟩
    · rintro ⟨env, loc, σ', live⟩ ⟨e1, e2, e5, e24, e25, e26, h2, rfl⟩
      rw [List.take_length] at e5
      simp [e5]
def i64a (f : Fm) (s' : Tm) (k : Int) (t : Ty) (m : List Tm) (a d : Int) (σ : List Frm) (j : Nat) : St → Prop
  | ⟨env, loc, σ', live⟩ => ∃ ow, env 1 = .one (.int .i64 a) ∧ env 2 = .one (.int .i64 d) ∧ env 4 = .one (.box σ.length 4 0 0) ∧ env 7 = .one (.box σ.length 7 0 0) ∧ env 8 = .one (.box σ.length 8 0 0) ∧ env 9 = .one (.box σ.length 9 0 0) ∧ env 20 = .one (.slice .no 5 (m.map encT)) ∧ env 21 = .one (.int .i64 m.length) ∧ env 22 = .one (.int .i64 j) ∧
    loc 4 = [encF f] ∧ loc 7 = [encT s'] ∧ loc 8 = [z29] ∧ loc 9 = [.int .i64 k :: (enc t ++ [.slice ow 5 ((m.take j).map fun x => encT (x.put a d s')), .slice .full 5 []])] ∧ σ' = σ ∧ okOwn live ow
def i64b (f : Fm) (s' : Tm) (k : Int) (t : Ty) (m : List Tm) (l : List Fm) (a d d' : Int) (σ : List Frm) (j : Nat) : St → Prop
  | ⟨env, loc, σ', live⟩ => ∃ ow o, env 1 = .one (.int .i64 a) ∧ env 2 = .one (.int .i64 d) ∧ env 4 = .one (.box σ.length 4 0 0) ∧ env 7 = .one (.box σ.length 7 0 0) ∧ env 8 = .one (.box σ.length 8 0 0) ∧ env 9 = .one (.box σ.length 9 0 0) ∧ env 38 = .one (.slice .no 5 (l.map encF)) ∧ env 39 = .one (.int .i64 l.length) ∧ env 40 = .one (.int .i64 j) ∧
    loc 4 = [encF f] ∧ loc 7 = [encT s'] ∧ loc 8 = [z29] ∧ loc 9 = [.int .i64 k :: (enc t ++ [.slice o 5 (m.map fun x => encT (x.put a d s')), .slice ow 5 ((l.take j).map fun x => encF (x.put a d' s'))])] ∧ σ' = σ ∧ okOwn live ow
theorem c64 (s' : Tm) (hs1 : s'.size ≤ 549755813888) (hs2 : s'.ok = true) (hs3 : s'.least 536870912 = true) (a : Int) (ha0 : 0 ≤ a) (ha1 : a ≤ 4096) (f : Fm) : f.ok = true → f.least 536870912 = true → ∀ (d : Int), 0 ≤ d → d + f.size ≤ 549755813888 → ∀ (σ : List Frm), CallsV cfg 64 [.agg (encF f), .one (.int .i64 a), .one (.int .i64 d), .agg (encT s')] σ (.val (.agg (encF (f.put a d s')))) σ := by
  induction f using Fm.ind with
  | _ k t m l ih =>
  intro hok hle d hd0 hd1 σ
  simp at hd1
  have hlm := Tm.length_le m
  have hll := Fm.length_le l
  have hsp := t.size_pos
  obtain ⟨hpo, hqo⟩ := Fm.ok_parts hok
  obtain ⟨hpl, hql⟩ := Fm.least_parts hle
  refine w64 (by simp) ?_
  rw [s64, Fm.put_mk, bumpF_eq]
  obtain ⟨hb0, hb1⟩ := bumpF_le k
  simp
  refine wpP_range m.length (i64a (.mk k t m l) s' k t m a d σ) (by omega) ⟨.full, by simp, by simp, by simp, by simp, by simp, by simp, by simp, by simp, by simp, by simp, by simp, by simp [z29], by simp, rfl, by simp⟩ ?_ ?_ (hend := ?_)
  · rintro j ⟨env, loc, σ', live⟩ ⟨ow, e1, e2, e4, e7, e8, e9, e20, e21, e22, h4, h7, h8, h9, rfl, how⟩
    exact ⟨e22, e21⟩
  · rintro j ⟨env, loc, σ', live⟩ hj ⟨ow, e1, e2, e4, e7, e8, e9, e20, e21, e22, h4, h7, h8, h9, rfl, how⟩
    obtain ⟨x, hx, hdr, hm⟩ := drop_cons hj
    have := Tm.sizes_mem hm
    simp [e1, e2, e4, e7, e8, e9, e20, e21, e22, hx]
    refine wpP_draw (fun _ _ _ => false) ?_
    simp [e1, e2, e4, e7, e8, e9, h4, h7, h9]
    refine stepD_call (c67 s' hs1 hs2 hs3 a ha0 ha1 x (hpo x hm) (hpl x hm) d (by omega) (by omega) _) (by simp) ?_
    simp [how, e1, e2, e4, e7, e8, e9, h4, h7, h9]
    exact ⟨by omega, by omega, .tip live.nx, by simp, by simp, by simp, by simp, by simp, by simp, by simp, by simp, by simp, by simp [h4], by simp [h7], by simp [h8], by simp [List.take_add_one, hx], rfl, grown_on⟩
  · rintro ⟨env, loc, σ', live⟩ ⟨ow, e1, e2, e4, e7, e8, e9, e20, e21, e22, h4, h7, h8, h9, rfl, how⟩
    simp [e1, e2, e4, e7, e8, e9, h4, h7, h8, h9]
    refine wpP_range l.length (i64b (.mk k t m l) s' k t m l a d (d + bumpF k) σ') (by omega) ⟨.full, ow, by simp, by simp, by simp, by simp, by simp, by simp, by simp, by simp, by simp, by simp [h4], by simp [h7], by simp [h8], by simp [h9], rfl, by simp⟩ ?_ ?_ (hend := ?_)
    · rintro j ⟨env, loc, σ', live⟩ ⟨ow, o, e1, e2, e4, e7, e8, e9, e38, e39, e40, h4, h7, h8, h9, rfl, how⟩
      exact ⟨e40, e39⟩
    · rintro j ⟨env, loc, σ', live⟩ hj ⟨ow, o, e1, e2, e4, e7, e8, e9, e38, e39, e40, h4, h7, h8, h9, rfl, how⟩
      obtain ⟨x, hx, hdr, hm⟩ := drop_cons hj
      have := Fm.sizes_mem hm
      simp [e1, e2, e4, e7, e8, e9, e38, e39, e40, hx]
      refine wpP_draw (fun _ _ _ => false) ?_
      simp [e1, e2, e4, e7, e8, e9, h4, h7, h9]
      refine stepD_call (c105 k t m l _) (by simp) ?_
      simp [e1, e2, e4, e7, e8, e9, h4, h7, h9]
      rw [wrap_id (by omega) (by omega)]
      refine stepD_call (ih x hm (hqo x hm) (hql x hm) (d + bumpF k) (by omega) (by omega) _) (by simp) ?_
      simp [how, e1, e2, e4, e7, e8, e9, h4, h7, h9]
      exact ⟨by omega, by omega, .tip live.nx, o, by simp, by simp, by simp, by simp, by simp, by simp, by simp, by simp, by simp, by simp [h4], by simp [h7], by simp [h8], by simp [List.take_add_one, hx], rfl, grown_on⟩
    · rintro ⟨env, loc, σ', live⟩ ⟨ow, o, e1, e2, e4, e7, e8, e9, e38, e39, e40, h4, h7, h8, h9, rfl, how⟩
      simp [e8, e9, h8, h9, z29]
theorem c56 (σ : List Frm) : CallsV cfg 56 [] σ (.val (.agg (enc .nat))) σ := by
  refine w56 (by simp) ?_
  rw [s56]
  simp [Ty.nat]
theorem c18 (σ : List Frm) : CallsV cfg 18 [] σ (.val (.agg (enc .nat))) σ := by
  refine w18 (by simp) ?_
  rw [s18]
  simp
  refine opV_call (c56 _) (by simp) ?_
  simp
theorem Tm.sizes_map {f : Tm → Tm} {l : List Tm} (h : ∀ x ∈ l, (f x).size = x.size) : Tm.sizes (l.map f) = Tm.sizes l := by
  induction l with
  | nil => simp
  | cons x l ih => simp [h x (by simp), ih fun y hy => h y (by simp [hy])]
theorem Fm.sizes_map {f : Fm → Fm} {l : List Fm} (h : ∀ x ∈ l, (f x).size = x.size) : Fm.sizes (l.map f) = Fm.sizes l := by
  induction l with
  | nil => simp
  | cons x l ih => simp [h x (by simp), ih fun y hy => h y (by simp [hy])]
theorem Tm.up_size (t : Tm) : ∀ a b, (t.up a b).size = t.size := by
  induction t using Tm.ind with
  | _ k i t l ih =>
    intro a b
    rw [Tm.up_mk]
    simp [Tm.sizes_map fun x hx => ih x hx _ _]
theorem Fm.up_size (f : Fm) : ∀ a b, (f.up a b).size = f.size := by
  induction f using Fm.ind with
  | _ k t m l ih =>
    intro a b
    rw [Fm.up_mk]
    simp [Tm.sizes_map fun x _ => Tm.up_size x _ _, Fm.sizes_map fun x hx => ih x hx _ _]
theorem Tm.puts_size {s : Tm} {l : List Tm} {a d d' : Int} (h : ∀ x ∈ l, ((x.put a d s).size : Int) ≤ x.size + x.times d' * (s.size : Int)) : (Tm.sizes (l.map fun x => x.put a d s) : Int) ≤ Tm.sizes l + Tm.timess l d' * (s.size : Int) := by
  induction l with
  | nil => simp [Tm.timess]
  | cons x l ih =>
    have h1 := h x (by simp)
    have h2 := ih fun y hy => h y (by simp [hy])
    simp only [List.map_cons, Tm.sizes_cons, Tm.timess, Int.natCast_add, Int.add_mul]
    omega
theorem Fm.puts_size {s : Tm} {l : List Fm} {a d d' : Int} (h : ∀ x ∈ l, ((x.put a d s).size : Int) ≤ x.size + x.times d' * (s.size : Int)) : (Fm.sizes (l.map fun x => x.put a d s) : Int) ≤ Fm.sizes l + Fm.timess l d' * (s.size : Int) := by
  induction l with
  | nil => simp [Fm.timess]
  | cons x l ih =>
    have h1 := h x (by simp)
    have h2 := ih fun y hy => h y (by simp [hy])
    simp only [List.map_cons, Fm.sizes_cons, Fm.timess, Int.natCast_add, Int.add_mul]
    omega
theorem Tm.put_size (t : Tm) (s : Tm) : ∀ a d, ((t.put a d s).size : Int) ≤ t.size + t.times (a + d) * (s.size : Int) := by
  induction t using Tm.ind with
  | _ k i t l ih =>
    intro a d
    have h0 := t.size_pos
    rw [Tm.put_mk, Tm.times_mk]
    have hn : ∀ b, 0 ≤ Tm.timess l b * (s.size : Int) := fun b => Int.mul_nonneg (Tm.timess_le l b).1 (by omega)
    by_cases hk : k = 1
    · subst hk
      simp only [if_true, true_and]
      by_cases hi : i = a + d
      · rw [if_pos hi, if_pos hi, Tm.up_size, Int.add_mul, Int.one_mul]
        have := hn (if (1 : Int) = 2 then a + d + 1 else a + d)
        simp only [Tm.size_mk, Int.natCast_add]
        omega
      · rw [if_neg hi, if_neg hi, Int.zero_add]
        have := hn (if (1 : Int) = 2 then a + d + 1 else a + d)
        split
        · simp [Tm.var, Ty.zero] at *
          omega
        · omega
    · have hk' : ¬ (k = 1 ∧ i = a + d) := fun h => hk h.1
      have := Tm.puts_size (a := a) (d := if k = 2 then d + 1 else d) (d' := if k = 2 then a + d + 1 else a + d) (s := s) (l := l) fun x hx => by
        have e : (if k = 2 then a + d + 1 else a + d) = a + (if k = 2 then d + 1 else d) := by split <;> omega
        rw [e]
        exact ih x hx _ _
      simp only [if_neg hk, if_neg hk', Tm.size_mk, Int.natCast_add, Int.zero_add]
      omega
theorem Fm.put_size (f : Fm) (s : Tm) : ∀ a d, ((f.put a d s).size : Int) ≤ f.size + f.times (a + d) * (s.size : Int) := by
  induction f using Fm.ind with
  | _ k t m l ih =>
    intro a d
    rw [Fm.put_mk, Fm.times_mk]
    have h1 := Tm.puts_size (a := a) (d := d) (d' := a + d) (s := s) (l := m) fun x _ => Tm.put_size x s _ _
    have h2 := Fm.puts_size (a := a) (d := if fmQ k = true then d + 1 else d) (d' := if fmQ k = true then a + d + 1 else a + d) (s := s) (l := l) fun x hx => by
      have e : (if fmQ k = true then a + d + 1 else a + d) = a + (if fmQ k = true then d + 1 else d) := by split <;> omega
      rw [e]
      exact ih x hx _ _
    simp only [Fm.size_mk, Int.natCast_add, Int.add_mul]
    omega
theorem mul_le {x y : Int} {m n : Int} (hx0 : 0 ≤ x) (hx : x ≤ m) (hy0 : 0 ≤ y) (hy : y ≤ n) : 0 ≤ x * y ∧ x * y ≤ m * n :=
  ⟨Int.mul_nonneg hx0 hy0, Int.mul_le_mul hx hy hy0 (by omega)⟩
theorem c19 (f : Fm) (hsz : f.size ≤ 134217728) (a : Int) (s : Tm) (hs : s.size ≤ 134217728) (σ : List Frm) : CallsV cfg 19 [.agg (encF f), .one (.int .i64 a), .agg (encT s)] σ (.val (.tup [.agg (encF (f.putIn a s).1), .one (.int .i64 (f.putIn a s).2)])) σ := by
  refine w19 (by simp) ?_
  rw [s19]
  simp
  refine opV_call (c34 f (by omega) _) (by simp) ?_
  by_cases hc : f.check = 0
  rotate_left
  · have hc' : (f.check == 0) = false := by simpa using hc
    simp [hc, hc', bne, Fm.putIn, Fm.zeroF, Ty.zero]
  obtain ⟨hok, hcnt⟩ := Fm.check_ok2 hc
  by_cases h1 : a < 0
  · simp [hc, h1, Fm.putIn, Fm.zeroF, Ty.zero]
  by_cases h2 : 4096 < a
  · simp [hc, h1, h2, Fm.putIn, Fm.zeroF, Ty.zero]
  simp [hc, h1, h2]
  refine opV_call (c57 s (by omega) _) (by simp) ?_
  by_cases hcs : s.check = 0
  rotate_left
  · have hc' : (s.check == 0) = false := by simpa using hcs
    simp [hc, h1, h2, hcs, hc', bne, Fm.putIn, Fm.zeroF, Ty.zero]
  obtain ⟨hoks, hcnts⟩ := Tm.check_ok hcs
  simp [hcs]
  refine opV_call (c58 536870912 f (by omega) _) (by simp) ?_
  cases hl : f.least 536870912 with
  | false => simp [hc, h1, h2, hcs, hl, Fm.putIn, Fm.zeroF, Ty.zero]
  | true =>
    simp
    refine opV_call (c59 536870912 s (by omega) _) (by simp) ?_
    cases hm : s.least 536870912 with
    | false => simp [hc, h1, h2, hcs, hl, hm, Fm.putIn, Fm.zeroF, Ty.zero]
    | true =>
      have ht := f.times_le a
      have hm1 := mul_le (x := f.times a) (y := (s.count : Int) - 1) (m := 4096) (n := 4096) ht.1 (by omega) (by have : 1 ≤ s.count := (by cases s; simp); omega) (by omega)
      simp
      refine wpP_draw (fun _ _ _ => false) ?_
      simp
      refine stepD_call (c60 f (by omega) _) (by simp) ?_
      simp
      refine stepD_call (c61 f (by omega) a (by omega) (by omega) _) (by simp) ?_
      simp
      refine stepD_call (c62 s (by omega) _) (by simp) ?_
      have hc1 : 1 ≤ s.count := by cases s; simp
      simp
      rw [wrap_id (n := (s.count : Int) - 1) (by omega) (by omega), wrap_id (n := f.times a * ((s.count : Int) - 1)) (by omega) (by omega), wrap_id (by omega) (by omega)]
      by_cases h3 : 4096 < (f.count : Int) + f.times a * ((s.count : Int) - 1)
      · simp [hc, h1, h2, hcs, hl, hm, h3, Fm.putIn, Fm.zeroF, Ty.zero]
      · simp [hc, h1, h2, hcs, hl, hm, h3, Fm.putIn]
        refine opV_call (c64 s (by omega) hoks hm a (by omega) (by omega) f hok hl 0 (by omega) (by omega) _) (by simp) ?_
        simp
        have hz := Fm.put_size f s a 0
        rw [Int.add_zero] at hz
        have hm2 := mul_le (x := f.times a) (y := (s.size : Int)) (m := 4096) (n := 134217728) ht.1 (by omega) (by omega) (by omega)
        refine opV_call (c63 (f.put a 0 s) (by omega) _) (by simp) ?_
        simp
end Go.Proofs.YtnpgbkldpdogjaaGreatDoor.V

set_option maxRecDepth 100000
namespace Go.Proofs.YtnpgbkldpdogjaaGreatDoor.V
open Go Go.Proofs
theorem lift_size (f : Fm) (a b : Int) : (f.lift a b).1.size ≤ f.size + 2 := by
  unfold Fm.lift
  split
  · simp [Fm.zeroF, Ty.zero]
  · split
    · simp [Fm.zeroF, Ty.zero]
    · simp [Fm.up_size]
theorem ctype_size (f : Fm) : (ctype f).1.size ≤ 64 := by rw [ctype_eq]; exact Fm.rtype_size
end Go.Proofs.YtnpgbkldpdogjaaGreatDoor.V

set_option maxRecDepth 100000
namespace Go.Proofs.YtnpgbkldpdogjaaGreatDoor.V
open Go Go.Proofs
end Go.Proofs.YtnpgbkldpdogjaaGreatDoor.V

set_option maxRecDepth 100000
namespace Go.Proofs.YtnpgbkldpdogjaaGreatDoor.V
open Go Go.Proofs
end Go.Proofs.YtnpgbkldpdogjaaGreatDoor.V

namespace Go.Proofs.YtnpgbkldpdogjaaGreatDoor.V
open Go
mutual
def Tm.same : Tm → Tm → Bool
  | .mk k i t l, .mk k' i' t' l' => (k == k') && ((i == i') && (Ty.same t t' && Tm.sames l l'))
def Tm.sames : List Tm → List Tm → Bool
  | [], [] => true
  | x :: l, y :: m => x.same y && Tm.sames l m
  | _, _ => false
end
mutual
def Fm.same : Fm → Fm → Bool
  | .mk k t m l, .mk k' t' m' l' => (k == k') && (Ty.same t t' && (Tm.sames m m' && Fm.sames l l'))
def Fm.sames : List Fm → List Fm → Bool
  | [], [] => true
  | x :: l, y :: m => x.same y && Fm.sames l m
  | _, _ => false
end
@[simp] theorem Tm.sames_nil : Tm.sames [] [] = true := by rw [Tm.sames]
@[simp] theorem Tm.sames_cons (x y : Tm) (l m : List Tm) : Tm.sames (x :: l) (y :: m) = (x.same y && Tm.sames l m) := by rw [Tm.sames]
@[simp] theorem Fm.sames_nil : Fm.sames [] [] = true := by rw [Fm.sames]
@[simp] theorem Fm.sames_cons (x y : Fm) (l m : List Fm) : Fm.sames (x :: l) (y :: m) = (x.same y && Fm.sames l m) := by rw [Fm.sames]
theorem Tm.sames_length : ∀ {l m : List Tm}, Tm.sames l m = true → l.length = m.length
  | [], [], _ => rfl
  | _ :: l, _ :: m, h => by
    simp only [Tm.sames_cons, Bool.and_eq_true] at h
    simp [Tm.sames_length h.2]
  | [], _ :: _, h => by simp [Tm.sames] at h
  | _ :: _, [], h => by simp [Tm.sames] at h
theorem Fm.sames_length : ∀ {l m : List Fm}, Fm.sames l m = true → l.length = m.length
  | [], [], _ => rfl
  | _ :: l, _ :: m, h => by
    simp only [Fm.sames_cons, Bool.and_eq_true] at h
    simp [Fm.sames_length h.2]
  | [], _ :: _, h => by simp [Fm.sames] at h
  | _ :: _, [], h => by simp [Fm.sames] at h
def Fm.ty : Fm → Ty
  | .mk _ t _ _ => t
def Fm.tms : Fm → List Tm
  | .mk _ _ m _ => m
def Fm.kids : Fm → List Fm
  | .mk _ _ _ l => l
def Tm.kids : Tm → List Tm
  | .mk _ _ _ l => l
def less (s t : Tm) : Fm := .eq (.app2 .sub (.node 5 [s]) t) (.node 4 [])
def Fm.kid (f : Fm) (i : Nat) : Fm := f.kids.getD i .zeroF
def Tm.kid (t : Tm) (i : Nat) : Tm := t.kids.getD i .zeroT
def Fm.bound (f : Fm) : Bool × Tm × Fm × Bool :=
  let all := decide (f.kind = 4)
  if f.kind ≠ (if all = true then 4 else 5) ∨ f.ty.kind ≠ 1 ∨ (f.kid 0).kind ≠ (if all = true then 3 else 2) ∨ ((f.kid 0).kid 0).kind ≠ 1 then (false, .zeroT, .zeroF, false)
  else
    let e := (f.kid 0).kid 0
    let s := e.tms.getD 0 .zeroT
    if s.kind ≠ 3 ∨ 0 < (s.kid 1).times 0 ∨ e.same (less (.var 0) (s.kid 1)) = false then (false, .zeroT, .zeroF, false)
    else (all, s.kid 1, (f.kid 0).kid 1, true)
structure Cls where
  c : Bool
  q : Bool
  d : Bool
def Cls.n (x : Cls) : Int := (if x.c = true then 1 else 0) + (if x.q = true then 2 else 0) + (if x.d = true then 4 else 0)
def clsStep (k : Int) (fst lst : Cls) (bnd : Bool) (body : Cls) : Cls :=
  if k = 1 then ⟨false, true, true⟩
  else if k = 2 then ⟨lst.c || fst.c, fst.q && lst.q, fst.d && lst.d⟩
  else if k = 3 then ⟨lst.c, fst.q && lst.q, fst.d && lst.d⟩
  else ⟨if k = 5 then true else lst.c, false, if bnd = true then body.d else false⟩
def Cls.none : Cls := ⟨false, false, false⟩
mutual
def Fm.clsP : Fm → Cls × List Cls
  | .mk k t m l => (clsStep k ((Fm.clsPs l).headD (.none, [])).1 ((Fm.clsPs l).getLastD (.none, [])).1 (Fm.mk k t m l).bound.2.2.2 (((Fm.clsPs l).headD (.none, [])).2.getD 1 .none), (Fm.clsPs l).map (·.1))
def Fm.clsPs : List Fm → List (Cls × List Cls)
  | [] => []
  | x :: l => x.clsP :: Fm.clsPs l
end
def Fm.cls (f : Fm) : Cls := f.clsP.1
theorem Fm.clsPs_eq (l : List Fm) : Fm.clsPs l = l.map Fm.clsP := by
  induction l with
  | nil => rw [Fm.clsPs]; try rfl
  | cons x l ih => rw [Fm.clsPs, ih]; try rfl
theorem Fm.clsP_mk (k : Int) (t : Ty) (m : List Tm) (l : List Fm) : (Fm.mk k t m l).clsP = (clsStep k ((l.map Fm.clsP).headD (.none, [])).1 ((l.map Fm.clsP).getLastD (.none, [])).1 (Fm.mk k t m l).bound.2.2.2 (((l.map Fm.clsP).headD (.none, [])).2.getD 1 .none), l.map Fm.cls) := by
  rw [Fm.clsP, Fm.clsPs_eq, List.map_map]
  try rfl
theorem cls_eq {t : Ty} {m : List Tm} {l : List Fm} : (Fm.mk 1 t m l).cls = ⟨false, true, true⟩ := by
  simp [Fm.cls, Fm.clsP_mk, clsStep]
theorem cls_two {k : Int} (hk : k = 2 ∨ k = 3) {t : Ty} {m : List Tm} {y x : Fm} : (Fm.mk k t m [y, x]).cls = ⟨if k = 2 then x.cls.c || y.cls.c else x.cls.c, y.cls.q && x.cls.q, y.cls.d && x.cls.d⟩ := by
  rcases hk with rfl | rfl <;> simp [Fm.cls, Fm.clsP_mk, clsStep]
theorem cls_q {k : Int} (hk : k = 4 ∨ k = 5 ∨ k = 6 ∨ k = 7) {t : Ty} {m : List Tm} {x : Fm} : (Fm.mk k t m [x]).cls = ⟨if k = 5 then true else x.cls.c, false, if (Fm.mk k t m [x]).bound.2.2.2 = true then (x.kids.map Fm.cls).getD 1 .none |>.d else false⟩ := by
  have e : x.clsP.2 = x.kids.map Fm.cls := by obtain ⟨k, t, m, l⟩ := x; rw [Fm.clsP_mk]; try rfl
  rcases hk with rfl | rfl | rfl | rfl <;> simp [Fm.cls, Fm.clsP_mk, clsStep, e]
theorem cls_has (f : Fm) : f.ok = true → f.cls.c = f.has := by
  induction f using Fm.ind with
  | _ k t m l ih =>
    intro hok
    rw [Fm.has_mk]
    rcases Fm.shape hok with ⟨rfl, rfl⟩ | ⟨hk, y, x, rfl, hy, hx⟩ | ⟨hk, ht, x, rfl, hx⟩
    · simp [cls_eq]
    · rw [cls_two hk]
      have h1 := ih y (by simp) hy
      have h2 := ih x (by simp) hx
      rcases hk with rfl | rfl
      · simp [h1, h2, Bool.or_comm]
      · simp [h2]
    · rw [cls_q hk]
      have h2 := ih x (by simp) hx
      rcases hk with rfl | rfl | rfl | rfl <;> simp [h2]
end Go.Proofs.YtnpgbkldpdogjaaGreatDoor.V

namespace Go.Proofs.YtnpgbkldpdogjaaGreatDoor.V
open Go
theorem Tm.same_mk (k i k' i' : Int) (t t' : Ty) (l l' : List Tm) : (Tm.mk k i t l).same (.mk k' i' t' l') = ((k == k') && ((i == i') && (Ty.same t t' && Tm.sames l l'))) := by rw [Tm.same]
theorem Fm.same_mk (k k' : Int) (t t' : Ty) (m m' : List Tm) (l l' : List Fm) : (Fm.mk k t m l).same (.mk k' t' m' l') = ((k == k') && (Ty.same t t' && (Tm.sames m m' && Fm.sames l l'))) := by rw [Fm.same]
theorem Tm.sames_refl' {l : List Tm} (h : ∀ x ∈ l, x.same x = true) : Tm.sames l l = true := by
  induction l with
  | nil => simp
  | cons x l ih => simp [h x (by simp), ih fun y hy => h y (by simp [hy])]
theorem Ty.same_refl' (t : Ty) : Ty.same t t = true := (Ty.same_iff t t).2 rfl
theorem Tm.same_refl (t : Tm) : t.same t = true := by
  induction t using Tm.ind with
  | _ k i s l ih => rw [Tm.same_mk]; simp [Ty.same_refl', Tm.sames_refl' ih]
theorem Tm.sames_refl (l : List Tm) : Tm.sames l l = true := Tm.sames_refl' fun x _ => x.same_refl
theorem Fm.sames_refl' {l : List Fm} (h : ∀ x ∈ l, x.same x = true) : Fm.sames l l = true := by
  induction l with
  | nil => simp
  | cons x l ih => simp [h x (by simp), ih fun y hy => h y (by simp [hy])]
theorem Fm.same_refl (f : Fm) : f.same f = true := by
  induction f using Fm.ind with
  | _ k s m l ih => rw [Fm.same_mk]; simp [Ty.same_refl', Tm.sames_refl, Fm.sames_refl' ih]
theorem Tm.shape3 {i : Int} {s : Ty} {l : List Tm} (h : (Tm.mk 3 i s l).ok = true) : ∃ p q, l = [p, q] ∧ p.ok = true ∧ q.ok = true := by
  simp only [Tm.ok_mk, Bool.and_eq_true, Tm.oks_iff, Tm.head, tmArity] at h
  obtain ⟨⟨⟨⟨h1, _⟩, _⟩, _⟩, h2⟩ := h
  have : l.length = 2 := by simp at h1; omega
  match l, this with
  | [p, q], _ => exact ⟨p, q, rfl, h2 p (by simp), h2 q (by simp)⟩
theorem Fm.shape1 {t : Ty} {m : List Tm} {l : List Fm} (h : (Fm.mk 1 t m l).ok = true) : ∃ a b, m = [a, b] ∧ l = [] ∧ a.ok = true ∧ b.ok = true := by
  simp only [Fm.ok_mk, Bool.and_eq_true, Tm.oks_iff, Fm.oks_iff, Fm.head, fmArity] at h
  obtain ⟨h1, h2, _⟩ := h
  simp at h1
  obtain ⟨_, h3, h4⟩ := h1
  match m, h3 with
  | [a, b], _ => exact ⟨a, b, rfl, h4, h2 a (by simp), h2 b (by simp)⟩
theorem bound_q {k j : Int} {all : Bool} (hk : (k = 4 ∧ all = true ∧ j = 3) ∨ (k = 5 ∧ all = false ∧ j = 2)) (t : Ty) (m : List Tm) (x : Fm) : (Fm.mk k t m [x]).bound =
    if t.kind ≠ 1 ∨ x.kind ≠ j ∨ (x.kid 0).kind ≠ 1 then (false, .zeroT, .zeroF, false)
    else if ((x.kid 0).tms.getD 0 .zeroT).kind ≠ 3 ∨ 0 < (((x.kid 0).tms.getD 0 .zeroT).kid 1).times 0 ∨ (x.kid 0).same (less (.var 0) (((x.kid 0).tms.getD 0 .zeroT).kid 1)) = false then (false, .zeroT, .zeroF, false)
    else (all, ((x.kid 0).tms.getD 0 .zeroT).kid 1, x.kid 1, true) := by
  rcases hk with ⟨rfl, rfl, rfl⟩ | ⟨rfl, rfl, rfl⟩ <;> simp [Fm.bound, Fm.kind, Fm.ty, Fm.kid, Fm.kids]
theorem bound_no {k : Int} {t : Ty} {m : List Tm} {l : List Fm} (h4 : k ≠ 4) (h5 : k ≠ 5) : (Fm.mk k t m l).bound = (false, .zeroT, .zeroF, false) := by
  simp [Fm.bound, Fm.kind, h4, h5]
end Go.Proofs.YtnpgbkldpdogjaaGreatDoor.V

namespace Go.Proofs.YtnpgbkldpdogjaaGreatDoor.V
open Go
theorem Tm.app_ok {f a : Tm} (hf : f.ok = true) (ha : a.ok = true) : (Tm.app f a).ok = true := by
  have : Tm.head 3 0 .zero 2 = true := by decide +kernel
  simp [Tm.app, Tm.node, this, hf, ha]
theorem Tm.up_least {m b : Int} (hb : 0 ≤ b) (t : Tm) : ∀ a, t.least m = true → (t.up a b).least (m + b) = true := by
  induction t using Tm.ind with
  | _ k i s l ih =>
    intro a h
    rw [Tm.up_mk, Tm.least]
    rw [Tm.least] at h
    simp only [Bool.and_eq_true, decide_eq_true_eq, Tm.leasts_iff] at h ⊢
    refine ⟨by split <;> omega, fun x hx => ?_⟩
    obtain ⟨y, hy, rfl⟩ := List.mem_map.1 hx
    exact ih y hy _ (h.2 y hy)
end Go.Proofs.YtnpgbkldpdogjaaGreatDoor.V

namespace Go.Proofs.YtnpgbkldpdogjaaGreatDoor.V
open Go
theorem small_check {f : Fm} (h : f.ok = true) (hs : f.size ≤ 4096) : f.check = 0 := Fm.check_small h (Nat.le_trans f.count_le hs)
end Go.Proofs.YtnpgbkldpdogjaaGreatDoor.V

set_option maxRecDepth 100000
namespace Go.Proofs.YtnpgbkldpdogjaaGreatDoor.V
open Go Go.Proofs
def z25 : List Cell := [.int .i64 0, .slice .full 2 []]
def i158 (t : Ty) (k : Int) (l : List Ty) (σ : List Frm) (j : Nat) : St → Prop
  | ⟨env, loc, σ', live⟩ => ∃ ow, env 2 = .one (.box σ.length 2 0 0) ∧ env 3 = .one (.box σ.length 3 0 0) ∧ env 10 = .one (.slice .no 2 (l.map enc)) ∧ env 11 = .one (.int .i64 l.length) ∧ env 12 = .one (.int .i64 j) ∧
    loc 2 = [z25] ∧ loc 3 = [[.int .i64 k, .slice ow 2 ((l.take j).map enc)]] ∧ σ' = σ ∧ okOwn live ow
theorem c158 (t : Ty) : t.size ≤ 1099511627776 → ∀ (σ : List Frm), CallsV cfg 158 [.agg (enc t)] σ (.val (.agg (enc t))) σ := by
  induction t using Ty.ind with
  | _ k l ih =>
  intro hsz σ
  simp at hsz
  have hlen := Ty.length_le l
  refine w158 (by simp) ?_
  rw [s158]
  simp
  refine wpP_range l.length (i158 (.mk k l) k l σ) (by omega) ⟨.full, by simp, by simp, by simp, by simp, by simp, by simp [z25], by simp, rfl, by simp⟩ ?_ ?_ (hend := ?_)
  · rintro j ⟨env, loc, σ', live⟩ ⟨ow, e2, e3, e10, e11, e12, h2, h3, rfl, how⟩
    exact ⟨e12, e11⟩
  · rintro j ⟨env, loc, σ', live⟩ hj ⟨ow, e2, e3, e10, e11, e12, h2, h3, rfl, how⟩
    obtain ⟨x, hx, hd, hm⟩ := drop_cons hj
    have := Ty.sizes_mem hm
    simp [e2, e3, e10, e11, e12, hx]
    refine wpP_draw (fun _ _ _ => false) ?_
    simp [e2, e3, e10, e11, e12, h3]
    refine stepD_call (ih x hm (by omega) _) (by simp) ?_
    simp [how, e2, e3, e10, e11, e12, h3]
    exact ⟨by omega, by omega, .tip live.nx, by simp, by simp, by simp, by simp, by simp, by simp [h2], by simp [List.take_add_one, hx], rfl, grown_on⟩
  · rintro ⟨env, loc, σ', live⟩ ⟨ow, e2, e3, e10, e11, e12, h2, h3, rfl, how⟩
    simp [e2, e3, h2, h3, z25]
def i172 (k' : Int) (l m : List Ty) (σ : List Frm) (j : Nat) : St → Prop
  | ⟨env, loc, σ', _⟩ => env 3 = .one (.box σ.length 3 0 0) ∧ env 22 = .one (.slice .no 2 (l.map enc)) ∧ env 23 = .one (.int .i64 l.length) ∧ env 24 = .one (.int .i64 j) ∧
    loc 3 = [enc (.mk k' m)] ∧ σ' = σ ∧ Ty.sames l m = Ty.sames (l.drop j) (m.drop j)
theorem c172 (a : Ty) : ∀ (b : Ty), a.size ≤ 1099511627776 → ∀ (σ : List Frm), CallsV cfg 172 [.agg (enc a), .agg (enc b)] σ (.val (.one (.bool (Ty.same a b)))) σ := by
  induction a using Ty.ind with
  | _ k l ih =>
  rintro ⟨k', m⟩ hsz σ
  simp at hsz
  have hlen := Ty.length_le l
  refine w172 (by simp) ?_
  rw [s172]
  by_cases hk : k = k'
  rotate_left
  · simp [hk]
  subst hk
  by_cases hl : l.length = m.length
  rotate_left
  · have : Ty.sames l m = false := by
      cases h : Ty.sames l m with
      | false => rfl
      | true => exact absurd (Ty.sames_length h) hl
    have hl' : ((l.length : Int) == (m.length : Int)) = false := by simpa using (by omega : ¬ (l.length : Int) = m.length)
    simp [hl', this, bne]
  have hl' : ((l.length : Int) == (m.length : Int)) = true := by rw [hl]; simp
  simp [hl', bne]
  refine wpP_range l.length (i172 k l m σ) (by omega) ⟨by simp, by simp, by simp, by simp, by simp, rfl, by simp⟩ ?_ ?_ (hend := ?_)
  · rintro j ⟨env, loc, σ', live⟩ ⟨e3, e22, e23, e24, h3, rfl, hs⟩
    exact ⟨e24, e23⟩
  · rintro j ⟨env, loc, σ', live⟩ hj ⟨e3, e22, e23, e24, h3, rfl, hs⟩
    obtain ⟨x, hx, hd, hmx⟩ := drop_cons hj
    obtain ⟨y, hy, hd', _⟩ := drop_cons (hl ▸ hj)
    have := Ty.sizes_mem hmx
    simp [e3, e22, e23, e24, hx]
    refine wpP_draw (fun _ _ _ => false) ?_
    simp [e3, e22, e23, e24, h3, hy]
    refine stepD_call (ih x hmx y (by omega) _) (by simp) ?_
    rw [hd, hd', Ty.sames_cons] at hs
    cases hxy : Ty.same x y with
    | false =>
      rw [hxy] at hs
      simp [hs]
    | true =>
      rw [hxy] at hs
      simp [e3, e22, e23, e24]
      exact ⟨by simp, by simp, by simp, by simp, by simp [h3], rfl, by simpa using hs⟩
  · rintro ⟨env, loc, σ', live⟩ ⟨e3, e22, e23, e24, h3, rfl, hs⟩
    rw [List.drop_length, hl, List.drop_length] at hs
    simp [hs]
def i173 (b : Tm) (l m : List Tm) (σ : List Frm) (j : Nat) : St → Prop
  | ⟨env, loc, σ', _⟩ => env 3 = .one (.box σ.length 3 0 0) ∧ env 37 = .one (.slice .no 5 (l.map encT)) ∧ env 38 = .one (.int .i64 l.length) ∧ env 39 = .one (.int .i64 j) ∧
    loc 3 = [encT b] ∧ σ' = σ ∧ Tm.sames l m = Tm.sames (l.drop j) (m.drop j)
theorem c173 (a : Tm) : ∀ (b : Tm), a.size ≤ 1099511627776 → ∀ (σ : List Frm), CallsV cfg 173 [.agg (encT a), .agg (encT b)] σ (.val (.one (.bool (a.same b)))) σ := by
  induction a using Tm.ind with
  | _ k i t l ih =>
  rintro ⟨k', i', t', m⟩ hsz σ
  simp at hsz
  have hlen := Tm.length_le l
  have hsp := t.size_pos
  refine w173 (by simp) ?_
  rw [s173, Tm.same_mk]
  by_cases hk : k = k'
  rotate_left
  · simp [hk]
  subst hk
  by_cases hi : i = i'
  rotate_left
  · simp [hi]
  subst hi
  simp
  refine opV_call (c172 t t' (by omega) _) (by simp) ?_
  cases ht : Ty.same t t' with
  | false => simp
  | true =>
    by_cases hl : l.length = m.length
    rotate_left
    · have : Tm.sames l m = false := by
        cases h : Tm.sames l m with
        | false => rfl
        | true => exact absurd (Tm.sames_length h) hl
      have hl' : ¬ (l.length : Int) = m.length := by omega
      simp [hl', this]
    have hl' : ((l.length : Int) = (m.length : Int)) = True := by simp [hl]
    simp [hl']
    refine wpP_range l.length (i173 (.mk k i t' m) l m σ) (by omega) ⟨by simp, by simp, by simp, by simp, by simp, rfl, by simp⟩ ?_ ?_ (hend := ?_)
    · rintro j ⟨env, loc, σ', live⟩ ⟨e3, e37, e38, e39, h3, rfl, hs⟩
      exact ⟨e39, e38⟩
    · rintro j ⟨env, loc, σ', live⟩ hj ⟨e3, e37, e38, e39, h3, rfl, hs⟩
      obtain ⟨x, hx, hd, hmx⟩ := drop_cons hj
      obtain ⟨y, hy, hd', _⟩ := drop_cons (hl ▸ hj)
      have := Tm.sizes_mem hmx
      simp [e3, e37, e38, e39, hx]
      refine wpP_draw (fun _ _ _ => false) ?_
      simp [e3, e37, e38, e39, h3, hy]
      refine stepD_call (ih x hmx y (by omega) _) (by simp) ?_
      rw [hd, hd', Tm.sames_cons] at hs
      cases hxy : x.same y with
      | false =>
        rw [hxy] at hs
        simp [hs]
      | true =>
        rw [hxy] at hs
        simp [e3, e37, e38, e39]
        exact ⟨by simp, by simp, by simp, by simp, by simp [h3], rfl, by simpa using hs⟩
    · rintro ⟨env, loc, σ', live⟩ ⟨e3, e37, e38, e39, h3, rfl, hs⟩
      rw [List.drop_length, hl, List.drop_length] at hs
      simp [hs]
def i169a (a b : Fm) (l m : List Tm) (σ : List Frm) (j : Nat) : St → Prop
  | ⟨env, loc, σ', _⟩ => env 2 = .one (.box σ.length 2 0 0) ∧ env 3 = .one (.box σ.length 3 0 0) ∧ env 41 = .one (.slice .no 5 (l.map encT)) ∧ env 42 = .one (.int .i64 l.length) ∧ env 43 = .one (.int .i64 j) ∧
    loc 2 = [encF a] ∧ loc 3 = [encF b] ∧ σ' = σ ∧ Tm.sames l m = Tm.sames (l.drop j) (m.drop j)
def i169b (b : Fm) (l m : List Fm) (σ : List Frm) (j : Nat) : St → Prop
  | ⟨env, loc, σ', _⟩ => env 3 = .one (.box σ.length 3 0 0) ∧ env 58 = .one (.slice .no 5 (l.map encF)) ∧ env 59 = .one (.int .i64 l.length) ∧ env 60 = .one (.int .i64 j) ∧
    loc 3 = [encF b] ∧ σ' = σ ∧ Fm.sames l m = Fm.sames (l.drop j) (m.drop j)
theorem c169 (a : Fm) : ∀ (b : Fm), a.size ≤ 1099511627776 → ∀ (σ : List Frm), CallsV cfg 169 [.agg (encF a), .agg (encF b)] σ (.val (.one (.bool (a.same b)))) σ := by
  induction a using Fm.ind with
  | _ k t n l ih =>
  rintro ⟨k', t', n', m⟩ hsz σ
  simp at hsz
  have hlen := Fm.length_le l
  have hlen2 := Tm.length_le n
  refine w169 (by simp) ?_
  rw [s169, Fm.same_mk]
  by_cases hk : k = k'
  rotate_left
  · simp [hk]
  subst hk
  simp
  refine opV_call (c172 t t' (by omega) _) (by simp) ?_
  cases ht : Ty.same t t' with
  | false => simp
  | true =>
    by_cases hl2 : n.length = n'.length
    rotate_left
    · have : Tm.sames n n' = false := by
        cases h : Tm.sames n n' with
        | false => rfl
        | true => exact absurd (Tm.sames_length h) hl2
      have hl' : ¬ (n.length : Int) = n'.length := by omega
      simp [hl', this]
    have hl2' : ((n.length : Int) = (n'.length : Int)) = True := by simp [hl2]
    by_cases hl : l.length = m.length
    rotate_left
    · have : Fm.sames l m = false := by
        cases h : Fm.sames l m with
        | false => rfl
        | true => exact absurd (Fm.sames_length h) hl
      have hl' : ¬ (l.length : Int) = m.length := by omega
      simp [hl2', hl', this]
    have hl' : ((l.length : Int) = (m.length : Int)) = True := by simp [hl]
    simp [hl2', hl']
    refine wpP_range n.length (i169a (.mk k t n l) (.mk k t' n' m) n n' σ) (by omega) ⟨by simp, by simp, by simp, by simp, by simp, by simp, by simp, rfl, by simp⟩ ?_ ?_ (hend := ?_)
    · rintro j ⟨env, loc, σ', live⟩ ⟨e2, e3, e41, e42, e43, h2, h3, rfl, hs⟩
      exact ⟨e43, e42⟩
    · rintro j ⟨env, loc, σ', live⟩ hj ⟨e2, e3, e41, e42, e43, h2, h3, rfl, hs⟩
      obtain ⟨x, hx, hd, hmx⟩ := drop_cons hj
      obtain ⟨y, hy, hd', _⟩ := drop_cons (hl2 ▸ hj)
      have := Tm.sizes_mem hmx
      simp [e2, e3, e41, e42, e43, hx]
      refine wpP_draw (fun _ _ _ => false) ?_
      simp [e2, e3, e41, e42, e43, h2, h3, hy]
      refine stepD_call (c173 x y (by omega) _) (by simp) ?_
      rw [hd, hd', Tm.sames_cons] at hs
      cases hxy : x.same y with
      | false =>
        rw [hxy] at hs
        simp [hs]
      | true =>
        rw [hxy] at hs
        simp [e2, e3, e41, e42, e43]
        exact ⟨by simp, by simp, by simp, by simp, by simp, by simp [h2], by simp [h3], rfl, by simpa using hs⟩
    · rintro ⟨env, loc, σ', live⟩ ⟨e2, e3, e41, e42, e43, h2, h3, rfl, hs⟩
      rw [List.drop_length, hl2, List.drop_length] at hs
      simp [hs, e2, e3, h2, h3]
      refine wpP_range l.length (i169b (.mk k t' n' m) l m σ') (by omega) ⟨by simp, by simp, by simp, by simp, by simp [h3], rfl, by simp⟩ ?_ ?_ (hend := ?_)
      · rintro j ⟨env, loc, σ', live⟩ ⟨e3, e58, e59, e60, h3, rfl, hs⟩
        exact ⟨e60, e59⟩
      · rintro j ⟨env, loc, σ', live⟩ hj ⟨e3, e58, e59, e60, h3, rfl, hs⟩
        obtain ⟨x, hx, hd, hmx⟩ := drop_cons hj
        obtain ⟨y, hy, hd', _⟩ := drop_cons (hl ▸ hj)
        have := Fm.sizes_mem hmx
        simp [e3, e58, e59, e60, hx]
        refine wpP_draw (fun _ _ _ => false) ?_
        simp [e3, e58, e59, e60, h3, hy]
        refine stepD_call (ih x hmx y (by omega) _) (by simp) ?_
        rw [hd, hd', Fm.sames_cons] at hs
        cases hxy : x.same y with
        | false =>
          rw [hxy] at hs
          simp [hs]
        | true =>
          rw [hxy] at hs
          simp [e3, e58, e59, e60]
          exact ⟨by simp, by simp, by simp, by simp, by simp [h3], rfl, by simpa using hs⟩
      · rintro ⟨env, loc, σ', live⟩ ⟨e3, e58, e59, e60, h3, rfl, hs⟩
        rw [List.drop_length, hl, List.drop_length] at hs
        simp [hs]
theorem c155 (k : Int) (σ : List Frm) : CallsV cfg 155 [.one (.int .i64 k)] σ (.val (.one (.bool (decide (4 ≤ k ∧ k ≤ 7))))) σ := by
  refine w155 (by simp) ?_
  rw [s155]
  by_cases h4 : 4 ≤ k <;> by_cases h7 : k ≤ 7 <;> simp [h4, h7]
end Go.Proofs.YtnpgbkldpdogjaaGreatDoor.V

set_option maxRecDepth 100000
namespace Go.Proofs.YtnpgbkldpdogjaaGreatDoor.V
open Go Go.Proofs
theorem c174 (s t : Tm) (σ : List Frm) : CallsV cfg 174 [.agg (encT s), .agg (encT t)] σ (.val (.agg (encF (.eq s t)))) σ := by
  refine w174 (by simp) ?_
  rw [s174]
  simp [Fm.eq, Ty.zero]
theorem c177 (k : Int) (l : List Tm) (σ : List Frm) : CallsV cfg 177 [.one (.int .i64 k), .one (.slice .no 5 (l.map encT))] σ (.val (.agg (encT (.node k l)))) σ := by
  refine w177 (by simp) ?_
  rw [s177]
  simp [Tm.node, Ty.zero]
theorem c161 (i : Int) (σ : List Frm) : CallsV cfg 161 [.one (.int .i64 i)] σ (.val (.agg (encT (.var i)))) σ := by
  refine w161 (by simp) ?_
  rw [s161]
  simp [Tm.var, Ty.zero]
theorem c182 (σ : List Frm) : CallsV cfg 182 [] σ (.val (.agg (enc .nat))) σ := by
  refine w182 (by simp) ?_
  rw [s182]
  simp [Ty.nat]
def i175 (f : Tm) (l : List Tm) (σ : List Frm) (j : Nat) : St → Prop
  | ⟨env, loc, σ', _⟩ => env 2 = .one (.box σ.length 2 0 0) ∧ env 4 = .one (.box σ.length 4 0 0) ∧ env 7 = .one (.slice .no 5 (l.map encT)) ∧ env 8 = .one (.int .i64 l.length) ∧ env 9 = .one (.int .i64 j) ∧
    loc 2 = [encT ((l.take j).foldl Tm.app f)] ∧ loc 4 = [z62] ∧ σ' = σ
theorem c175 (f : Tm) (l : List Tm) (hl : l.length ≤ 1099511627776) (σ : List Frm) : CallsV cfg 175 [.agg (encT f), .one (.slice .no 5 (l.map encT))] σ (.val (.agg (encT (l.foldl Tm.app f)))) σ := by
  refine w175 (by simp) ?_
  rw [s175]
  simp
  refine wpP_range l.length (i175 f l σ) (by omega) ⟨by simp, by simp, by simp, by simp, by simp, by simp, by simp [z62], rfl⟩ ?_ ?_ (hend := ?_)
  · rintro j ⟨env, loc, σ', live⟩ ⟨e2, e4, e7, e8, e9, h2, h4, rfl⟩
    exact ⟨e9, e8⟩
  · rintro j ⟨env, loc, σ', live⟩ hj ⟨e2, e4, e7, e8, e9, h2, h4, rfl⟩
    obtain ⟨x, hx, hd, hm⟩ := drop_cons hj
    simp [e2, e4, e7, e8, e9, hx, h2]
    refine opV_call (c177 3 [(l.take j).foldl Tm.app f, x] _) (by simp) ?_
    simp [e2, e4, e7, e8, e9, hx, h2]
    exact ⟨by simp, by simp, by simp, by simp, by simp, by simp [List.take_add_one, hx, Tm.app], by simp [h4], rfl⟩
  · rintro ⟨env, loc, σ', live⟩ ⟨e2, e4, e7, e8, e9, h2, h4, rfl⟩
    simp [e2, e4, h2, h4, z62]
def lams (l : List Ty) (t : Tm) : Tm := l.foldr (fun s t => .tnode 2 s [t]) t
def i181 (t : Tm) (l : List Ty) (σ : List Frm) (m : Nat) : St → Prop
  | ⟨env, loc, σ', _⟩ => ∃ cs, m ≤ l.length ∧ env 1 = .one (.slice .no 2 (l.map enc)) ∧ env 2 = .one (.box σ.length 2 0 0) ∧ env 4 = .one (.box σ.length 4 0 0) ∧ env 5 = .one (.int .i64 ((m : Int) - 1)) ∧
    loc 2 = [cs] ∧ cs.length = 5 ∧ flatL cs = true ∧ cs.map erC = encT (lams (l.drop m) t) ∧ loc 4 = [z62] ∧ σ' = σ
theorem c181 (t : Tm) (l : List Ty) (hl : l.length ≤ 1099511627776) (σ : List Frm) : CallsV cfg 181 [.agg (encT t), .one (.slice .no 2 (l.map enc))] σ (.val (.agg (encT (lams l t)))) σ := by
  refine w181 (by simp) ?_
  rw [s181]
  simp
  rw [wrap_id (by omega) (by omega)]
  refine wpP_loop (i181 t l σ) l.length ⟨encT t, by omega, by simp, by simp, by simp, by simp, by simp, by simp, by simp, by simp [lams], by simp [z62], rfl⟩ ?_
  rintro m ⟨env, loc, σ', live⟩ ⟨cs, hm, e1, e2, e4, e5, h2, hc1, hc2, hc3, h4, rfl⟩
  have htk : cs.take 5 = cs := List.take_of_length_le (by omega)
  have hdk : cs.drop 5 = [] := List.drop_eq_nil_of_le (by omega)
  cases m with
  | zero =>
    simp [e1, e2, e4, e5, h2, h4, z62, hc1, hc2, hc3, htk, hdk]
  | succ m =>
    obtain ⟨x, hx, hd, hmx⟩ := drop_cons (show m < l.length by omega)
    have e5' : env 5 = .one (.int .i64 (m : Int)) := by
      rw [e5]
      congr 2
      omega
    clear e5
    simp [e1, e2, e4, e5']
    refine wpP_draw (fun _ _ _ => false) ?_
    simp [e1, e2, e4, e5', h2, hx, hc1, hc2, hc3, htk, hdk]
    rw [wrap_id (by omega) (by omega)]
    refine loopK_normal m (by omega) ⟨.int .i64 2 :: .int .i64 0 :: (enc x ++ [.slice .full 5 [encT (lams (l.drop (m + 1)) t)]]), by omega, by simp, by simp, by simp, by simp, by simp, ?_, ?_, ?_, by simp [h4], rfl⟩
    · simp
    · simp
    · simp [hd, lams, Tm.tnode]
theorem c178 (t : Tm) (σ : List Frm) : CallsV cfg 178 [.agg (encT t)] σ (.val (.agg (encT (.lamN (.lamN t))))) σ := by
  refine w178 (by simp) ?_
  rw [s178]
  simp
  refine wpP_draw (fun _ _ _ => false) ?_
  simp
  refine stepD_call (c182 _) (by simp) ?_
  simp
  refine stepD_call (c182 _) (by simp) ?_
  simp
  refine stepD_call (c181 t [.nat, .nat] (by simp) _) (by simp) ?_
  simp [lams, Tm.lamN]
theorem c183 (k : Int) (s : Ty) (a b c : Tm) (σ : List Frm) : CallsV cfg 183 [.one (.int .i64 k), .agg (enc s), .agg (encT a), .agg (encT b), .agg (encT c)] σ (.val (.agg (encT (.tnode k s [a, b, c])))) σ := by
  refine w183 (by simp) ?_
  rw [s183]
  simp [Tm.tnode]
theorem c179 (a b c : Tm) (σ : List Frm) : CallsV cfg 179 [.agg (encT a), .agg (encT b), .agg (encT c)] σ (.val (.agg (encT (.recN a (.lamN (.lamN b)) c)))) σ := by
  refine w179 (by simp) ?_
  rw [s179]
  simp
  refine wpP_draw (fun _ _ _ => false) ?_
  simp
  refine stepD_call (c182 _) (by simp) ?_
  simp
  refine stepD_call (c182 _) (by simp) ?_
  simp
  refine stepD_call (c182 _) (by simp) ?_
  simp
  refine stepD_call (c181 b [.nat, .nat] (by simp) _) (by simp) ?_
  simp [lams]
  refine stepD_call (c183 6 .nat a (.lamN (.lamN b)) c _) (by simp [Tm.lamN]) ?_
  simp [Tm.recN]
theorem c180 (σ : List Frm) : CallsV cfg 180 [] σ (.val (.agg (encT .pred))) σ := by
  refine w180 (by simp) ?_
  rw [s180]
  simp
  refine opV_call (c177 4 [] _) (by simp) ?_
  simp
  refine opV_call (c161 1 _) (by simp) ?_
  simp
  refine opV_call (c161 0 _) (by simp) ?_
  simp
  refine opV_call (c179 (.node 4 []) (.var 1) (.var 0) _) (by simp) ?_
  simp
  refine opV_call (c182 _) (by simp) ?_
  simp
  refine opV_call (c181 (.recN (.node 4 []) (.lamN (.lamN (.var 1))) (.var 0)) [.nat] (by simp) _) (by simp) ?_
  simp [lams, Tm.pred, Tm.lamN]
theorem c176 (σ : List Frm) : CallsV cfg 176 [] σ (.val (.agg (encT .sub))) σ := by
  refine w176 (by simp) ?_
  rw [s176]
  simp
  refine opV_call (c161 1 _) (by simp) ?_
  simp
  refine opV_call (c180 _) (by simp) ?_
  simp
  refine opV_call (c161 0 _) (by simp) ?_
  simp
  refine opV_call (c175 .pred [.var 0] (by simp) _) (by simp) ?_
  simp
  refine opV_call (c161 0 _) (by simp) ?_
  simp
  refine opV_call (c179 (.var 1) (.app .pred (.var 0)) (.var 0) _) (by simp) ?_
  simp
  refine opV_call (c178 (.recN (.var 1) (.lamN (.lamN (.app .pred (.var 0)))) (.var 0)) _) (by simp) ?_
  simp [Tm.sub]
theorem c170 (s t : Tm) (σ : List Frm) : CallsV cfg 170 [.agg (encT s), .agg (encT t)] σ (.val (.agg (encF (less s t)))) σ := by
  refine w170 (by simp) ?_
  rw [s170]
  simp
  refine wpP_draw (fun _ _ _ => false) ?_
  simp
  refine stepD_call (c176 _) (by simp) ?_
  simp
  refine stepD_call (c177 5 [s] _) (by simp) ?_
  simp
  refine stepD_call (c175 .sub [.node 5 [s], t] (by simp) _) (by simp) ?_
  simp
  refine stepD_call (c177 4 [] _) (by simp) ?_
  simp
  refine stepD_call (c174 (.app (.app .sub (.node 5 [s])) t) (.node 4 []) _) (by simp) ?_
  simp [less, Tm.app2]
theorem c167 (b : Bool) (σ : List Frm) : CallsV cfg 167 [.one (.bool b)] σ (.val (.tup [.one (.int .i64 (if b = true then 4 else 5)), .one (.int .i64 (if b = true then 3 else 2))])) σ := by
  refine w167 (by simp) ?_
  rw [s167]
  cases b <;> simp
end Go.Proofs.YtnpgbkldpdogjaaGreatDoor.V

set_option maxRecDepth 100000
namespace Go.Proofs.YtnpgbkldpdogjaaGreatDoor.V
open Go Go.Proofs
def Pl.cell (p : Pl) : Cell := .box p.d p.t p.v 0
@[simp] theorem erC_cell (p : Pl) : erC p.cell = p.cell := rfl
def Pl.apart (p q : Pl) : Prop := p.d ≠ q.d ∨ p.t ≠ q.t
theorem cellsAt_apart {σ : List Frm} {p q : Pl} {cs : List Cell} (h : p.apart q) : cellsAt (setC σ q cs) p = cellsAt σ p := by
  unfold cellsAt
  simp only [setC, List.getElem?_modify]
  cases σ[p.d]? with
  | none => rfl
  | some f =>
    by_cases e : q.d = p.d
    · have h' : ¬ p.t = q.t := by
        rcases h with h | h
        · exact absurd e.symm h
        · exact h
      simp [e, setLoc, upd, h']
    · simp [e]
theorem readBox_at {env : Nat → PV} {loc : Frm} {σ : List Frm} {live : Live} {p : Pl} {cs : List Cell} (h : cellsAt σ p = some cs) : readBox ⟨env, loc, σ, live⟩ p.d p.t p.v = some cs := by
  have e : ¬ p.d = σ.length := by have := cellsAt_lt h; omega
  simp only [readBox, if_neg e]
  exact h
theorem readBox_set {env : Nat → PV} {loc : Frm} {σ : List Frm} {live : Live} {p q : Pl} {cs c : List Cell} (h : cellsAt σ p = some cs) (ha : p.apart q) : readBox ⟨env, loc, setC σ q c, live⟩ p.d p.t p.v = some cs := readBox_at (by rw [cellsAt_apart ha]; exact h)
theorem opV_atF {C : Cfg} {K : St → Prop} {dst : Option Nat} {ty : TypeId} {f : Nat} {x : Operand} {xs : Array Operand} {ts : Array TypeId} {p : String} {af : Array Edge} {g : Option (Nat × Bool)} {v : PV} {ps : List PV} {env : Nat → PV} {loc : Frm} {σ : List Frm} {live : Live} {q : Pl} {cs cs' caps : List Cell}
    (ho : oper C env x = .one (.func f caps)) (h : CallsV C f (ps ++ caps.map fun c => .one (erC c)) (setC (σ ++ [loc]) q cs) (.val v) (setC (σ ++ [loc]) q cs')) (hH : q.d < σ.length) (ha : argsT C env ts.toList xs.toList = ps) (hk : K (put ⟨env, loc, setC σ q cs', live⟩ dst v)) :
    opV C ⟨dst, .call ⟨.value x, xs, ts⟩, ty, p, af, g⟩ K ⟨env, loc, setC σ q cs, live⟩ := by
  simp only [opV, CallV]
  rw [setC_append hH, setC_append hH] at h
  refine ⟨f, caps, .val v, _, setC σ q cs', loc, ho, ?_, rfl, by simp, hk⟩
  rw [ha]
  exact h
theorem opV_own2 {C : Cfg} {K : St → Prop} {dst : Option Nat} {ty : TypeId} {f : Nat} {xs : Array Operand} {ts : Array TypeId} {p : String} {af : Array Edge} {g : Option (Nat × Bool)} {v : PV} {ps : List PV} {env : Nat → PV} {loc : Frm} {σ : List Frm} {live : Live} {t w : Nat} {cs cs' : List Cell}
    (h : CallsV C f ps (setC (σ ++ [loc]) ⟨σ.length, t, w⟩ cs) (.val v) (setC (σ ++ [loc]) ⟨σ.length, t, w⟩ cs')) (hH : (loc t)[w]? = some cs) (ha : argsT C env ts.toList xs.toList = ps) (hk : K (put ⟨env, setLoc loc ⟨σ.length, t, w⟩ cs', σ, live⟩ dst v)) :
    opV C ⟨dst, .call ⟨.value (.func f), xs, ts⟩, ty, p, af, g⟩ K ⟨env, loc, σ, live⟩ := by
  simp only [opV, CallV]
  have e : setLoc loc ⟨σ.length, t, w⟩ cs = loc := setLoc_self hH
  rw [setC_own, setC_own, e] at h
  refine ⟨f, [], .val v, _, σ, setLoc loc ⟨σ.length, t, w⟩ cs', rfl, ?_, rfl, rfl, hk⟩
  rw [ha]
  simpa using h
@[simp] theorem opP_makeFunc {C : Cfg} {dst : Option Nat} {ty : TypeId} {k : St → Prop} {st : St} {f : Nat} {captured : Array Operand} : opP C dst (.makeFunc (.func f) #[] captured) ty k st = match onesOf (captured.toList.map (oper C st.env)) with
    | some caps => k (put st dst (.one (.func f caps)))
    | none => False := by
  have e : opP C dst (.makeFunc (.func f) #[] captured) ty k st = opV C ⟨dst, .makeFunc (.func f) #[] captured, ty, "", #[], none⟩ k st := rfl
  rw [e]
  simp only [opV, opR]
  cases h : onesOf (captured.toList.map (oper C st.env)) with
  | none => simp
  | some caps => simp
structure CX (σ : List Frm) (pc pn pf ps : Pl) (n : Int) : Prop where
  has : Has σ pc
  num : cellsAt σ pn = some [.int .i64 n]
  fn : cellsAt σ pf = some [.func 171 [pn.cell, pc.cell]]
  self : cellsAt σ ps = some [.func 165 [pf.cell, ps.cell]]
  an : pn.apart pc
  af : pf.apart pc
  ap : ps.apart pc
theorem CX.app {σ : List Frm} {pc pn pf ps : Pl} {n : Int} (h : CX σ pc pn pf ps n) (τ : List Frm) : CX (σ ++ τ) pc pn pf ps n :=
  ⟨h.has.app τ, by rw [cellsAt_append (cellsAt_lt h.num)]; exact h.num, by rw [cellsAt_append (cellsAt_lt h.fn)]; exact h.fn, by rw [cellsAt_append (cellsAt_lt h.self)]; exact h.self, h.an, h.af, h.ap⟩
theorem c171 {σ : List Frm} {pc pn : Pl} {n : Int} (hH : Has σ pc) (hn : cellsAt σ pn = some [.int .i64 n]) (ha : pn.apart pc) (i d c : Int) (hi : 0 ≤ i ∧ i ≤ 9223372036854775807) (hd : 0 ≤ d ∧ d ≤ 4398046511104) (hc : 0 ≤ c ∧ c ≤ 1099511627776) :
    CallsV cfg 171 [.one (.int .i64 i), .one (.int .i64 d), .one pn.cell, .one pc.cell] (setC σ pc [.int .i64 c]) (.val (.tup [])) (setC σ pc [.int .i64 (c + if i - d = n then 1 else 0)]) := by
  have hne : ¬ pc.d = σ.length := by have := hH.lt; omega
  have hne2 : ¬ pn.d = σ.length := by have := cellsAt_lt hn; omega
  refine w171 (by simp) ?_
  rw [s171]
  simp [Pl.cell, readBox_set hn ha, hne, hne2]
  rw [wrap_id (by omega) (by omega)]
  by_cases h : i - d = n
  · simp [h, readBox_setC hH, hne]
    rw [wrap_id (by omega) (by omega), writeBox_setC hH]
    simp [resPV, splice]
  · simp [h, resPV]
def i165a (pc ps : Pl) (t : Tm) (c d : Int) (σ : List Frm) : St → Prop
  | ⟨env, loc, σ', _⟩ => env 1 = .one (.int .i64 d) ∧ env 3 = .one ps.cell ∧ env 4 = .one (.box σ.length 4 0 0) ∧ loc 4 = [encT t] ∧ σ' = setC σ pc [.int .i64 c]
def i165 (pc pf ps : Pl) (l : List Tm) (n c d : Int) (σ : List Frm) (j : Nat) : St → Prop
  | ⟨env, _, σ', _⟩ => env 1 = .one (.int .i64 d) ∧ env 3 = .one ps.cell ∧ env 22 = .one (.slice .no 5 (l.map encT)) ∧ env 23 = .one (.int .i64 l.length) ∧ env 24 = .one (.int .i64 j) ∧
    σ' = setC σ pc [.int .i64 (c + Tm.timess (l.take j) (n + d))]
theorem c165 (t : Tm) : ∀ {σ : List Frm} {pc pn pf ps : Pl} {n : Int}, CX σ pc pn pf ps n → t.ok = true → t.least 9223372036854775807 = true → ∀ (d c : Int), 0 ≤ d → d + t.size ≤ 4398046511104 → 0 ≤ c → c + t.count ≤ 1099511627776 →
    CallsV cfg 165 [.agg (encT t), .one (.int .i64 d), .one pf.cell, .one ps.cell] (setC σ pc [.int .i64 c]) (.val (.tup [])) (setC σ pc [.int .i64 (c + t.times (n + d))]) := by
  induction t using Tm.ind with
  | _ k i s l ih =>
  intro σ pc pn pf ps n hX hok hle d c hd0 hd1 hc0 hc1
  simp at hd1 hc1
  have hlen := Tm.length_le l
  have hsp := s.size_pos
  have hcl := Tm.counts_le l
  obtain ⟨hi0, hpo⟩ := Tm.ok_parts hok
  obtain ⟨hi1, hpl⟩ := Tm.least_parts hle
  have hne : ¬ pc.d = σ.length := by have := hX.has.lt; omega
  have hne2 : ¬ pf.d = σ.length := by have := cellsAt_lt hX.fn; omega
  have hne3 : ¬ ps.d = σ.length := by have := cellsAt_lt hX.self; omega
  refine w165 (by simp) ?_
  rw [s165, Tm.times_mk, bump_eq]
  obtain ⟨hb0, hb1⟩ := bump_le k
  refine cut3 (i165a pc ps (.mk k i s l) (c + if k = 1 ∧ i = n + d then 1 else 0) (d + bump k) σ) ?_ ?_
  · by_cases hk : k = 1
    · subst hk
      simp [Pl.cell, readBox_set hX.fn hX.af, hne, hne2]
      refine opV_atF (f := 171) (caps := [pn.cell, pc.cell]) (ps := [.one (.int .i64 i), .one (.int .i64 d)]) (by simp [Pl.cell]) (c171 (hX.app _).has (hX.app _).num hX.an i d c ⟨hi0, hi1⟩ ⟨hd0, by omega⟩ ⟨hc0, by omega⟩) hX.has.lt (by simp) ?_
      simp
      have e : (if i - d = n then (1 : Int) else 0) = if i = n + d then 1 else 0 := by split <;> split <;> omega
      rw [e]
      exact ⟨by simp [bump], by simp [Pl.cell], by simp, by simp, by simp⟩
    · by_cases hk2 : k = 2
      · subst hk2
        simp
        rw [wrap_id (by omega) (by omega)]
        exact ⟨by simp [bump], by simp, by simp, by simp, by simp⟩
      · simp [hk, hk2]
        exact ⟨by simp [bump, hk2], by simp, by simp, by simp, by simp⟩
  · rintro ⟨env, loc, σ', live⟩ ⟨e1, e3, e4, h4, rfl⟩
    have hcc : 0 ≤ (if k = 1 ∧ i = n + d then (1 : Int) else 0) ∧ (if k = 1 ∧ i = n + d then (1 : Int) else 0) ≤ 1 := by split <;> omega
    generalize hc' : c + (if k = 1 ∧ i = n + d then (1 : Int) else 0) = c'
    have hc2 : 0 ≤ c' ∧ c' + Tm.counts l ≤ 1099511627776 := by omega
    rw [← Int.add_assoc, hc']
    simp [e1, e3, e4, h4]
    refine wpP_range l.length (i165 pc pf ps l n c' (d + bump k) σ) (by omega) ⟨by simp, by simp, by simp, by simp, by simp, by simp [Tm.timess]⟩ ?_ ?_ (hend := ?_)
    · rintro j ⟨env, loc, σ', live⟩ ⟨e1, e3, e22, e23, e24, rfl⟩
      exact ⟨e24, e23⟩
    · rintro j ⟨env, loc, σ', live⟩ hj ⟨e1, e3, e22, e23, e24, rfl⟩
      obtain ⟨x, hx, hdr, hm⟩ := drop_cons hj
      have h1 := Tm.sizes_mem hm
      have ht := Tm.timess_take (n + (d + bump k)) hx
      have hb1 := Tm.timess_le (l.take j) (n + (d + bump k))
      have hb2 := Tm.counts_take hx
      have hb3 := Tm.counts_take_le l (j + 1)
      simp only [Pl.cell] at e3
      simp [e1, e3, e22, e23, e24, hx, readBox_set hX.self hX.ap, hne, hne3]
      refine opV_atF (f := 165) (caps := [pf.cell, ps.cell]) (ps := [.agg (encT x), .one (.int .i64 (d + bump k))]) (by simp [Pl.cell]) (ih x hm (hX.app _) (hpo x hm) (hpl x hm) (d + bump k) (c' + Tm.timess (l.take j) (n + (d + bump k))) (by omega) (by omega) (by omega) (by omega)) hX.has.lt (by simp) ?_
      simp [e1, e3, e22, e23, e24]
      exact ⟨by simp, by simp [Pl.cell], by simp, by simp, by simp, by rw [ht, Int.add_assoc]⟩
    · rintro ⟨env, loc, σ', live⟩ ⟨e1, e3, e22, e23, e24, rfl⟩
      rw [List.take_length]
      simp [resPV, Int.add_assoc]
theorem c156 {σ : List Frm} {pc pn : Pl} {n : Int} (hH : Has σ pc) (hn : cellsAt σ pn = some [.int .i64 n]) (ha : pn.apart pc) (t : Tm) (hsz : t.size ≤ 1099511627776) (hok : t.ok = true) (hle : t.least 9223372036854775807 = true) :
    CallsV cfg 156 [.agg (encT t), .one (.func 171 [pn.cell, pc.cell])] (setC σ pc [.int .i64 0]) (.val (.tup [])) (setC σ pc [.int .i64 (t.times n)]) := by
  have hne : ¬ pc.d = σ.length := by have := hH.lt; omega
  have hcz := t.count_le
  refine w156 (by simp) ?_
  rw [s156]
  simp [onesOf]
  refine opV_atF (f := 165) (caps := [(⟨σ.length, 3, 0⟩ : Pl).cell, (⟨σ.length, 4, 0⟩ : Pl).cell]) (ps := [.agg (encT t), .one (.int .i64 0)]) (by simp [Pl.cell])
    (c165 t (n := n) (pn := pn) ⟨hH.app _, by rw [cellsAt_append (cellsAt_lt hn)]; exact hn, by simp [cellsAt, Pl.cell], by simp [cellsAt, Pl.cell], ha, .inl (fun h => hne h.symm), .inl (fun h => hne h.symm)⟩ hok hle 0 0 (by omega) (by omega) (by omega) (by omega)) hH.lt (by simp) ?_
  simp [resPV]
theorem c168 (t : Tm) (hsz : t.size ≤ 1099511627776) (hok : t.ok = true) (hle : t.least 9223372036854775807 = true) (n : Int) (σ : List Frm) : CallsV cfg 168 [.agg (encT t), .one (.int .i64 n)] σ (.val (.one (.int .i64 (t.times n)))) σ := by
  refine w168 (by simp) ?_
  rw [s168]
  simp [onesOf]
  refine opV_own2 (t := 5) (w := 0) (c156 (pn := ⟨σ.length, 3, 0⟩) (n := n) (Has.own (by simp)) (by simp [cellsAt]) (.inr (by simp)) t hsz hok hle) (by simp) (by simp [Pl.cell]) ?_
  simp
end Go.Proofs.YtnpgbkldpdogjaaGreatDoor.V

set_option maxRecDepth 100000
namespace Go.Proofs.YtnpgbkldpdogjaaGreatDoor.V
open Go Go.Proofs
theorem opV_callF {C : Cfg} {K : St → Prop} {st : St} {dst : Option Nat} {ty : TypeId} {f : Nat} {caps : List Cell} {x : Operand} {xs : Array Operand} {ts : Array TypeId} {p : String} {af : Array Edge} {g : Option (Nat × Bool)} {v : PV} {ps : List PV} (ho : oper C st.env x = .one (.func f caps))
    (h : CallsV C f (ps ++ caps.map fun c => .one (erC c)) (st.σ ++ [st.loc]) (.val v) (st.σ ++ [st.loc])) (ha : argsT C st.env ts.toList xs.toList = ps) (hk : K (put st dst v)) : opV C ⟨dst, .call ⟨.value x, xs, ts⟩, ty, p, af, g⟩ K st := by
  simp only [opV, CallV]
  refine ⟨f, caps, .val v, _, st.σ, st.loc, ho, ?_, rfl, rfl, hk⟩
  rw [ha]
  exact h
theorem stepD_callF {C : Cfg} {W : Nat → Nat → Nat → Bool} {vs : Nat → Nat} {fr : Bool} {K : St → Prop} {st : St} {dst : Option Nat} {ty : TypeId} {f : Nat} {caps : List Cell} {x : Operand} {xs : Array Operand} {ts : Array TypeId} {p : String} {af : Array Edge} {g : Option (Nat × Bool)} {v : PV} {ps : List PV} (ho : oper C st.env x = .one (.func f caps))
    (h : CallsV C f (ps ++ caps.map fun c => .one (erC c)) (st.σ ++ [st.loc]) (.val v) (st.σ ++ [st.loc])) (ha : argsT C st.env ts.toList xs.toList = ps) (hk : K (put st dst v)) : stepD C W vs fr ⟨dst, .call ⟨.value x, xs, ts⟩, ty, p, af, g⟩ K st := by
  simp only [stepD]
  exact opV_callF ho h ha ⟨fun _ => ⟨by simp, fun d t v _ => by simp [readBox]⟩, hk⟩
end Go.Proofs.YtnpgbkldpdogjaaGreatDoor.V

set_option maxRecDepth 100000
namespace Go.Proofs.YtnpgbkldpdogjaaGreatDoor.V
open Go Go.Proofs
def encB (r : Bool × Tm × Fm × Bool) : PV := .tup [.one (.bool r.1), .agg (encT r.2.1), .agg (encF r.2.2.1), .one (.bool r.2.2.2)]
theorem c163 (f : Fm) (hsz : f.size ≤ 549755813888) (hok : f.ok = true) (hle : f.least 9223372036854775807 = true) (σ : List Frm) : CallsV cfg 163 [.agg (encF f)] σ (.val (encB f.bound)) σ := by
  obtain ⟨k, t, m, l⟩ := f
  refine w163 (by simp [encB]) ?_
  have hno : k ≠ 4 → k ≠ 5 → wpP cfg s163 (QEndP cfg [.tmp 2, .cell 3 42, .cell 4 34, .tmp 5] σ (.val (encB (Fm.mk k t m l).bound))) ⟨initEnv [.agg (encF (.mk k t m l))], fun _ => [], σ, ⟨fun _ => false, 0⟩⟩ := by
    intro h4 h5
    rw [bound_no h4 h5, s163]
    simp [h4]
    refine opV_call (c167 false _) (by simp [h4]) ?_
    have h5' : (k == 5) = false := by simpa using h5
    simp [h5, h5', bne]
    simp [encB, Tm.zeroT, Fm.zeroF, Ty.zero, resPV]
  rcases Fm.shape hok with ⟨rfl, rfl⟩ | ⟨hk, y, x, rfl, hy, hx⟩ | ⟨hk, ht, x, rfl, hx⟩
  · exact hno (by omega) (by omega)
  · exact hno (by omega) (by omega)
  by_cases hk2 : k = 4 ∨ k = 5
  rotate_left
  · exact hno (by omega) (by omega)
  obtain ⟨all, j, hkj⟩ : ∃ (all : Bool) (j : Int), (k = 4 ∧ all = true ∧ j = 3) ∨ (k = 5 ∧ all = false ∧ j = 2) := by
    rcases hk2 with rfl | rfl
    · exact ⟨true, 3, .inl ⟨rfl, rfl, rfl⟩⟩
    · exact ⟨false, 2, .inr ⟨rfl, rfl, rfl⟩⟩
  have e1 : (k == 4) = all := by rcases hkj with ⟨rfl, rfl, rfl⟩ | ⟨rfl, rfl, rfl⟩ <;> simp
  have e2 : (if all = true then (4 : Int) else 5) = k := by rcases hkj with ⟨rfl, rfl, rfl⟩ | ⟨rfl, rfl, rfl⟩ <;> simp
  have e3 : (if all = true then (3 : Int) else 2) = j := by rcases hkj with ⟨rfl, rfl, rfl⟩ | ⟨rfl, rfl, rfl⟩ <;> simp
  have hj : j = 2 ∨ j = 3 := by omega
  rw [bound_q hkj, s163]
  clear hno
  simp at hsz
  obtain ⟨hpl, hql⟩ := Fm.least_parts hle
  have hxl := hql x (by simp)
  simp [e1]
  refine opV_call (c167 all _) (by simp) ?_
  rw [e2, e3]
  by_cases htk : t.kind = 1
  rotate_left
  · simp [htk, bne]
    simp [encB, Tm.zeroT, Fm.zeroF, Ty.zero, resPV]
  obtain ⟨k2, t2, m2, l2⟩ := x
  by_cases hk2 : k2 = j
  rotate_left
  · have hk2' : (k2 == j) = false := by simpa using hk2
    simp [htk, hk2, hk2', bne, Fm.kind]
    simp [encB, Tm.zeroT, Fm.zeroF, Ty.zero, resPV]
  subst hk2
  obtain ⟨y, z, rfl, hy, hz⟩ : ∃ y z, l2 = [y, z] ∧ y.ok = true ∧ z.ok = true := by
    rcases Fm.shape hx with ⟨rfl, rfl⟩ | ⟨hk, y, x, rfl, hy, hx⟩ | ⟨hk, ht, x, rfl, hx⟩
    · omega
    · exact ⟨y, x, rfl, hy, hx⟩
    · omega
  obtain ⟨k3, t3, m3, l3⟩ := y
  simp [htk, Fm.kid, Fm.kids, Fm.kind]
  by_cases hk3 : k3 = 1
  rotate_left
  · have hk3' : (k3 == 1) = false := by simpa using hk3
    simp [hk3, hk3', bne]
    simp [encB, Tm.zeroT, Fm.zeroF, Ty.zero, resPV]
  subst hk3
  obtain ⟨a, b, rfl, rfl, ha, hb⟩ := Fm.shape1 hy
  obtain ⟨k4, i4, t4, l4⟩ := a
  simp [Fm.tms]
  refine wpP_draw (fun _ _ _ => false) ?_
  by_cases hk4 : k4 = 3
  rotate_left
  · have hk4' : (k4 == 3) = false := by simpa using hk4
    simp [hk4, hk4', bne]
    simp [encB, Tm.zeroT, Fm.zeroF, Ty.zero, resPV]
  subst hk4
  obtain ⟨p, q, rfl, hp, hq⟩ := Tm.shape3 ha
  obtain ⟨hxm, hxk⟩ := Fm.least_parts hxl
  obtain ⟨hym, _⟩ := Fm.least_parts (hxk _ (List.mem_cons_self ..))
  have hal := hym _ (List.mem_cons_self ..)
  obtain ⟨_, hkl⟩ := Tm.least_parts hal
  have hql2 := hkl q (by simp)
  simp at hsz
  simp [Tm.kid, Tm.kids]
  refine stepD_call (c168 q (by omega) hq hql2 0 _) (by simp) ?_
  by_cases hc : 0 < q.times 0
  · simp [hc]
    simp [encB, Tm.zeroT, Fm.zeroF, Ty.zero, resPV]
  simp [hc]
  refine stepD_call (c161 0 _) (by simp) ?_
  simp
  refine stepD_call (c170 (.var 0) q _) (by simp) ?_
  simp
  refine stepD_call (c169 (.mk 1 t3 [.mk 3 i4 t4 [p, q], b] []) (less (.var 0) q) (by simp; omega) _) (by simp) ?_
  cases hs : (Fm.mk 1 t3 [.mk 3 i4 t4 [p, q], b] []).same (less (.var 0) q) with
  | false =>
    simp [encB, Tm.zeroT, Fm.zeroF, Ty.zero, resPV]
  | true =>
    simp
    refine wpP_draw (fun _ t _ => decide (t = 3)) ?_
    simp [encB, resPV]
end Go.Proofs.YtnpgbkldpdogjaaGreatDoor.V

set_option maxRecDepth 100000
namespace Go.Proofs.YtnpgbkldpdogjaaGreatDoor.V
open Go Go.Proofs
def uand (a b : Int) : Int := IntKind.u8.wrap (BitVec.ofInt 8 a &&& BitVec.ofInt 8 b).toNat
def uor (a b : Int) : Int := IntKind.u8.wrap (BitVec.ofInt 8 a ||| BitVec.ofInt 8 b).toNat
@[simp] theorem intC_uand (a b : Int) : intC .and .u8 a b = some (.int .u8 (uand a b)) := rfl
@[simp] theorem intC_uor (a b : Int) : intC .or .u8 a b = some (.int .u8 (uor a b)) := rfl
theorem uand_n (x y : Cls) : uand x.n y.n = Cls.n ⟨x.c && y.c, x.q && y.q, x.d && y.d⟩ := by
  obtain ⟨a, b, c⟩ := x
  obtain ⟨d, e, f⟩ := y
  cases a <;> cases b <;> cases c <;> cases d <;> cases e <;> cases f <;> rfl
theorem uor_n (x y : Cls) : uor x.n y.n = Cls.n ⟨x.c || y.c, x.q || y.q, x.d || y.d⟩ := by
  obtain ⟨a, b, c⟩ := x
  obtain ⟨d, e, f⟩ := y
  cases a <;> cases b <;> cases c <;> cases d <;> cases e <;> cases f <;> rfl
theorem uand6 (x : Cls) : uand x.n 6 = Cls.n ⟨false, x.q, x.d⟩ := by have := uand_n x ⟨false, true, true⟩; simpa [Cls.n] using this
theorem uand1 (x : Cls) : uand x.n 1 = Cls.n ⟨x.c, false, false⟩ := by have := uand_n x ⟨true, false, false⟩; simpa [Cls.n] using this
theorem uand4 (x : Cls) : uand x.n 4 = Cls.n ⟨false, false, x.d⟩ := by have := uand_n x ⟨false, false, true⟩; simpa [Cls.n] using this
theorem uor1 (x : Cls) : uor x.n 1 = Cls.n ⟨true, x.q, x.d⟩ := by have := uor_n x ⟨true, false, false⟩; simpa [Cls.n] using this
theorem bound_body {k : Int} {t : Ty} {m : List Tm} {x : Fm} (hx : x.ok = true) (h : (Fm.mk k t m [x]).bound.2.2.2 = true) :
    ∃ y z t2 m2 k2, x = .mk k2 t2 m2 [y, z] ∧ y.ok = true ∧ z.ok = true ∧ (Fm.mk k t m [x]).bound.2.2.1 = z := by
  by_cases h4 : k = 4 ∨ k = 5
  rotate_left
  · rw [bound_no (by omega) (by omega)] at h; cases h
  obtain ⟨all, j, hkj⟩ : ∃ (all : Bool) (j : Int), (k = 4 ∧ all = true ∧ j = 3) ∨ (k = 5 ∧ all = false ∧ j = 2) := by
    rcases h4 with rfl | rfl
    · exact ⟨true, 3, .inl ⟨rfl, rfl, rfl⟩⟩
    · exact ⟨false, 2, .inr ⟨rfl, rfl, rfl⟩⟩
  rw [bound_q hkj] at h ⊢
  split at h
  · cases h
  rename_i h1
  split at h
  · cases h
  rename_i h2
  rw [if_neg h1, if_neg h2]
  obtain ⟨k2, t2, m2, l2⟩ := x
  have hk2 : k2 = j := Decidable.byContradiction fun hn => h1 (.inr (.inl hn))
  rcases Fm.shape hx with ⟨rfl, rfl⟩ | ⟨hk, y, x, rfl, hy, hz⟩ | ⟨hk, ht, x, rfl, hx⟩
  · omega
  · exact ⟨y, x, t2, m2, k2, rfl, hy, hz, by simp [Fm.kid, Fm.kids]⟩
  · omega
theorem c146 (N : Nat) : ∀ f : Fm, f.size ≤ N → f.size ≤ 549755813888 → f.ok = true → f.least 9223372036854775807 = true → ∀ (σ : List Frm), CallsV cfg 146 [.agg (encF f)] σ (.val (.one (.int .u8 f.cls.n))) σ := by
  induction N with
  | zero => intro f h; have := f.size_pos; omega
  | succ N ih =>
  rintro ⟨k, t, m, l⟩ hN hsz hok hle σ
  refine w146 (by simp) ?_
  rw [s146]
  obtain ⟨hml, hll⟩ := Fm.least_parts hle
  rcases Fm.shape hok with ⟨rfl, rfl⟩ | ⟨hk, y, x, rfl, hy, hx⟩ | ⟨hk, ht, x, rfl, hx⟩
  · rw [cls_eq]
    simp [Cls.n]
  · rw [cls_two hk]
    have hyl := hll y (by simp)
    have hxl := hll x (by simp)
    simp at hN hsz
    have h2 : ¬ k = 1 := by omega
    simp [wrap_id, h2]
    refine opV_call (ih x (by omega) (by omega) hx hxl _) (by simp) ?_
    rcases hk with rfl | rfl
    · simp
      refine opV_call (ih y (by omega) (by omega) hy hyl _) (by simp) ?_
      simp [uand_n, uand6, uor_n, uand1]
    · simp
      refine opV_call (ih y (by omega) (by omega) hy hyl _) (by simp) ?_
      simp [uand_n, uand6, uor_n, uand1]
  · rw [cls_q hk]
    generalize hc5 : (if k = 5 then true else x.cls.c) = c5
    have hxl := hll x (by simp)
    have hb := c163 (.mk k t m [x]) hsz hok hle
    simp at hN hsz
    have hbb := bound_body (k := k) (t := t) (m := m) hx
    generalize hbd : (Fm.mk k t m [x]).bound = B at hb hbb
    have h1 : ¬ k = 1 := by omega
    have h2 : ¬ k = 2 := by omega
    have h3 : ¬ k = 3 := by omega
    simp [wrap_id, h1, h2, h3]
    refine opV_call (ih x (by omega) (by omega) hx hxl _) (by simp) ?_
    have fin : B.2.2.2 = true → ∃ y z t2 m2 k2, x = .mk k2 t2 m2 [y, z] ∧ B.2.2.1 = z ∧ ∀ (σ : List Frm), CallsV cfg 146 [.agg (encF z)] σ (.val (.one (.int .u8 z.cls.n))) σ := by
      intro hB
      obtain ⟨y, z, t2, m2, k2, rfl, hy, hz, he⟩ := hbb hB
      obtain ⟨_, hxk⟩ := Fm.least_parts hxl
      simp at hN hsz
      exact ⟨y, z, t2, m2, k2, rfl, he, ih z (by omega) (by omega) hz (hxk z (by simp))⟩
    by_cases h5 : k = 5
    · subst h5
      simp at hc5
      simp [uor1, uand1]
      refine opV_call (hb _) (by simp) ?_
      simp [encB]
      cases hB : B.2.2.2 with
      | false => simp [← hc5]
      | true =>
        obtain ⟨y, z, t2, m2, k2, rfl, he, hz⟩ := fin hB
        simp [he]
        refine opV_call (hz _) (by simp) ?_
        simp [uand4, uor_n, ← hc5, Fm.kids]
    · have h5' : (k == 5) = false := by simpa using h5
      rw [if_neg h5] at hc5
      simp [h1, h2, h3, h5, h5', uand1]
      refine opV_call (hb _) (by simp) ?_
      simp [encB]
      cases hB : B.2.2.2 with
      | false => simp [← hc5]
      | true =>
        obtain ⟨y, z, t2, m2, k2, rfl, he, hz⟩ := fin hB
        simp [he]
        refine opV_call (hz _) (by simp) ?_
        simp [uand4, uor_n, ← hc5, Fm.kids]
theorem c146' (f : Fm) (hsz : f.size ≤ 549755813888) (hok : f.ok = true) (hle : f.least 9223372036854775807 = true) (σ : List Frm) : CallsV cfg 146 [.agg (encF f)] σ (.val (.one (.int .u8 f.cls.n))) σ := c146 f.size f (Nat.le_refl _) hsz hok hle σ
end Go.Proofs.YtnpgbkldpdogjaaGreatDoor.V

set_option maxRecDepth 100000
namespace Go.Proofs.YtnpgbkldpdogjaaGreatDoor.V
open Go Go.Proofs
theorem uand1' (x : Cls) : uand x.n 1 = if x.c = true then 1 else 0 := by
  obtain ⟨a, b, c⟩ := x
  cases a <;> cases b <;> cases c <;> rfl
theorem c122 (f : Fm) (hsz : f.size ≤ 549755813888) (hle : f.least 9223372036854775807 = true) (b : Int) (σ : List Frm) : CallsV cfg 122 [.agg (encF f), .one (.int .u8 b)] σ (.val (.tup [.one (.bool (if f.check = 0 then (uand f.cls.n b != 0) else false)), .one (.int .i64 f.check)])) σ := by
  refine w122 (by simp) ?_
  rw [s122]
  simp
  refine opV_call (c36 f (by omega) _) (by simp) ?_
  by_cases hc : f.check = 0
  rotate_left
  · have hc' : (f.check == 0) = false := by simpa using hc
    simp [hc, hc', bne]
  obtain ⟨hok, _⟩ := Fm.check_ok2 hc
  simp [hc]
  refine opV_call (c146' f hsz hok hle _) (by simp) ?_
  simp
theorem c89 (f : Fm) (hsz : f.size ≤ 549755813888) (hle : f.least 9223372036854775807 = true) (σ : List Frm) : CallsV cfg 89 [.agg (encF f)] σ (.val (.tup [.one (.bool (hasOf f)), .one (.int .i64 f.check)])) σ := by
  refine w89 (by simp) ?_
  rw [s89]
  simp
  refine opV_call (c122 f hsz hle 1 _) (by simp) ?_
  unfold hasOf
  by_cases hc : f.check = 0
  · have hh := cls_has f (Fm.check_ok2 hc).1
    cases hf : f.has with
    | false => rw [hf] at hh; simp [hc, uand1', hh]
    | true => rw [hf] at hh; simp [hc, uand1', hh]
  · simp [hc]
@[simp] theorem binF_neq4 (a b : Bool) : binF cfg .neq 4 (.one (.bool a)) (.one (.bool b)) = some (.one (.bool (!(a == b)))) := by simp [binF]
@[simp] theorem binF_eql4 (a b : Bool) : binF cfg .eql 4 (.one (.bool a)) (.one (.bool b)) = some (.one (.bool (a == b))) := by simp [binF]
theorem hasOf_eq {f : Fm} (h : f.check = 0) : hasOf f = f.has := by simp [hasOf, h]
end Go.Proofs.YtnpgbkldpdogjaaGreatDoor.V

set_option maxRecDepth 100000
namespace Go.Proofs.YtnpgbkldpdogjaaGreatDoor.V
open Go Go.Proofs
mutual
def Tm.foldV (S : Int → Int → List Cell → List Cell) : Tm → Int → List Cell → List Cell
  | .mk k i _ l, d, c => Tm.foldVs S l (if k = 2 then d + 1 else d) (if k = 1 then S i d c else c)
def Tm.foldVs (S : Int → Int → List Cell → List Cell) : List Tm → Int → List Cell → List Cell
  | [], _, c => c
  | x :: l, d, c => Tm.foldVs S l d (x.foldV S d c)
end
theorem Tm.foldVs_take {S : Int → Int → List Cell → List Cell} {l : List Tm} {j : Nat} {x : Tm} (d : Int) (h : l[j]? = some x) : ∀ c, Tm.foldVs S (l.take (j + 1)) d c = x.foldV S d (Tm.foldVs S (l.take j) d c) := by
  induction l generalizing j with
  | nil => simp at h
  | cons y l ih =>
    intro c
    cases j with
    | zero => simp at h; subst h; simp [Tm.foldVs]
    | succ j =>
      have := ih (j := j) (by simpa using h) (y.foldV S d c)
      simp only [List.take_succ_cons, Tm.foldVs, this]
structure EX (σ : List Frm) (pc pf ps : Pl) (f : Nat) (caps : List Cell) : Prop where
  has : Has σ pc
  fn : cellsAt σ pf = some [.func f caps]
  self : cellsAt σ ps = some [.func 165 [pf.cell, ps.cell]]
  af : pf.apart pc
  ap : ps.apart pc
theorem EX.app {σ : List Frm} {pc pf ps : Pl} {f : Nat} {caps : List Cell} (h : EX σ pc pf ps f caps) (τ : List Frm) : EX (σ ++ τ) pc pf ps f caps :=
  ⟨h.has.app τ, by rw [cellsAt_append (cellsAt_lt h.fn)]; exact h.fn, by rw [cellsAt_append (cellsAt_lt h.self)]; exact h.self, h.af, h.ap⟩
def Does (f : Nat) (caps : List Cell) (pc : Pl) (S : Int → Int → List Cell → List Cell) (I : List Cell → Prop) (σ : List Frm) : Prop :=
  ∀ τ i d c, 0 ≤ i → i ≤ 9223372036854775807 → 0 ≤ d → d ≤ 4398046511104 → I c →
    CallsV cfg f ([.one (.int .i64 i), .one (.int .i64 d)] ++ caps.map fun c => .one (erC c)) (setC (σ ++ τ) pc c) (.val (.tup [])) (setC (σ ++ τ) pc (S i d c)) ∧ I (S i d c)
theorem Does.app {f : Nat} {caps : List Cell} {pc : Pl} {S : Int → Int → List Cell → List Cell} {I : List Cell → Prop} {σ : List Frm} (h : Does f caps pc S I σ) (ρ : List Frm) : Does f caps pc S I (σ ++ ρ) := fun τ i d c h1 h2 h3 h4 h5 => by
  rw [List.append_assoc]; exact h (ρ ++ τ) i d c h1 h2 h3 h4 h5
def i172ga (pc ps : Pl) (t : Tm) (c : List Cell) (d : Int) (σ : List Frm) : St → Prop
  | ⟨env, loc, σ', _⟩ => env 1 = .one (.int .i64 d) ∧ env 3 = .one ps.cell ∧ env 4 = .one (.box σ.length 4 0 0) ∧ loc 4 = [encT t] ∧ σ' = setC σ pc c
def i165g (S : Int → Int → List Cell → List Cell) (I : List Cell → Prop) (pc pf ps : Pl) (l : List Tm) (c : List Cell) (d : Int) (σ : List Frm) (j : Nat) : St → Prop
  | ⟨env, _, σ', _⟩ => env 1 = .one (.int .i64 d) ∧ env 3 = .one ps.cell ∧ env 22 = .one (.slice .no 5 (l.map encT)) ∧ env 23 = .one (.int .i64 l.length) ∧ env 24 = .one (.int .i64 j) ∧
    σ' = setC σ pc (Tm.foldVs S (l.take j) d c) ∧ I (Tm.foldVs S (l.take j) d c)
theorem c165g (S : Int → Int → List Cell → List Cell) (I : List Cell → Prop) {pc pf ps : Pl} {f : Nat} {caps : List Cell} (t : Tm) : ∀ {σ : List Frm}, EX σ pc pf ps f caps → Does f caps pc S I σ → t.ok = true → t.least 9223372036854775807 = true → ∀ (d : Int) (c : List Cell), 0 ≤ d → d + t.size ≤ 4398046511104 → I c →
    CallsV cfg 165 [.agg (encT t), .one (.int .i64 d), .one pf.cell, .one ps.cell] (setC σ pc c) (.val (.tup [])) (setC σ pc (t.foldV S d c)) ∧ I (t.foldV S d c) := by
  induction t using Tm.ind with
  | _ k i s l ih =>
  intro σ hX hS hok hle d c hd0 hd1 hI
  simp at hd1
  have hlen := Tm.length_le l
  have hsp := s.size_pos
  obtain ⟨hi0, hpo⟩ := Tm.ok_parts hok
  obtain ⟨hi1, hpl⟩ := Tm.least_parts hle
  have hne : ¬ pc.d = σ.length := by have := hX.has.lt; omega
  have hne2 : ¬ pf.d = σ.length := by have := cellsAt_lt hX.fn; omega
  have hne3 : ¬ ps.d = σ.length := by have := cellsAt_lt hX.self; omega
  obtain ⟨hb0, hb1⟩ := bump_le k
  have hone := hS [] i d c hi0 hi1 hd0 (by omega) hI
  have hI2 : I (if k = 1 then S i d c else c) := by split; exact hone.2; exact hI
  have hall : ∀ (m : List Tm), (∀ x ∈ m, x ∈ l) → ∀ c, I c → I (Tm.foldVs S m (d + bump k) c) := by
    intro m
    induction m with
    | nil => intro _ c hc; simpa [Tm.foldVs] using hc
    | cons x m ihm =>
      intro hm c hc
      have hx := hm x (by simp)
      have := Tm.sizes_mem hx
      rw [Tm.foldVs]
      exact ihm (fun y hy => hm y (by simp [hy])) _ (ih x hx hX hS (hpo x hx) (hpl x hx) (d + bump k) c (by omega) (by omega) hc).2
  have hfin : I ((Tm.mk k i s l).foldV S d c) := by
    rw [Tm.foldV, bump_eq]
    exact hall l (fun _ h => h) _ hI2
  refine ⟨?_, hfin⟩
  refine w165 (by simp) ?_
  rw [s165, Tm.foldV, bump_eq]
  generalize hc' : (if k = 1 then S i d c else c) = c' at hI2
  refine cut3 (i172ga pc ps (.mk k i s l) c' (d + bump k) σ) ?_ ?_
  · by_cases hk : k = 1
    · subst hk
      simp at hc'
      subst hc'
      simp [Pl.cell, readBox_set hX.fn hX.af, hne, hne2]
      refine opV_atF (f := f) (caps := caps) (ps := [.one (.int .i64 i), .one (.int .i64 d)]) (by simp) ((hS [_] i d c hi0 hi1 hd0 (by omega) hI).1) hX.has.lt (by simp) ?_
      simp
      exact ⟨by simp [bump], by simp [Pl.cell], by simp, by simp, by simp⟩
    · rw [if_neg hk] at hc'
      subst hc'
      by_cases hk2 : k = 2
      · subst hk2
        simp
        rw [wrap_id (by omega) (by omega)]
        exact ⟨by simp [bump], by simp, by simp, by simp, by simp⟩
      · simp [hk, hk2]
        exact ⟨by simp [bump, hk2], by simp, by simp, by simp, by simp⟩
  · rintro ⟨env, loc, σ', live⟩ ⟨e1, e3, e4, h4, rfl⟩
    simp [e1, e3, e4, h4]
    refine wpP_range l.length (i165g S I pc pf ps l c' (d + bump k) σ) (by omega) ⟨by simp, by simp, by simp, by simp, by simp, by simp [Tm.foldVs], by simpa [Tm.foldVs] using hI2⟩ ?_ ?_ (hend := ?_)
    · rintro j ⟨env, loc, σ', live⟩ ⟨e1, e3, e22, e23, e24, rfl, _⟩
      exact ⟨e24, e23⟩
    · rintro j ⟨env, loc, σ', live⟩ hj ⟨e1, e3, e22, e23, e24, rfl, hIj⟩
      obtain ⟨x, hx, hdr, hm⟩ := drop_cons hj
      have h1 := Tm.sizes_mem hm
      have ht := Tm.foldVs_take (S := S) (d + bump k) hx c'
      simp only [Pl.cell] at e3
      simp [e1, e3, e22, e23, e24, hx, readBox_set hX.self hX.ap, hne, hne3]
      obtain ⟨q1, q2⟩ := ih x hm (hX.app [_]) (hS.app [_]) (hpo x hm) (hpl x hm) (d + bump k) (Tm.foldVs S (l.take j) (d + bump k) c') (by omega) (by omega) hIj
      refine opV_atF (f := 165) (caps := [pf.cell, ps.cell]) (ps := [.agg (encT x), .one (.int .i64 (d + bump k))]) (by simp [Pl.cell]) q1 hX.has.lt (by simp) ?_
      simp [e1, e3, e22, e23, e24]
      exact ⟨by simp, by simp [Pl.cell], by simp, by simp, by simp, by rw [ht], by rw [ht]; exact q2⟩
    · rintro ⟨env, loc, σ', live⟩ ⟨e1, e3, e22, e23, e24, rfl, _⟩
      rw [List.take_length]
      simp [resPV]
theorem c156g (S : Int → Int → List Cell → List Cell) (I : List Cell → Prop) {σ : List Frm} {pc : Pl} {f : Nat} {caps : List Cell} (hH : Has σ pc) (hS : Does f caps pc S I σ) (t : Tm) (hsz : t.size ≤ 1099511627776) (hok : t.ok = true) (hle : t.least 9223372036854775807 = true) {c : List Cell} (hI : I c) :
    CallsV cfg 156 [.agg (encT t), .one (.func f caps)] (setC σ pc c) (.val (.tup [])) (setC σ pc (t.foldV S 0 c)) := by
  have hne : ¬ pc.d = σ.length := by have := hH.lt; omega
  refine w156 (by simp) ?_
  rw [s156]
  simp [onesOf]
  refine opV_atF (f := 165) (caps := [(⟨σ.length, 3, 0⟩ : Pl).cell, (⟨σ.length, 4, 0⟩ : Pl).cell]) (ps := [.agg (encT t), .one (.int .i64 0)]) (by simp [Pl.cell])
    (c165g S I t (f := f) (caps := caps) ⟨hH.app _, by simp [cellsAt], by simp [cellsAt, Pl.cell], .inl (fun h => hne h.symm), .inl (fun h => hne h.symm)⟩ (hS.app [_]) hok hle 0 c (by omega) (by omega) hI).1 hH.lt (by simp) ?_
  simp [resPV]
def nearS (i _ : Int) : List Cell → List Cell
  | [.bool b] => [.bool (b && decide (i ≤ 536870912))]
  | c => c
def isB (c : List Cell) : Prop := ∃ b, c = [.bool b]
theorem c157 {σ : List Frm} {pc : Pl} (hH : Has σ pc) : Does 157 [pc.cell] pc nearS isB σ := by
  rintro τ i d c hi0 hi1 hd0 hd1 ⟨b, rfl⟩
  refine ⟨?_, ⟨b && decide (i ≤ 536870912), rfl⟩⟩
  have hH' : Has (σ ++ τ) pc := hH.app τ
  have hne : ¬ pc.d = (σ ++ τ).length := by have := hH'.lt; omega
  generalize σ ++ τ = ρ at hH' hne
  refine w157 (by simp) ?_
  rw [s157]
  cases b with
  | true =>
    simp [Pl.cell, readBox_setC hH', hne]
    rw [writeBox_setC hH']
    simp [resPV, splice, nearS]
  | false =>
    simp [Pl.cell, readBox_setC hH', hne]
    rw [writeBox_setC hH']
    simp [resPV, splice, nearS]
theorem near_foldVs {l : List Tm} (h : ∀ x ∈ l, ∀ d b, x.foldV nearS d [.bool b] = [.bool (b && x.least 536870912)]) : ∀ d b, Tm.foldVs nearS l d [.bool b] = [.bool (b && Tm.leasts l 536870912)] := by
  induction l with
  | nil => intro d b; simp [Tm.foldVs, Tm.leasts]
  | cons x l ih =>
    intro d b
    rw [Tm.foldVs, h x (by simp), ih fun y hy => h y (by simp [hy]), Tm.leasts, Bool.and_assoc]
theorem near_foldV (t : Tm) : t.ok = true → ∀ d b, t.foldV nearS d [.bool b] = [.bool (b && t.least 536870912)] := by
  induction t using Tm.ind with
  | _ k i s l ih =>
    intro hok d b
    have hok' := hok
    simp only [Tm.ok_mk, Bool.and_eq_true, Tm.oks_iff] at hok
    rw [Tm.foldV, Tm.least_mk]
    by_cases hk : k = 1
    · rw [if_pos hk]
      show Tm.foldVs nearS l _ [.bool (b && decide (i ≤ 536870912))] = _
      rw [near_foldVs fun x hx => ih x hx (hok.2 x hx), Bool.and_assoc]
    · rw [if_neg hk, near_foldVs fun x hx => ih x hx (hok.2 x hx)]
      have hi : i = 0 := by
        have h := hok.1
        simp only [Tm.head, Bool.and_eq_true, Bool.or_eq_true, beq_iff_eq] at h
        rcases h.1.2 with h | h
        · exact h
        · exact absurd h hk
      subst hi
      simp
theorem near_call (t : Tm) (hsz : t.size ≤ 1099511627776) (hok : t.ok = true) (hle : t.least 9223372036854775807 = true) (σ : List Frm) {loc : Frm} {v : Nat} (hv : 0 < (loc v).length) :
    CallsV cfg 156 [.agg (encT t), .one (.func 157 [(⟨σ.length, v, 0⟩ : Pl).cell])] (setC (σ ++ [loc]) ⟨σ.length, v, 0⟩ [.bool true]) (.val (.tup [])) (setC (σ ++ [loc]) ⟨σ.length, v, 0⟩ [.bool (t.least 536870912)]) := by
  have h := c156g nearS isB (σ := σ ++ [loc]) (pc := ⟨σ.length, v, 0⟩) (Has.own hv) (c157 (Has.own hv)) t hsz hok hle (c := [.bool true]) ⟨true, rfl⟩
  rw [near_foldV t hok] at h
  simpa using h
theorem c137 (t : Tm) (hsz : t.size ≤ 1099511627776) (hok : t.ok = true) (hle : t.least 9223372036854775807 = true) (σ : List Frm) : CallsV cfg 137 [.agg (encT t)] σ (.val (.one (.bool (t.least 536870912)))) σ := by
  refine w137 (by simp) ?_
  rw [s137]
  simp [onesOf]
  refine opV_own2 (t := 3) (w := 0) (near_call t hsz hok hle σ (by simp)) (by simp) (by simp [Pl.cell]) ?_
  simp
theorem c86 (t : Tm) (hsz : t.size ≤ 1099511627776) (σ : List Frm) : CallsV cfg 86 [.agg (encT t)] σ (.val (.tup [.one (.int .i64 (if t.check = 0 then (t.count : Int) else 0)), .one (.int .i64 t.check)])) σ := by
  refine w86 (by simp) ?_
  rw [s86]
  simp
  refine opV_call (c121 t hsz _) (by simp) ?_
  unfold Tm.check
  cases hok : t.ok with
  | false => simp [Tm.nodes, hok]
  | true =>
    by_cases h : t.count ≤ 4096
    · have h' : ¬ ((4096 : Int) < t.count) := by omega
      simp [Tm.nodes, hok, h, h']
    · have h' : ((4096 : Int) < t.count) := by omega
      simp [Tm.nodes, hok, h, h']
theorem c37 (t : Tm) (hsz : t.size ≤ 1099511627776) (σ : List Frm) : CallsV cfg 37 [.agg (encT t)] σ (.val (.one (.int .i64 t.check))) σ := by
  refine w37 (by simp) ?_
  rw [s37]
  simp
  refine opV_call (c86 t hsz _) (by simp) ?_
  simp
end Go.Proofs.YtnpgbkldpdogjaaGreatDoor.V

set_option maxRecDepth 100000
namespace Go.Proofs.YtnpgbkldpdogjaaGreatDoor.V
open Go Go.Proofs
def i108 (a b : Tm) (l m : List Tm) (σ : List Frm) (j : Nat) : St → Prop
  | ⟨env, loc, σ', _⟩ => env 2 = .one (.box σ.length 2 0 0) ∧ env 3 = .one (.box σ.length 3 0 0) ∧ env 37 = .one (.int .i64 l.length) ∧ env 38 = .one (.int .i64 j) ∧
    loc 2 = [encT a] ∧ loc 3 = [encT b] ∧ σ' = σ ∧ Tm.sames l m = Tm.sames (l.drop j) (m.drop j)
theorem c108 (a : Tm) : ∀ (b : Tm), a.size ≤ 1099511627776 → ∀ (σ : List Frm), CallsV cfg 108 [.agg (encT a), .agg (encT b)] σ (.val (.one (.bool (a.same b)))) σ := by
  induction a using Tm.ind with
  | _ k i t l ih =>
  rintro ⟨k', i', t', m⟩ hsz σ
  simp at hsz
  have hlen := Tm.length_le l
  have hsp := t.size_pos
  refine w108 (by simp) ?_
  rw [s108, Tm.same_mk]
  by_cases hk : k = k'
  rotate_left
  · simp [hk]
  subst hk
  by_cases hi : i = i'
  rotate_left
  · simp [hi]
  subst hi
  simp
  refine opV_call (c49 t t' (by omega) _) (by simp) ?_
  cases ht : Ty.same t t' with
  | false => simp
  | true =>
    by_cases hl : l.length = m.length
    rotate_left
    · have : Tm.sames l m = false := by
        cases h : Tm.sames l m with
        | false => rfl
        | true => exact absurd (Tm.sames_length h) hl
      have hl' : ¬ (l.length : Int) = m.length := by omega
      simp [hl', this]
    have hl' : ((l.length : Int) = (m.length : Int)) = True := by simp [hl]
    simp [hl']
    refine wpP_range l.length (i108 (.mk k i t l) (.mk k i t' m) l m σ) (by omega) ⟨by simp, by simp, by simp, by simp, by simp, by simp, rfl, by simp⟩ ?_ ?_ (hend := ?_)
    · rintro j ⟨env, loc, σ', live⟩ ⟨e2, e3, e37, e38, h2, h3, rfl, hs⟩
      exact ⟨e38, e37⟩
    · rintro j ⟨env, loc, σ', live⟩ hj ⟨e2, e3, e37, e38, h2, h3, rfl, hs⟩
      obtain ⟨x, hx, hd, hmx⟩ := drop_cons hj
      obtain ⟨y, hy, hd', _⟩ := drop_cons (hl ▸ hj)
      have := Tm.sizes_mem hmx
      simp [e2, e3, e37, e38]
      refine wpP_draw (fun _ _ _ => false) ?_
      simp [e2, e3, e37, e38, h2, h3, hx, hy]
      refine stepD_call (ih x hmx y (by omega) _) (by simp) ?_
      rw [hd, hd', Tm.sames_cons] at hs
      cases hxy : x.same y with
      | false =>
        rw [hxy] at hs
        simp [hs]
      | true =>
        rw [hxy] at hs
        simp [e2, e3, e37, e38]
        exact ⟨by simp, by simp, by simp, by simp, by simp [h2], by simp [h3], rfl, by simpa using hs⟩
    · rintro ⟨env, loc, σ', live⟩ ⟨e2, e3, e37, e38, h2, h3, rfl, hs⟩
      rw [List.drop_length, hl, List.drop_length] at hs
      simp [hs]
def i68 (l m : List Tm) (σ : List Frm) (j : Nat) : St → Prop
  | ⟨env, loc, σ', _⟩ => env 0 = .one (.slice .no 5 (l.map encT)) ∧ env 1 = .one (.slice .no 5 (m.map encT)) ∧ env 12 = .one (.int .i64 l.length) ∧ env 13 = .one (.int .i64 j) ∧ σ' = σ ∧ Tm.sames l m = Tm.sames (l.drop j) (m.drop j)
theorem c68 (l m : List Tm) (hsz : Tm.sizes l ≤ 1099511627776) (σ : List Frm) : CallsV cfg 68 [.one (.slice .no 5 (l.map encT)), .one (.slice .no 5 (m.map encT))] σ (.val (.one (.bool (Tm.sames l m)))) σ := by
  have hlen := Tm.length_le l
  refine w68 (by simp) ?_
  rw [s68]
  by_cases hl : l.length = m.length
  rotate_left
  · have : Tm.sames l m = false := by
      cases h : Tm.sames l m with
      | false => rfl
      | true => exact absurd (Tm.sames_length h) hl
    have hl' : ((l.length : Int) == (m.length : Int)) = false := by simpa using (by omega : ¬ (l.length : Int) = m.length)
    simp [hl', this, bne]
  have hl' : ((l.length : Int) == (m.length : Int)) = true := by rw [hl]; simp
  simp [hl', bne]
  refine wpP_range l.length (i68 l m σ) (by omega) ⟨by simp, by simp, by simp, by simp, rfl, by simp⟩ ?_ ?_ (hend := ?_)
  · rintro j ⟨env, loc, σ', live⟩ ⟨e0, e1, e12, e13, rfl, hs⟩
    exact ⟨e13, e12⟩
  · rintro j ⟨env, loc, σ', live⟩ hj ⟨e0, e1, e12, e13, rfl, hs⟩
    obtain ⟨x, hx, hd, hmx⟩ := drop_cons hj
    obtain ⟨y, hy, hd', _⟩ := drop_cons (hl ▸ hj)
    have := Tm.sizes_mem hmx
    simp [e0, e1, e12, e13]
    refine wpP_draw (fun _ _ _ => false) ?_
    simp [e0, e1, e12, e13, hx, hy]
    refine stepD_call (c108 x y (by omega) _) (by simp) ?_
    rw [hd, hd', Tm.sames_cons] at hs
    cases hxy : x.same y with
    | false =>
      rw [hxy] at hs
      simp [hs]
    | true =>
      rw [hxy] at hs
      simp [e0, e1, e12, e13]
      exact ⟨by simp, by simp, by simp, by simp, rfl, by simpa using hs⟩
  · rintro ⟨env, loc, σ', live⟩ ⟨e0, e1, e12, e13, rfl, hs⟩
    rw [List.drop_length, hl, List.drop_length] at hs
    simp [hs]
def i21 (a b : Fm) (l m : List Fm) (σ : List Frm) (j : Nat) : St → Prop
  | ⟨env, loc, σ', _⟩ => env 2 = .one (.box σ.length 2 0 0) ∧ env 3 = .one (.box σ.length 3 0 0) ∧ env 38 = .one (.int .i64 l.length) ∧ env 39 = .one (.int .i64 j) ∧
    loc 2 = [encF a] ∧ loc 3 = [encF b] ∧ σ' = σ ∧ Fm.sames l m = Fm.sames (l.drop j) (m.drop j)
theorem c21 (a : Fm) : ∀ (b : Fm), a.size ≤ 1099511627776 → ∀ (σ : List Frm), CallsV cfg 21 [.agg (encF a), .agg (encF b)] σ (.val (.one (.bool (a.same b)))) σ := by
  induction a using Fm.ind with
  | _ k t n l ih =>
  rintro ⟨k', t', n', m⟩ hsz σ
  simp at hsz
  have hlen := Fm.length_le l
  refine w21 (by simp) ?_
  rw [s21, Fm.same_mk]
  by_cases hk : k = k'
  rotate_left
  · simp [hk]
  subst hk
  simp
  refine opV_call (c49 t t' (by omega) _) (by simp) ?_
  cases ht : Ty.same t t' with
  | false => simp
  | true =>
    simp
    refine opV_call (c68 n n' (by omega) _) (by simp) ?_
    cases hn : Tm.sames n n' with
    | false => simp
    | true =>
      by_cases hl : l.length = m.length
      rotate_left
      · have : Fm.sames l m = false := by
          cases h : Fm.sames l m with
          | false => rfl
          | true => exact absurd (Fm.sames_length h) hl
        have hl' : ¬ (l.length : Int) = m.length := by omega
        simp [hl', this]
      have hl' : ((l.length : Int) = (m.length : Int)) = True := by simp [hl]
      simp [hl']
      refine wpP_range l.length (i21 (.mk k t n l) (.mk k t' n' m) l m σ) (by omega) ⟨by simp, by simp, by simp, by simp, by simp, by simp, rfl, by simp⟩ ?_ ?_ (hend := ?_)
      · rintro j ⟨env, loc, σ', live⟩ ⟨e2, e3, e38, e39, h2, h3, rfl, hs⟩
        exact ⟨e39, e38⟩
      · rintro j ⟨env, loc, σ', live⟩ hj ⟨e2, e3, e38, e39, h2, h3, rfl, hs⟩
        obtain ⟨x, hx, hd, hmx⟩ := drop_cons hj
        obtain ⟨y, hy, hd', _⟩ := drop_cons (hl ▸ hj)
        have := Fm.sizes_mem hmx
        simp [e2, e3, e38, e39]
        refine wpP_draw (fun _ _ _ => false) ?_
        simp [e2, e3, e38, e39, h2, h3, hx, hy]
        refine stepD_call (ih x hmx y (by omega) _) (by simp) ?_
        rw [hd, hd', Fm.sames_cons] at hs
        cases hxy : x.same y with
        | false =>
          rw [hxy] at hs
          simp [hs]
        | true =>
          rw [hxy] at hs
          simp [e2, e3, e38, e39]
          exact ⟨by simp, by simp, by simp, by simp, by simp [h2], by simp [h3], rfl, by simpa using hs⟩
      · rintro ⟨env, loc, σ', live⟩ ⟨e2, e3, e38, e39, h2, h3, rfl, hs⟩
        rw [List.drop_length, hl, List.drop_length] at hs
        simp [hs]
end Go.Proofs.YtnpgbkldpdogjaaGreatDoor.V

set_option maxRecDepth 100000
namespace Go.Proofs.YtnpgbkldpdogjaaGreatDoor.V
open Go Go.Proofs
mutual
def Tm.reb (G : Int → Int → Tm) : Tm → Int → Tm
  | .mk k i t l, d => if k = 1 then G i d else .mk k i t (Tm.rebs G l (if k = 2 then d + 1 else d))
def Tm.rebs (G : Int → Int → Tm) : List Tm → Int → List Tm
  | [], _ => []
  | x :: l, d => x.reb G d :: Tm.rebs G l d
end
theorem Tm.rebs_eq (G : Int → Int → Tm) (l : List Tm) (d : Int) : Tm.rebs G l d = l.map fun x => x.reb G d := by
  induction l with
  | nil => rfl
  | cons x l ih => simp only [Tm.rebs, List.map_cons, ih]
theorem Tm.reb_mk (G : Int → Int → Tm) (k i : Int) (t : Ty) (l : List Tm) (d : Int) : (Tm.mk k i t l).reb G d = if k = 1 then G i d else .mk k i t (l.map fun x => x.reb G (if k = 2 then d + 1 else d)) := by rw [Tm.reb, Tm.rebs_eq]
mutual
def Tm.low : Tm → Bool
  | .mk _ i _ l => decide (0 ≤ i) && Tm.lows l
def Tm.lows : List Tm → Bool
  | [] => true
  | x :: l => x.low && Tm.lows l
end
theorem Tm.lows_iff (l : List Tm) : Tm.lows l = true ↔ ∀ x ∈ l, x.low = true := by
  induction l with
  | nil => simp [Tm.lows]
  | cons x l ih => simp [Tm.lows, ih]
theorem Tm.low_parts {k i : Int} {t : Ty} {l : List Tm} (h : (Tm.mk k i t l).low = true) : 0 ≤ i ∧ ∀ x ∈ l, x.low = true := by
  rw [Tm.low] at h
  simpa [Tm.lows_iff] using h
theorem Tm.low_ok (t : Tm) : t.ok = true → t.low = true := by
  induction t using Tm.ind with
  | _ k i s l ih =>
    intro h
    have h2 := Tm.ok_parts h
    rw [Tm.low]
    simp only [Bool.and_eq_true, decide_eq_true_eq, Tm.lows_iff]
    exact ⟨h2.1, fun x hx => ih x hx (h2.2 x hx)⟩
structure RX (σ : List Frm) (pf ps : Pl) (f : Nat) (caps : List Cell) : Prop where
  fn : cellsAt σ pf = some [.func f caps]
  self : cellsAt σ ps = some [.func 166 [pf.cell, ps.cell]]
theorem RX.app {σ : List Frm} {pf ps : Pl} {f : Nat} {caps : List Cell} (h : RX σ pf ps f caps) (τ : List Frm) : RX (σ ++ τ) pf ps f caps :=
  ⟨by rw [cellsAt_append (cellsAt_lt h.fn)]; exact h.fn, by rw [cellsAt_append (cellsAt_lt h.self)]; exact h.self⟩
def Answers (f : Nat) (caps : List Cell) (G : Int → Int → Tm) (m : Int) (σ : List Frm) : Prop :=
  ∀ τ i d, 0 ≤ i → i ≤ m → 0 ≤ d → d ≤ 549755813888 → CallsV cfg f ([.one (.int .i64 i), .one (.int .i64 d)] ++ caps.map fun c => .one (erC c)) (σ ++ τ) (.val (.agg (encT (G i d)))) (σ ++ τ)
theorem Answers.app {f : Nat} {caps : List Cell} {G : Int → Int → Tm} {m : Int} {σ : List Frm} (h : Answers f caps G m σ) (ρ : List Frm) : Answers f caps G m (σ ++ ρ) := fun τ i d h1 h2 h3 h4 => by
  rw [List.append_assoc]; exact h (ρ ++ τ) i d h1 h2 h3 h4
def i166 (G : Int → Int → Tm) (ps : Pl) (k i : Int) (s : Ty) (l : List Tm) (d : Int) (σ : List Frm) (j : Nat) : St → Prop
  | ⟨env, loc, σ', live⟩ => ∃ ow, env 1 = .one (.int .i64 d) ∧ env 3 = .one ps.cell ∧ env 6 = .one (.box σ.length 6 0 0) ∧ env 7 = .one (.box σ.length 7 0 0) ∧ env 32 = .one (.slice .no 5 (l.map encT)) ∧ env 33 = .one (.int .i64 l.length) ∧ env 34 = .one (.int .i64 j) ∧
    loc 6 = [z62] ∧ loc 7 = [.int .i64 k :: .int .i64 i :: (enc s ++ [.slice ow 5 ((l.take j).map fun x => encT (x.reb G d))])] ∧ σ' = σ ∧ okOwn live ow
theorem c166 (G : Int → Int → Tm) {m : Int} {pf ps : Pl} {f : Nat} {caps : List Cell} (t : Tm) : ∀ {σ : List Frm}, RX σ pf ps f caps → Answers f caps G m σ → t.low = true → t.least m = true → ∀ (d : Int), 0 ≤ d → d + t.size ≤ 549755813888 →
    CallsV cfg 166 [.agg (encT t), .one (.int .i64 d), .one pf.cell, .one ps.cell] σ (.val (.agg (encT (t.reb G d)))) σ := by
  induction t using Tm.ind with
  | _ k i s l ih =>
  intro σ hX hS hlo hle d hd0 hd1
  simp at hd1
  have hlen := Tm.length_le l
  have hsp := s.size_pos
  obtain ⟨hi0, hpo⟩ := Tm.low_parts hlo
  obtain ⟨hi1, hpl⟩ := Tm.least_parts hle
  have hne2 : ¬ pf.d = σ.length := by have := cellsAt_lt hX.fn; omega
  have hne3 : ¬ ps.d = σ.length := by have := cellsAt_lt hX.self; omega
  obtain ⟨hb0, hb1⟩ := bump_le k
  refine w166 (by simp) ?_
  rw [s166, Tm.reb_mk, bump_eq]
  by_cases hk : k = 1
  · subst hk
    simp [Pl.cell, readBox_at hX.fn, hne2]
    refine opV_callF (f := f) (caps := caps) (ps := [.one (.int .i64 i), .one (.int .i64 d)]) (by simp) (hS [_] i d hi0 hi1 hd0 (by omega)) (by simp) ?_
    simp
  · rw [if_neg hk]
    simp [hk]
    refine wpP_draw (fun _ _ _ => false) ?_
    simp
    refine stepD_call (c158 s (by omega) _) (by simp) ?_
    have hd' : (if k = 2 then d + 1 else d) = d + bump k := bump_eq k d
    have hw : k = 2 → IntKind.i64.wrap (d + 1) = d + bump k := fun h => by rw [wrap_id (by omega) (by omega), ← hd', if_pos h]
    have hn : k ≠ 2 → d = d + bump k := fun h => by rw [← hd', if_neg h]
    rcases Decidable.em (k = 2) with hk2 | hk2
    all_goals
      simp [hk2]
      refine wpP_range l.length (i166 G ps k i s l (d + bump k) σ) (by omega) ⟨.full, by first | (simpa using hw hk2) | (simpa using hn hk2), by simp, by simp, by simp, by simp, by simp, by simp, by simp [z62], by simp [hk2], rfl, by simp⟩ ?_ ?_ (hend := ?_)
      · rintro j ⟨env, loc, σ', live⟩ ⟨ow, e1, e3, e6, e7, e32, e33, e34, h6, h7, rfl, how⟩
        exact ⟨e34, e33⟩
      · rintro j ⟨env, loc, σ', live⟩ hj ⟨ow, e1, e3, e6, e7, e32, e33, e34, h6, h7, rfl, how⟩
        obtain ⟨x, hx, hdr, hm⟩ := drop_cons hj
        have := Tm.sizes_mem hm
        simp only [Pl.cell] at e3
        simp [e1, e3, e6, e7, e32, e33, e34, hx]
        refine wpP_draw (fun _ _ _ => false) ?_
        simp [e1, e3, e6, e7, h6, h7, readBox_at hX.self, hne3]
        refine stepD_callF (f := 166) (caps := [pf.cell, ps.cell]) (ps := [.agg (encT x), .one (.int .i64 (d + bump k))]) (by simp [Pl.cell]) (ih x hm (hX.app [_]) (hS.app [_]) (hpo x hm) (hpl x hm) (d + bump k) (by omega) (by omega)) (by simp) ?_
        simp [how, e1, e3, e6, e7, h6, h7]
        exact ⟨by omega, by omega, .tip live.nx, by simp, by simp [Pl.cell], by simp, by simp, by simp, by simp, by simp, by simp [h6], by simp [List.take_add_one, hx], rfl, grown_on⟩
      · rintro ⟨env, loc, σ', live⟩ ⟨ow, e1, e3, e6, e7, e32, e33, e34, h6, h7, rfl, how⟩
        simp [e6, e7, h6, h7, z62, hk2]
end Go.Proofs.YtnpgbkldpdogjaaGreatDoor.V
