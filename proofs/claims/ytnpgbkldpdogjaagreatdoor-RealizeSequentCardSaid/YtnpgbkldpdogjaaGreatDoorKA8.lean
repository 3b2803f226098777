/-
Parts of the proof of one law, put together by program: part 8.
-/
import Derived.Test.YtnpgbkldpdogjaaGreatDoorKA7
set_option linter.unusedSimpArgs false
set_option linter.unusedVariables false
set_option maxRecDepth 100000
namespace Go.Proofs.YtnpgbkldpdogjaaGreatDoor.V
open Go Go.Proofs
theorem stepD_atF {C : Cfg} {K : St → Prop} {dst : Option Nat} {ty : TypeId} {vs : Nat → Nat} {fr : Bool} {f : Nat} {x : Operand} {xs : Array Operand} {ts : Array TypeId} {p : String} {af : Array Edge} {g : Option (Nat × Bool)} {v : PV} {ps : List PV} {env : Nat → PV} {loc : Frm} {σ : List Frm} {live : Live} {q : Pl} {cs cs' caps : List Cell}
    (ho : oper C env x = .one (.func f caps)) (h : CallsV C f (ps ++ caps.map fun c => .one (erC c)) (setC (σ ++ [loc]) q cs) (.val v) (setC (σ ++ [loc]) q cs')) (hH : q.d < σ.length) (ha : argsT C env ts.toList xs.toList = ps) (hk : K (put ⟨env, loc, setC σ q cs', live⟩ dst v)) :
    stepD C (atPl q) vs fr ⟨dst, .call ⟨.value x, xs, ts⟩, ty, p, af, g⟩ K ⟨env, loc, setC σ q cs, live⟩ := by
  simp only [stepD]
  refine opV_atF ho h hH ha ⟨fun _ => ⟨by cases dst <;> simp [put], fun d t w hw => ?_⟩, hk⟩
  have := readBox_other (env := (put ⟨env, loc, setC σ q cs', live⟩ dst v).env) (loc := loc) (live := live) (cs := cs') (cs' := cs) (env' := env) (d := d) (t := t) (v := w) hH (by simpa [atPl] using hw)
  cases dst <;> exact this
mutual
def Fm.each (G : Tm → Int → Tm) : Fm → Int → Fm
  | .mk k t m l, d => .mk k t (m.map fun x => G x (if fmQ k = true then d + 1 else d)) (Fm.eachs G l (if fmQ k = true then d + 1 else d))
def Fm.eachs (G : Tm → Int → Tm) : List Fm → Int → List Fm
  | [], _ => []
  | x :: l, d => x.each G d :: Fm.eachs G l d
end
theorem Fm.eachs_eq (G : Tm → Int → Tm) (l : List Fm) (d : Int) : Fm.eachs G l d = l.map fun x => x.each G d := by
  induction l with
  | nil => rfl
  | cons x l ih => simp only [Fm.eachs, List.map_cons, ih]
theorem Fm.each_mk (G : Tm → Int → Tm) (k : Int) (t : Ty) (m : List Tm) (l : List Fm) (d : Int) : (Fm.mk k t m l).each G d = .mk k t (m.map fun x => G x (if fmQ k = true then d + 1 else d)) (l.map fun x => x.each G (if fmQ k = true then d + 1 else d)) := by rw [Fm.each, Fm.eachs_eq]
section
variable {X : Type}
def Tm.run (S : Tm → Int → X → X) (l : List Tm) (d : Int) (x : X) : X := l.foldl (fun x t => S t d x) x
mutual
def Fm.run (S : Tm → Int → X → X) : Fm → Int → X → X
  | .mk k _ m l, d, x => Fm.runs S l (if fmQ k = true then d + 1 else d) (Tm.run S m (if fmQ k = true then d + 1 else d) x)
def Fm.runs (S : Tm → Int → X → X) : List Fm → Int → X → X
  | [], _, x => x
  | f :: l, d, x => Fm.runs S l d (f.run S d x)
end
theorem Fm.run_mk (S : Tm → Int → X → X) (k : Int) (t : Ty) (m : List Tm) (l : List Fm) (d : Int) (x : X) : (Fm.mk k t m l).run S d x = Fm.runs S l (if fmQ k = true then d + 1 else d) (Tm.run S m (if fmQ k = true then d + 1 else d) x) := by rw [Fm.run]
theorem Fm.runs_append (S : Tm → Int → X → X) (a b : List Fm) (d : Int) : ∀ x, Fm.runs S (a ++ b) d x = Fm.runs S b d (Fm.runs S a d x) := by
  induction a with
  | nil => intro x; simp [Fm.runs]
  | cons f a ih => intro x; simp [Fm.runs, ih]
theorem Tm.run_take (S : Tm → Int → X → X) {l : List Tm} {j : Nat} {t : Tm} (h : l[j]? = some t) (d : Int) (x : X) : Tm.run S (l.take (j + 1)) d x = S t d (Tm.run S (l.take j) d x) := by
  rw [List.take_add_one, h]
  simp [Tm.run]
theorem Fm.runs_take (S : Tm → Int → X → X) {l : List Fm} {j : Nat} {t : Fm} (h : l[j]? = some t) (d : Int) (x : X) : Fm.runs S (l.take (j + 1)) d x = t.run S d (Fm.runs S (l.take j) d x) := by
  rw [List.take_add_one, h, Fm.runs_append]
  simp [Fm.runs]
end
mutual
def Fm.allT (Q : Tm → Prop) : Fm → Prop
  | .mk _ _ m l => (∀ x ∈ m, Q x) ∧ Fm.allTs Q l
def Fm.allTs (Q : Tm → Prop) : List Fm → Prop
  | [] => True
  | x :: l => x.allT Q ∧ Fm.allTs Q l
end
theorem Fm.allTs_iff (Q : Tm → Prop) (l : List Fm) : Fm.allTs Q l ↔ ∀ x ∈ l, x.allT Q := by
  induction l with
  | nil => simp [Fm.allTs]
  | cons x l ih => simp [Fm.allTs, ih]
theorem Fm.allT_mk (Q : Tm → Prop) (k : Int) (t : Ty) (m : List Tm) (l : List Fm) : (Fm.mk k t m l).allT Q ↔ (∀ x ∈ m, Q x) ∧ ∀ x ∈ l, x.allT Q := by rw [Fm.allT, Fm.allTs_iff]
theorem fmQ_range (k : Int) : fmQ k = true ↔ 4 ≤ k ∧ k ≤ 7 := by
  simp [fmQ]
  omega
structure Eacher {X : Type} (f : Nat) (caps : List Cell) (q : Pl) (E : X → List Cell) (G : Tm → Int → Tm) (S : Tm → Int → X → X) (Q : Tm → Prop) (I : Nat → X → Prop) (dm : Int) (σ : List Frm) : Prop where
  has : Has σ q
  call : ∀ τ t d x c, Q t → 0 ≤ d → d ≤ dm → I (t.count + c) x → I c (S t d x) ∧
    CallsV cfg f ([.agg (encT t), .one (.int .i64 d)] ++ caps.map fun c => .one (erC c)) (setC (σ ++ τ) q (E x)) (.val (.agg (encT (G t d)))) (setC (σ ++ τ) q (E (S t d x)))
  weak : ∀ c c' x, c' ≤ c → I c x → I c' x
theorem Eacher.app {X : Type} {f : Nat} {caps : List Cell} {q : Pl} {E : X → List Cell} {G : Tm → Int → Tm} {S : Tm → Int → X → X} {Q : Tm → Prop} {I : Nat → X → Prop} {dm : Int} {σ : List Frm} (h : Eacher f caps q E G S Q I dm σ) (ρ : List Frm) : Eacher f caps q E G S Q I dm (σ ++ ρ) :=
  ⟨h.has.app ρ, fun τ t d x c h1 h2 h3 h4 => by rw [List.append_assoc]; exact h.call (ρ ++ τ) t d x c h1 h2 h3 h4, h.weak⟩
def i87a {X : Type} (f : Nat) (caps : List Cell) (q : Pl) (E : X → List Cell) (G : Tm → Int → Tm) (S : Tm → Int → X → X) (I : Nat → X → Prop) (k : Int) (t : Ty) (m : List Tm) (l : List Fm) (d : Int) (x : X) (c : Nat) (σ : List Frm) (j : Nat) : St → Prop
  | ⟨env, loc, σ', live⟩ => ∃ ow, env 1 = .one (.int .i64 d) ∧ env 2 = .one (.func f caps) ∧ env 3 = .one (.box σ.length 3 0 0) ∧ env 6 = .one (.box σ.length 6 0 0) ∧ env 7 = .one (.box σ.length 7 0 0) ∧ env 26 = .one (.slice .no 5 (m.map encT)) ∧ env 27 = .one (.int .i64 m.length) ∧ env 28 = .one (.int .i64 j) ∧
    loc 3 = [encF (.mk k t m l)] ∧ loc 6 = [z29] ∧ loc 7 = [.int .i64 k :: (enc t ++ [.slice ow 5 ((m.take j).map fun y => encT (G y d)), .slice .full 5 []])] ∧ σ' = setC σ q (E (Tm.run S (m.take j) d x)) ∧ okOwn live ow ∧ I (Tm.counts (m.drop j) + (Fm.counts l + c)) (Tm.run S (m.take j) d x)
def i87b {X : Type} (f : Nat) (caps : List Cell) (q : Pl) (E : X → List Cell) (G : Tm → Int → Tm) (S : Tm → Int → X → X) (I : Nat → X → Prop) (k : Int) (t : Ty) (m : List Tm) (l : List Fm) (d : Int) (x : X) (c : Nat) (σ : List Frm) (j : Nat) : St → Prop
  | ⟨env, loc, σ', live⟩ => ∃ o ow, env 1 = .one (.int .i64 d) ∧ env 2 = .one (.func f caps) ∧ env 6 = .one (.box σ.length 6 0 0) ∧ env 7 = .one (.box σ.length 7 0 0) ∧ env 43 = .one (.slice .no 5 (l.map encF)) ∧ env 44 = .one (.int .i64 l.length) ∧ env 45 = .one (.int .i64 j) ∧
    loc 6 = [z29] ∧ loc 7 = [.int .i64 k :: (enc t ++ [.slice o 5 (m.map fun y => encT (G y d)), .slice ow 5 ((l.take j).map fun y => encF (y.each G d))])] ∧ σ' = setC σ q (E (Fm.runs S (l.take j) d x)) ∧ okOwn live ow ∧ I (Fm.counts (l.drop j) + c) (Fm.runs S (l.take j) d x)
def i87c {X : Type} (f : Nat) (caps : List Cell) (q : Pl) (E : X → List Cell) (k : Int) (t : Ty) (m : List Tm) (l : List Fm) (d : Int) (x : X) (σ : List Frm) : St → Prop
  | ⟨env, loc, σ', _⟩ => env 1 = .one (.int .i64 d) ∧ env 2 = .one (.func f caps) ∧ env 3 = .one (.box σ.length 3 0 0) ∧ env 6 = .one (.box σ.length 6 0 0) ∧ env 7 = .one (.box σ.length 7 0 0) ∧
    loc 3 = [encF (.mk k t m l)] ∧ loc 6 = [z29] ∧ loc 7 = [.int .i64 k :: (enc t ++ [.slice .full 5 [], .slice .full 5 []])] ∧ σ' = setC σ q (E x)
theorem c87 {X : Type} {f : Nat} {caps : List Cell} {q : Pl} {E : X → List Cell} {G : Tm → Int → Tm} {S : Tm → Int → X → X} {Q : Tm → Prop} {I : Nat → X → Prop} {dm : Int} (hdm : dm ≤ 1099511627776) (g : Fm) : ∀ {σ : List Frm}, Eacher f caps q E G S Q I dm σ → g.allT Q → ∀ (d : Int) (x : X) (c : Nat), 0 ≤ d → d + g.size ≤ dm → I (g.count + c) x →
    I c (g.run S d x) ∧ CallsV cfg 87 [.agg (encF g), .one (.int .i64 d), .one (.func f caps)] (setC σ q (E x)) (.val (.agg (encF (g.each G d)))) (setC σ q (E (g.run S d x))) := by
  induction g using Fm.ind with
  | _ k t m l ih =>
  intro σ hE hQ d x c hd0 hd1 hI
  simp at hd1 hI
  have hlm := Tm.length_le m
  have hll := Fm.length_le l
  obtain ⟨hQm, hQl⟩ := (Fm.allT_mk Q k t m l).1 hQ
  have hne : ¬ q.d = σ.length := by have := hE.has.lt; omega
  have hne' : ¬ σ.length = q.d := fun h => hne h.symm
  rw [Fm.run_mk, Fm.each_mk]
  have hdd : 0 ≤ (if fmQ k = true then d + 1 else d) ∧ (if fmQ k = true then d + 1 else d) + Tm.sizes m + Fm.sizes l ≤ dm ∧ (if fmQ k = true then d + 1 else d) ≤ dm := by split <;> omega
  have hw : fmQ k = true → IntKind.i64.wrap (d + 1) = d + 1 := fun _ => wrap_id (by omega) (by omega)
  have hI0 : I (Tm.counts m + (Fm.counts l + c)) x := hE.weak _ _ _ (by omega) hI
  -- the invariants, in plain
  have stepT : ∀ (dd : Int), 0 ≤ dd → dd ≤ dm → ∀ j, j ≤ m.length → I (Tm.counts (m.drop j) + (Fm.counts l + c)) (Tm.run S (m.take j) dd x) := by
    intro dd h0 h1 j
    induction j with
    | zero => intro _; simpa [Tm.run] using hI0
    | succ j ihj =>
      intro hj
      obtain ⟨y, hy, hdr, hm⟩ := drop_cons (show j < m.length by omega)
      have h := ihj (by omega)
      rw [hdr, Tm.counts_cons, Nat.add_assoc] at h
      rw [Tm.run_take S hy]
      exact (hE.call [] y dd _ _ (hQm y hm) h0 h1 h).1
  have stepF : ∀ (dd : Int), 0 ≤ dd → dd + Fm.sizes l ≤ dm → ∀ x, I (Fm.counts l + c) x → ∀ j, j ≤ l.length → I (Fm.counts (l.drop j) + c) (Fm.runs S (l.take j) dd x) := by
    intro dd h0 h1 x hx j
    induction j with
    | zero => intro _; simpa [Fm.runs] using hx
    | succ j ihj =>
      intro hj
      obtain ⟨y, hy, hdr, hm⟩ := drop_cons (show j < l.length by omega)
      have hz := Fm.sizes_mem hm
      have h := ihj (by omega)
      rw [hdr, Fm.counts_cons, Nat.add_assoc] at h
      rw [Fm.runs_take S hy]
      exact (ih y hm hE (hQl y hm) dd _ _ h0 (by omega) h).1
  generalize hdv : (if fmQ k = true then d + 1 else d) = dv at hdd
  have hT := stepT dv hdd.1 hdd.2.2 m.length (Nat.le_refl _)
  rw [List.drop_length, List.take_length, Tm.counts_nil, Nat.zero_add] at hT
  have hF := stepF dv hdd.1 (by omega) _ hT l.length (Nat.le_refl _)
  rw [List.drop_length, List.take_length, Fm.counts_nil, Nat.zero_add] at hF
  refine ⟨hF, ?_⟩
  refine w87 (by simp) ?_
  rw [s87]
  refine cut4 (i87c f caps q E k t m l dv x σ) ?_ ?_
  · have hr := fmQ_range k
    by_cases h4 : 4 ≤ k
    · by_cases h7 : k ≤ 7
      · have hk := hr.2 ⟨h4, h7⟩
        have hdv' : d + 1 = dv := by rw [← hdv, if_pos hk]
        have hwd : IntKind.i64.wrap dv = dv := wrap_id (by omega) (by omega)
        simp [h4, h7, hdv', hwd]
        exact ⟨by simp, by simp, by simp, by simp, by simp, by simp, by simp [z29], by simp [splice], rfl⟩
      · have hk : ¬ fmQ k = true := fun h => h7 (hr.1 h).2
        have hdv' : d = dv := by rw [← hdv, if_neg hk]
        simp [h4, h7, hdv']
        exact ⟨by simp, by simp, by simp, by simp, by simp, by simp, by simp [z29], by simp [splice], rfl⟩
    · have hk : ¬ fmQ k = true := fun h => h4 (hr.1 h).1
      have hdv' : d = dv := by rw [← hdv, if_neg hk]
      simp [h4, hdv']
      exact ⟨by simp, by simp, by simp, by simp, by simp, by simp, by simp [z29], by simp [splice], rfl⟩
  · rintro ⟨env, loc, σ', live⟩ ⟨e1, e2, e3, e6, e7, h3, h6, h7, rfl⟩
    simp [e1, e2, e3, e6, e7, h3, h6, h7]
    refine wpP_range m.length (i87a f caps q E G S I k t m l dv x c σ) (by omega) ⟨.full, by simp, by simp, by simp, by simp, by simp, by simp, by simp, by simp, by simp [h3], by simp [h6], by simp [h7], by simp [Tm.run], by simp, by simpa [Tm.run] using hI0⟩ ?_ ?_ (hend := ?_)
    · rintro j ⟨env, loc, σ', live⟩ ⟨ow, e1, e2, e3, e6, e7, e26, e27, e28, h3, h6, h7, rfl, how, hIj⟩
      exact ⟨e28, e27⟩
    · rintro j ⟨env, loc, σ', live⟩ hj ⟨ow, e1, e2, e3, e6, e7, e26, e27, e28, h3, h6, h7, rfl, how, hIj⟩
      obtain ⟨y, hy, hdr, hm⟩ := drop_cons hj
      have h0 := hIj
      rw [hdr, Tm.counts_cons, Nat.add_assoc] at h0
      have hc1 := (hE.call [] y dv _ _ (hQm y hm) hdd.1 hdd.2.2 h0).1
      simp [e1, e2, e3, e6, e7, e26, e27, e28, hy]
      refine wpP_draw (atPl q) ?_
      simp [e1, e2, e6, e7, h6, h7, hne']
      refine stepD_atF (f := f) (caps := caps) (ps := [.agg (encT y), .one (.int .i64 dv)]) (by simp) (hE.call [_] y dv _ _ (hQm y hm) hdd.1 hdd.2.2 h0).2 hE.has.lt (by simp) ?_
      simp [how, e1, e2, e6, e7, h6, h7, hne']
      refine ⟨by omega, by omega, .tip live.nx, by simp, by simp, by simp, by simp, by simp, by simp, by simp, by simp, by simp [h3], by simp [h6], by simp [List.take_add_one, hy, splice], by rw [Tm.run_take S hy], grown_on, ?_⟩
      rw [Tm.run_take S hy]
      exact hc1
    · rintro ⟨env, loc, σ', live⟩ ⟨ow, e1, e2, e3, e6, e7, e26, e27, e28, h3, h6, h7, rfl, how, hIj⟩
      rw [List.take_length] at h7 hIj ⊢
      rw [List.drop_length, Tm.counts_nil, Nat.zero_add] at hIj
      simp [e1, e2, e3, e6, e7, h3, h6, h7]
      refine wpP_range l.length (i87b f caps q E G S I k t m l dv (Tm.run S m dv x) c σ) (by omega) ⟨ow, .full, by simp, by simp, by simp, by simp, by simp, by simp, by simp, by simp [h6], by simp [h7], by simp [Fm.runs], by simp, by simpa [Fm.runs] using hIj⟩ ?_ ?_ (hend := ?_)
      · rintro j ⟨env, loc, σ', live⟩ ⟨o, ow, e1, e2, e6, e7, e43, e44, e45, h6, h7, rfl, how, hIj⟩
        exact ⟨e45, e44⟩
      · rintro j ⟨env, loc, σ', live⟩ hj ⟨o, ow, e1, e2, e6, e7, e43, e44, e45, h6, h7, rfl, how, hIj⟩
        obtain ⟨y, hy, hdr, hm⟩ := drop_cons hj
        have hz := Fm.sizes_mem hm
        have h0 := hIj
        rw [hdr, Fm.counts_cons, Nat.add_assoc] at h0
        have hc1 := (ih y hm hE (hQl y hm) dv _ _ hdd.1 (by omega) h0).1
        simp [e1, e2, e6, e7, e43, e44, e45, hy]
        refine wpP_draw (atPl q) ?_
        simp [e1, e2, e6, e7, h6, h7, hne']
        refine stepD_atF (f := 87) (caps := []) (ps := [.agg (encF y), .one (.int .i64 dv), .one (.func f caps)]) (by simp) (by simpa using (ih y hm (hE.app [_]) (hQl y hm) dv _ _ hdd.1 (by omega) h0).2) hE.has.lt (by simp) ?_
        simp [how, e1, e2, e6, e7, h6, h7, hne']
        refine ⟨by omega, by omega, o, .tip live.nx, by simp, by simp, by simp, by simp, by simp, by simp, by simp, by simp [h6], by simp [List.take_add_one, hy, splice], by rw [Fm.runs_take S hy], grown_on, ?_⟩
        rw [Fm.runs_take S hy]
        exact hc1
      · rintro ⟨env, loc, σ', live⟩ ⟨o, ow, e1, e2, e6, e7, e43, e44, e45, h6, h7, rfl, how, hIj⟩
        rw [List.take_length] at h7 ⊢
        simp [e6, e7, h6, h7, z29]
end Go.Proofs.YtnpgbkldpdogjaaGreatDoor.V

set_option maxRecDepth 100000
namespace Go.Proofs.YtnpgbkldpdogjaaGreatDoor.V
open Go Go.Proofs
theorem Fm.allT_of {Q : Tm → Prop} {P : Fm → Prop} (h1 : ∀ k t m l, P (.mk k t m l) → (∀ x ∈ m, Q x) ∧ ∀ y ∈ l, P y) (f : Fm) : P f → f.allT Q := by
  induction f using Fm.ind with
  | _ k t m l ih =>
    intro h
    exact (Fm.allT_mk Q k t m l).2 ⟨(h1 k t m l h).1, fun y hy => ih y hy ((h1 k t m l h).2 y hy)⟩
theorem Fm.allT_good (f : Fm) (m : Int) (N : Nat) (hok : f.ok = true) (hle : f.least m = true) (hsz : f.size ≤ N) : f.allT fun t => t.ok = true ∧ t.size ≤ N ∧ t.least m = true :=
  Fm.allT_of (P := fun f => f.ok = true ∧ f.least m = true ∧ f.size ≤ N) (fun k t m' l h => by
    obtain ⟨a1, a2⟩ := Fm.ok_parts h.1
    obtain ⟨b1, b2⟩ := Fm.least_parts h.2.1
    have h3 := h.2.2
    simp at h3
    exact ⟨fun x hx => ⟨a1 x hx, by have := Tm.sizes_mem hx; omega, b1 x hx⟩, fun y hy => ⟨a2 y hy, b2 y hy, by have := Fm.sizes_mem hy; omega⟩⟩) f ⟨hok, hle, hsz⟩
theorem Fm.allT_size (f : Fm) (N : Nat) (hsz : f.size ≤ N) : f.allT fun t => t.size ≤ N :=
  Fm.allT_of (P := fun f => f.size ≤ N) (fun k t m' l h => by
    simp at h
    exact ⟨fun x hx => by have := Tm.sizes_mem hx; omega, fun y hy => by have := Fm.sizes_mem hy; omega⟩) f hsz
theorem Fm.quant_bare {k : Int} {t : Ty} {m : List Tm} {l : List Fm} (h : (Fm.mk k t m l).ok = true) (hk : fmQ k = true) : m = [] := by
  simp only [Fm.ok_mk, Bool.and_eq_true] at h
  have h1 := h.1
  have hr := (fmQ_range k).1 hk
  unfold Fm.head fmArity at h1
  rw [if_neg (by omega), if_neg (by omega), if_pos (by omega)] at h1
  simp at h1
  exact h1.2.1
theorem each_up (b : Int) (f : Fm) : f.ok = true → ∀ d, f.each (fun x d => x.up d b) d = f.up d b := by
  induction f using Fm.ind with
  | _ k t m l ih =>
    intro hok d
    have hl := (Fm.ok_parts hok).2
    rw [Fm.each_mk, Fm.up_mk]
    have e : (l.map fun x => x.each (fun x d => x.up d b) (if fmQ k = true then d + 1 else d)) = l.map fun x => x.up (if fmQ k = true then d + 1 else d) b := List.map_congr_left fun x hx => ih x hx (hl x hx) _
    rw [e]
    cases hk : fmQ k with
    | false => simp
    | true => rw [Fm.quant_bare hok hk]; simp
theorem each_put (s : Tm) (f : Fm) : f.ok = true → ∀ d, f.each (fun x d => x.put 0 d s) d = f.put 0 d s := by
  induction f using Fm.ind with
  | _ k t m l ih =>
    intro hok d
    have hl := (Fm.ok_parts hok).2
    rw [Fm.each_mk, Fm.put_mk]
    have e : (l.map fun x => x.each (fun x d => x.put 0 d s) (if fmQ k = true then d + 1 else d)) = l.map fun x => x.put 0 (if fmQ k = true then d + 1 else d) s := List.map_congr_left fun x hx => ih x hx (hl x hx) _
    rw [e]
    cases hk : fmQ k with
    | false => simp
    | true => rw [Fm.quant_bare hok hk]; simp
def farS (t : Tm) (_ : Int) (b : Bool) : Bool := b || !(t.least 268435456)
theorem farS_tms (m : List Tm) (d : Int) : ∀ b, Tm.run farS m d b = (b || !(Tm.leasts m 268435456)) := by
  induction m with
  | nil => intro b; simp [Tm.run, Tm.leasts]
  | cons x m ih =>
    intro b
    have h := ih (farS x d b)
    rw [Tm.run] at h ⊢
    rw [List.foldl_cons, h, Tm.leasts, farS]
    cases b <;> cases x.least 268435456 <;> simp
theorem farS_fm (f : Fm) : ∀ d b, f.run farS d b = (b || !(f.least 268435456)) := by
  induction f using Fm.ind with
  | _ k t m l ih =>
    intro d b
    have hl : ∀ (l' : List Fm), (∀ x ∈ l', x ∈ l) → ∀ d b, Fm.runs farS l' d b = (b || !(Fm.leasts l' 268435456)) := by
      intro l'
      induction l' with
      | nil => intro _ d b; simp [Fm.runs, Fm.leasts]
      | cons x l' ih' =>
        intro h d b
        rw [Fm.runs, ih x (h x (by simp)), ih' (fun y hy => h y (by simp [hy])), Fm.leasts]
        cases b <;> cases x.least 268435456 <;> simp
    rw [Fm.run_mk, farS_tms, hl l (fun _ h => h), Fm.least_mk]
    cases b <;> cases Tm.leasts m 268435456 <;> simp
theorem c88 {σ : List Frm} {q : Pl} (hH : Has σ q) (t : Tm) (hsz : t.size ≤ 1099511627776) (d : Int) (b : Bool) : CallsV cfg 88 [.agg (encT t), .one (.int .i64 d), .one q.cell] (setC σ q [.bool b]) (.val (.agg (encT t))) (setC σ q [.bool (farS t d b)]) := by
  have hne : ¬ q.d = σ.length := by have := hH.lt; omega
  refine w88 (by simp) ?_
  rw [s88]
  cases b with
  | true => simp [Pl.cell, readBox_setC hH, hne, writeBox_setC hH, splice, farS]
  | false =>
    simp [Pl.cell, readBox_setC hH, hne]
    refine opV_call (c39 t hsz _) (by simp) ?_
    simp [readBox_setC hH, hne, writeBox_setC hH, splice, farS]
theorem c38 (f : Fm) (hsz : f.size ≤ 549755813888) (σ : List Frm) : CallsV cfg 38 [.agg (encF f)] σ (.val (.one (.bool (!(f.least 268435456))))) σ := by
  refine w38 (by simp) ?_
  rw [s38]
  simp [onesOf]
  refine opV_own2 (f := 87) (t := 3) (w := 0) (cs := [.bool false]) (cs' := [.bool (f.run farS 0 false)]) (ps := [.agg (encF f), .one (.int .i64 0), .one (.func 88 [(⟨σ.length, 3, 0⟩ : Pl).cell])]) (by
    refine (c87 (X := Bool) (E := fun b => [.bool b]) (G := fun t _ => t) (S := farS) (Q := fun t => t.size ≤ 549755813888) (I := fun _ _ => True) (dm := 1099511627776) (by omega) f ⟨Has.own (by simp), fun τ t d x c h1 h2 h3 _ => ⟨trivial, ?_⟩, fun _ _ _ _ _ => trivial⟩ (Fm.allT_size f _ hsz) 0 false 0 (by omega) (by omega) trivial).2
    exact c88 (Has.app (Has.own (by simp)) τ) t (by omega) d x) (by simp) (by simp [Pl.cell]) ?_
  rw [farS_fm]
  simp
theorem c147 {σ : List Frm} {q : Pl} (hH : Has σ q) (t : Tm) (hok : t.ok = true) (hsz : t.size ≤ 549755813888) {m : Int} (hle : t.least m = true) (d b : Int) (hd : 0 ≤ d) (hd1 : d ≤ 1099511627776) (hb : 0 ≤ b) (hm : m + b ≤ 9223372036854775807) : CallsV cfg 147 [.agg (encT t), .one (.int .i64 d), .one q.cell] (setC σ q [.int .i64 b]) (.val (.agg (encT (t.up d b)))) (setC σ q [.int .i64 b]) := by
  have hne : ¬ q.d = σ.length := by have := hH.lt; omega
  refine w147 (by simp) ?_
  rw [s147]
  simp [Pl.cell, readBox_setC hH, hne]
  refine opV_call (c94 t hok hsz d b m hle hb hm hd (by omega) _) (by simp) ?_
  simp
theorem c124 (f : Fm) (hok : f.ok = true) (hsz : f.size ≤ 549755813888) {m : Int} (hle : f.least m = true) (b : Int) (hb : 0 ≤ b) (hm : m + b ≤ 9223372036854775807) (σ : List Frm) : CallsV cfg 124 [.agg (encF f), .one (.int .i64 b)] σ (.val (.agg (encF (f.up 0 b)))) σ := by
  refine w124 (by simp) ?_
  rw [s124]
  simp [onesOf]
  refine opV_own2 (f := 87) (t := 3) (w := 0) (cs := [.int .i64 b]) (cs' := [.int .i64 b]) (ps := [.agg (encF f), .one (.int .i64 0), .one (.func 147 [(⟨σ.length, 3, 0⟩ : Pl).cell])]) (by
    refine (c87 (X := Unit) (E := fun _ => [.int .i64 b]) (G := fun x d => x.up d b) (S := fun _ _ x => x) (Q := fun t => t.ok = true ∧ t.size ≤ 549755813888 ∧ t.least m = true) (I := fun _ _ => True) (dm := 1099511627776) (by omega) f ⟨Has.own (by simp), fun τ t d x c h1 h2 h3 _ => ⟨trivial, ?_⟩, fun _ _ _ _ _ => trivial⟩ (Fm.allT_good f m _ hok hle hsz) 0 () 0 (by omega) (by omega) trivial).2
    exact c147 (Has.app (Has.own (by simp)) τ) t h1.1 h1.2.1 h1.2.2 d b h2 h3 hb hm) (by simp) (by simp [Pl.cell]) ?_
  rw [each_up b f hok]
  simp
theorem c150 {σ : List Frm} {q : Pl} (hH : Has σ q) (u : Tm) (huo : u.ok = true) (hus : u.size ≤ 549755813888) {mu : Int} (hul : u.least mu = true) (t : Tm) (hok : t.ok = true) (hsz : t.size ≤ 549755813888) (hle : t.least 9223372036854775807 = true) (d : Int) (hd : 0 ≤ d) (hd1 : d ≤ 1099511627776) (hm : mu ≤ 9223370000000000000) : CallsV cfg 150 [.agg (encT t), .one (.int .i64 d), .one q.cell] (setC σ q (encT u)) (.val (.agg (encT (t.put 0 d u)))) (setC σ q (encT u)) := by
  have hne : ¬ q.d = σ.length := by have := hH.lt; omega
  refine w150 (by simp) ?_
  rw [s150]
  simp [Pl.cell, readBox_setC hH, hne]
  refine opV_call (c151 u huo hus hul t hok hsz 0 d hle (by omega) hd (by omega) (by omega) _) (by simp) ?_
  simp
theorem c127 (f : Fm) (hok : f.ok = true) (hsz : f.size ≤ 549755813888) (hle : f.least 9223372036854775807 = true) (u : Tm) (huo : u.ok = true) (hus : u.size ≤ 549755813888) {mu : Int} (hul : u.least mu = true) (hm : mu ≤ 9223370000000000000) (σ : List Frm) : CallsV cfg 127 [.agg (encF f), .agg (encT u)] σ (.val (.agg (encF (f.put 0 0 u)))) σ := by
  refine w127 (by simp) ?_
  rw [s127]
  simp [onesOf]
  refine opV_own2 (f := 87) (t := 3) (w := 0) (cs := encT u) (cs' := encT u) (ps := [.agg (encF f), .one (.int .i64 0), .one (.func 150 [(⟨σ.length, 3, 0⟩ : Pl).cell])]) (by
    refine (c87 (X := Unit) (E := fun _ => encT u) (G := fun x d => x.put 0 d u) (S := fun _ _ x => x) (Q := fun t => t.ok = true ∧ t.size ≤ 549755813888 ∧ t.least 9223372036854775807 = true) (I := fun _ _ => True) (dm := 1099511627776) (by omega) f ⟨Has.own (by simp), fun τ t d x c h1 h2 h3 _ => ⟨trivial, ?_⟩, fun _ _ _ _ _ => trivial⟩ (Fm.allT_good f _ _ hok hle hsz) 0 () 0 (by omega) (by omega) trivial).2
    exact c150 (Has.app (Has.own (by simp)) τ) u huo hus hul t h1.1 h1.2.1 h1.2.2 d h2 h3 hm) (by simp) (by simp [Pl.cell]) ?_
  rw [each_put u f hok]
  simp
def growS (more : Int) (t : Tm) (d : Int) (n : Int) : Int := n + more * t.times d
theorem growS_tms (more : Int) (m : List Tm) (d : Int) : ∀ n, Tm.run (growS more) m d n = n + more * Tm.timess m d := by
  induction m with
  | nil => intro n; simp [Tm.run, Tm.timess]
  | cons x m ih =>
    intro n
    have h := ih (growS more x d n)
    rw [Tm.run] at h ⊢
    rw [List.foldl_cons, h, Tm.timess, growS, Int.mul_add]
    omega
theorem growS_fm (more : Int) (f : Fm) : f.ok = true → ∀ d n, f.run (growS more) d n = n + more * f.times d := by
  induction f using Fm.ind with
  | _ k t m l ih =>
    intro hok d n
    have hlo := (Fm.ok_parts hok).2
    have hl : ∀ (l' : List Fm), (∀ x ∈ l', x ∈ l) → ∀ d n, Fm.runs (growS more) l' d n = n + more * Fm.timess l' d := by
      intro l'
      induction l' with
      | nil => intro _ d n; simp [Fm.runs, Fm.timess]
      | cons x l' ih' =>
        intro h d n
        rw [Fm.runs, ih x (h x (by simp)) (hlo x (h x (by simp))), ih' (fun y hy => h y (by simp [hy])), Fm.timess, Int.mul_add]
        omega
    rw [Fm.run_mk, growS_tms, hl l (fun _ h => h), Fm.times_mk, Int.mul_add]
    cases hk : fmQ k with
    | false => simp; omega
    | true => rw [Fm.quant_bare hok hk]; simp [Tm.timess]
theorem c148 {σ : List Frm} {q p : Pl} (hH : Has σ q) {more : Int} (hp : cellsAt σ p = some [.int .i64 more]) (ha : p.apart q) (t : Tm) (hok : t.ok = true) (hsz : t.size ≤ 549755813888) (d n : Int) (hd : 0 ≤ d) (hd1 : d ≤ 1099511627776) (hm0 : 0 ≤ more) (hm1 : more ≤ 1048576) (hc : t.count ≤ 1048576) (hn0 : 0 ≤ n) (hn1 : n ≤ 4611686018427387904) :
    CallsV cfg 148 [.agg (encT t), .one (.int .i64 d), .one q.cell, .one p.cell] (setC σ q [.int .i64 n]) (.val (.agg (encT t))) (setC σ q [.int .i64 (growS more t d n)]) := by
  have hne : ¬ q.d = σ.length := by have := hH.lt; omega
  have hne2 : ¬ p.d = σ.length := by have := cellsAt_lt hp; omega
  have ht := t.times_le d
  have hmul : 0 ≤ more * t.times d ∧ more * t.times d ≤ 1048576 * 1048576 := ⟨Int.mul_nonneg hm0 ht.1, Int.le_trans (Int.mul_le_mul_of_nonneg_right hm1 ht.1) (Int.mul_le_mul_of_nonneg_left (by omega) (by omega))⟩
  refine w148 (by simp) ?_
  rw [s148]
  simp
  refine wpP_draw (fun _ _ _ => false) ?_
  simp [Pl.cell, readBox_setC hH, readBox_set hp ha, hne, hne2]
  refine stepD_call (c149 t hok hsz d hd (by omega) _) (by simp) ?_
  simp [readBox_setC hH, hne]
  rw [wrap_id (n := more * t.times d) (by omega) (by omega), wrap_id (by omega) (by omega), writeBox_setC hH]
  simp [splice, growS]
theorem c126 (f : Fm) (hok : f.ok = true) (hsz : f.size ≤ 549755813888) (hfc : f.count ≤ 1048576) (hle : f.least 9223372036854775807 = true) (u : Tm) (hus : u.size ≤ 549755813888) (huc : u.count ≤ 1048576) (σ : List Frm) : CallsV cfg 126 [.agg (encF f), .agg (encT u)] σ (.val (.one (.int .i64 ((f.count : Int) + ((u.count : Int) - 1) * f.times 0)))) σ := by
  have hup : 1 ≤ u.count := by obtain ⟨k, i, t, l⟩ := u; simp
  refine w126 (by simp) ?_
  rw [s126]
  simp
  refine wpP_draw (fun _ _ _ => false) ?_
  simp
  refine stepD_call (c125 f (by omega) _) (by simp) ?_
  simp
  refine stepD_call (c90 u (by omega) _) (by simp) ?_
  simp
  rw [wrap_id (by omega) (by omega)]
  simp [onesOf]
  refine opV_own2 (f := 87) (t := 5) (w := 0) (cs := [.int .i64 f.count]) (cs' := [.int .i64 (f.run (growS ((u.count : Int) - 1)) 0 f.count)]) (ps := [.agg (encF f), .one (.int .i64 0), .one (.func 148 [(⟨σ.length, 5, 0⟩ : Pl).cell, (⟨σ.length, 6, 0⟩ : Pl).cell])]) (by
    refine (c87 (X := Int) (E := fun n => [.int .i64 n]) (G := fun t _ => t) (S := growS ((u.count : Int) - 1)) (Q := fun t => t.ok = true ∧ t.size ≤ 549755813888 ∧ t.least 9223372036854775807 = true) (I := fun c n => 0 ≤ n ∧ c ≤ 1048576 ∧ n + 1048576 * (c : Int) ≤ 4611686018427387904) (dm := 1099511627776) (by omega) f ⟨Has.own (by simp), fun τ t d x c h1 h2 h3 h4 => ?_, fun c c' x h h' => ⟨h'.1, by omega, by have := h'.2.2; omega⟩⟩ (Fm.allT_good f _ _ hok hle hsz) 0 f.count 0 (by omega) (by omega) ⟨by omega, by omega, by omega⟩).2
    obtain ⟨g1, g2, g3⟩ := h4
    have ht := t.times_le d
    have hmul : 0 ≤ ((u.count : Int) - 1) * t.times d ∧ ((u.count : Int) - 1) * t.times d ≤ 1048576 * (t.count : Int) := ⟨Int.mul_nonneg (by omega) ht.1, Int.le_trans (Int.mul_le_mul_of_nonneg_right (by omega) ht.1) (Int.mul_le_mul_of_nonneg_left ht.2 (by omega))⟩
    refine ⟨⟨by simp only [growS]; omega, by omega, by simp only [growS]; omega⟩, ?_⟩
    exact c148 (Has.app (Has.own (by simp)) τ) (more := (u.count : Int) - 1) (by rw [cellsAt_append (by simp)]; simp [cellsAt]) (by right; simp) t h1.1 h1.2.1 d x h2 h3 (by omega) (by omega) (by omega) g1 (by omega)) (by simp) (by simp [Pl.cell]) ?_
  rw [growS_fm _ f hok]
  simp
end Go.Proofs.YtnpgbkldpdogjaaGreatDoor.V

namespace Go.Proofs.YtnpgbkldpdogjaaGreatDoor.V
open Go
theorem made_typed {g : List Ty} {t : Ty} {x : Tm} (h : T.Made g t x) (hc : x.check = 0) : x.typed g = (t, 0) := by
  obtain ⟨u, rfl, h⟩ := h
  unfold Tm.typed
  rw [if_neg (by simpa using hc), h.infer g rfl]
theorem Tm.check_small {x : Tm} (h1 : x.ok = true) (h2 : x.count ≤ 4096) : x.check = 0 := by unfold Tm.check; rw [if_pos h1, if_pos h2]
theorem eq_typ {g : List Ty} {x y : Tm} (hx : x.typed g = (.nat, 0)) (hy : y.typed g = (.nat, 0)) : (Fm.eq x y).typ g = 0 := by
  simp [Fm.eq, Fm.typ_mk, Tm.eqs, hx, hy, Ty.nat]
theorem two_typ {g : List Ty} {k : Int} (hk : k = 2 ∨ k = 3) {x y : Fm} (hx : x.typ g = 0) (hy : y.typ g = 0) : (Fm.two k x y).typ g = 0 := by
  rcases hk with rfl | rfl <;> simp [Fm.two, Fm.typ_mk, Tm.eqs, Fm.typs_cons, hx, hy, fmQ]
theorem q_typ {g : List Ty} {k : Int} (hk : k = 4 ∨ k = 5 ∨ k = 6 ∨ k = 7) {s : Ty} {x : Fm} (hx : x.typ (g ++ [s]) = 0) : (Fm.q k s x).typ g = 0 := by
  rcases hk with rfl | rfl | rfl | rfl <;> simp [Fm.q, Fm.typ_mk, Tm.eqs, Fm.typs_cons, hx, fmQ]
end Go.Proofs.YtnpgbkldpdogjaaGreatDoor.V

namespace Go.Proofs.YtnpgbkldpdogjaaGreatDoor.V
open Go
inductive Qk where
  | all | ex | allU | exU
  deriving DecidableEq
def Qk.n : Qk → Int
  | .all => 4 | .ex => 5 | .allU => 6 | .exU => 7
inductive F where
  | eq (u v : T)
  | and (a b : F)
  | imp (a b : F)
  | q (k : Qk) (s : Ty) (x : F)
namespace F
def fm : F → Fm
  | eq u v => .eq u.tm v.tm
  | and a b => .two 2 a.fm b.fm
  | imp a b => .two 3 a.fm b.fm
  | q k s x => .q k.n s x.fm
def wf : F → Bool
  | eq u v => u.wf && v.wf
  | and a b => a.wf && b.wf
  | imp a b => a.wf && b.wf
  | q _ s x => s.check == 0 && x.wf
def ren (ρ : Nat → Nat) : F → F
  | eq u v => eq (u.ren ρ) (v.ren ρ)
  | and a b => and (a.ren ρ) (b.ren ρ)
  | imp a b => imp (a.ren ρ) (b.ren ρ)
  | q k s x => q k s (x.ren (T.upr ρ))
def sub (σ : Nat → T) : F → F
  | eq u v => eq (u.sub σ) (v.sub σ)
  | and a b => and (a.sub σ) (b.sub σ)
  | imp a b => imp (a.sub σ) (b.sub σ)
  | q k s x => q k s (x.sub (T.ups σ))
def ct : F → Option Ty
  | eq _ _ => none
  | and a b => match a.ct, b.ct with
    | none, y => y
    | some x, none => some x
    | some x, some y => some (.pair x y)
  | imp a b => match b.ct with
    | none => none
    | some y => match a.ct with
      | none => some y
      | some x => some (.fn x y)
  | q .all s x => x.ct.map (.fn s)
  | q .ex s x => match x.ct with
    | none => some s
    | some y => some (.pair s y)
  | q .allU _ x => x.ct
  | q .exU _ x => x.ct
def has (f : F) : Bool := f.ct.isSome
def under (h : Bool) (t : T) : T := if h = true then .app (t.ren Nat.succ) (.var 0) else t.ren Nat.succ
def rl : F → (Nat → T) → T → F
  | eq u v, σ, _ => eq (u.sub σ) (v.sub σ)
  | and a b, σ, t => if (a.has && b.has) = true then and (rl a σ (.fst t)) (rl b σ (.snd t)) else and (rl a σ t) (rl b σ t)
  | imp a b, σ, t => match a.ct with
    | none => imp (rl a σ t) (rl b σ t)
    | some s => q .all s (imp (rl a (fun i => (σ i).ren Nat.succ) (.var 0)) (rl b (fun i => (σ i).ren Nat.succ) (under b.has t)))
  | q .all s x, σ, t => q .all s (rl x (T.ups σ) (under x.has t))
  | q .ex _ x, σ, t => if x.has = true then rl x (T.scons (.fst t) σ) (.snd t) else rl x (T.scons t σ) t
  | q .allU s x, σ, t => q .all s (rl x (T.ups σ) (t.ren Nat.succ))
  | q .exU s x, σ, t => q .exU s (rl x (T.ups σ) (t.ren Nat.succ))
theorem ren_eq_sub (f : F) : ∀ ρ, f.ren ρ = f.sub fun i => .var (ρ i) := by
  induction f with
  | eq u v => intro ρ; simp only [ren, sub, T.ren_eq_sub]
  | and a b h1 h2 => intro ρ; simp only [ren, sub, h1, h2]
  | imp a b h1 h2 => intro ρ; simp only [ren, sub, h1, h2]
  | q k s x h =>
    intro ρ
    simp only [ren, sub, h]
    congr 2
    funext i
    cases i <;> rfl
theorem sub_sub (f : F) : ∀ σ τ : Nat → T, (f.sub σ).sub τ = f.sub fun i => (σ i).sub τ := by
  induction f with
  | eq u v => intro σ τ; simp only [sub, T.sub_sub]
  | and a b h1 h2 => intro σ τ; simp only [sub, h1, h2]
  | imp a b h1 h2 => intro σ τ; simp only [sub, h1, h2]
  | q k s x h => intro σ τ; simp only [sub, h, T.sub_ups]
theorem sub_var (f : F) : f.sub T.var = f := by
  induction f with
  | eq u v => simp only [sub, T.sub_var]
  | and a b h1 h2 => simp only [sub, h1, h2]
  | imp a b h1 h2 => simp only [sub, h1, h2]
  | q k s x h => simp only [sub, T.ups_var, h]
theorem ct_sub (f : F) : ∀ σ, (f.sub σ).ct = f.ct := by
  induction f with
  | eq u v => intro σ; rfl
  | and a b h1 h2 => intro σ; simp only [sub, ct, h1, h2]
  | imp a b h1 h2 => intro σ; simp only [sub, ct, h1, h2]
  | q k s x h => intro σ; cases k <;> simp only [sub, ct, h]
theorem has_sub (f : F) (σ : Nat → T) : (f.sub σ).has = f.has := by simp only [has, ct_sub]
theorem ren_ups (σ : Nat → T) (τ : Nat → T) (i : Nat) : ((σ i).ren Nat.succ).sub (T.ups τ) = ((σ i).sub τ).ren Nat.succ := by
  rw [T.ren_sub, T.sub_ren]
  try rfl
theorem under_sub (h : Bool) (t : T) (τ : Nat → T) : (under h t).sub (T.ups τ) = under h (t.sub τ) := by
  unfold under
  cases h
  · simp only [if_neg (Bool.false_ne_true)]
    rw [T.ren_sub, T.sub_ren]; try rfl
  · simp only [if_true, T.sub, T.ups]
    rw [T.ren_sub, T.sub_ren]; try rfl
theorem rl_pre (f : F) : ∀ (τ σ : Nat → T) (t : T), (f.sub τ).rl σ t = f.rl (fun i => (τ i).sub σ) t := by
  induction f with
  | eq u v => intro τ σ t; simp only [sub, rl, T.sub_sub]
  | and a b h1 h2 => intro τ σ t; simp only [sub, rl, h1, h2, has_sub]
  | imp a b h1 h2 =>
    intro τ σ t
    simp only [sub, rl, ct_sub, h1, h2, has_sub]
    have e : (fun i => (τ i).sub fun i => (σ i).ren Nat.succ) = fun i => ((τ i).sub σ).ren Nat.succ := by funext i; rw [T.sub_ren]
    rw [e]
  | q k s x h =>
    intro τ σ t
    have e : (fun i => (T.ups τ i).sub (T.ups σ)) = T.ups fun i => (τ i).sub σ := T.sub_ups τ σ
    have e2 : ∀ a : T, (fun i => (T.ups τ i).sub (T.scons a σ)) = T.scons a fun i => (τ i).sub σ := by
      intro a
      funext i
      cases i with
      | zero => rfl
      | succ i => simp only [T.ups, T.scons, T.ren_sub]
    cases k <;> simp only [sub, rl, h, has_sub, e, e2]
theorem rl_post (f : F) : ∀ (σ τ : Nat → T) (t : T), (f.rl σ t).sub τ = f.rl (fun i => (σ i).sub τ) (t.sub τ) := by
  induction f with
  | eq u v => intro σ τ t; simp only [rl, sub, T.sub_sub]
  | and a b h1 h2 =>
    intro σ τ t
    simp only [rl]
    split
    · simp only [sub, h1, h2, T.sub]
    · simp only [sub, h1, h2]
  | imp a b h1 h2 =>
    intro σ τ t
    simp only [rl]
    split
    · simp only [sub, h1, h2]
    · simp only [sub, h1, h2, under_sub, T.sub, T.ups]
      have e : (fun i => ((σ i).ren Nat.succ).sub (T.ups τ)) = fun i => ((σ i).sub τ).ren Nat.succ := by funext i; exact ren_ups σ τ i
      have e' : (fun i => ((σ i).ren Nat.succ).sub fun x => T.ups τ x) = fun i => ((σ i).sub τ).ren Nat.succ := e
      rw [e]
  | q k s x h =>
    intro σ τ t
    have e : (fun i => (T.ups σ i).sub (T.ups τ)) = T.ups fun i => (σ i).sub τ := T.sub_ups σ τ
    have e2 : ∀ a : T, (fun i => (T.scons a σ i).sub τ) = T.scons (a.sub τ) fun i => (σ i).sub τ := by
      intro a
      funext i
      cases i <;> rfl
    have e3 : (t.ren Nat.succ).sub (T.ups τ) = (t.sub τ).ren Nat.succ := by rw [T.ren_sub, T.sub_ren]; try rfl
    cases k with
    | all => simp only [rl, sub, h, e, under_sub]
    | allU => simp only [rl, sub, h, e, e3]
    | exU => simp only [rl, sub, h, e, e3]
    | ex =>
      simp only [rl]
      split
      · simp only [h, e2, T.sub]
      · simp only [h, e2]
theorem rl_put (f : F) (t : T) (τ : Nat → T) : (f.rl T.var t).sub τ = (f.sub τ).rl T.var (t.sub τ) := by
  rw [rl_post, rl_pre]
  congr 1
  funext i
  rw [T.sub_var]
  try rfl
def Typ (G : List Ty) : F → Prop
  | eq u v => T.HasTy G u .nat ∧ T.HasTy G v .nat
  | and a b => Typ G a ∧ Typ G b
  | imp a b => Typ G a ∧ Typ G b
  | q _ s x => s.check = 0 ∧ Typ (s :: G) x
def fits : F → Prop
  | eq _ _ => True
  | and a b => a.fits ∧ b.fits
  | imp a b => a.fits ∧ b.fits ∧ ∀ s, a.ct = some s → s.check = 0
  | q _ _ x => x.fits
theorem ty_ups {D G : List Ty} {σ : Nat → T} {s : Ty} (h : ∀ i x, D[i]? = some x → T.HasTy G (σ i) x) : ∀ i x, (s :: D)[i]? = some x → T.HasTy (s :: G) (T.ups σ i) x := by
  intro i x hx
  cases i with
  | zero => exact .var hx
  | succ i => exact (h i x hx).ren fun j y hy => hy
theorem ty_succ {D G : List Ty} {σ : Nat → T} {s : Ty} (h : ∀ i x, D[i]? = some x → T.HasTy G (σ i) x) : ∀ i x, D[i]? = some x → T.HasTy (s :: G) ((σ i).ren Nat.succ) x := fun i x hx => (h i x hx).ren fun j y hy => hy
theorem Typ.sub {f : F} : ∀ {D G : List Ty} {σ : Nat → T}, Typ D f → (∀ i x, D[i]? = some x → T.HasTy G (σ i) x) → Typ G (f.sub σ) := by
  induction f with
  | eq u v => exact fun h hs => ⟨h.1.sub hs, h.2.sub hs⟩
  | and a b h1 h2 => exact fun h hs => ⟨h1 h.1 hs, h2 h.2 hs⟩
  | imp a b h1 h2 => exact fun h hs => ⟨h1 h.1 hs, h2 h.2 hs⟩
  | q k s x h1 => exact fun h hs => ⟨h.1, h1 h.2 (ty_ups hs)⟩
def Fits (G : List Ty) (f : F) (t : T) : Prop := (∃ s, T.HasTy G t s) ∧ ∀ s, f.ct = some s → T.HasTy G t s
theorem under_ty {G : List Ty} {s : Ty} {h : Bool} {t : T} {r : Ty} (ht : T.HasTy G t (if h = true then .fn s r else r)) : T.HasTy (s :: G) (under h t) r := by
  unfold under
  cases h
  · exact ht.ren fun j y hy => hy
  · exact .app (T.HasTy.ren ht fun j y hy => hy) (.var rfl)
theorem rl_ty (f : F) : ∀ {D G : List Ty} {σ : Nat → T} {t : T}, Typ D f → f.fits → (∀ i x, D[i]? = some x → T.HasTy G (σ i) x) → Fits G f t → Typ G (f.rl σ t) := by
  induction f with
  | eq u v => exact fun h _ hs _ => ⟨h.1.sub hs, h.2.sub hs⟩
  | and a b h1 h2 =>
    intro D G σ t h hf hs ht
    simp only [rl]
    cases ha : a.ct with
    | none =>
      have e : (a.has && b.has) = false := by simp [has, ha]
      rw [e]
      refine ⟨h1 h.1 hf.1 hs ⟨ht.1, fun s k => by rw [ha] at k; cases k⟩, h2 h.2 hf.2 hs ⟨ht.1, fun s k => ht.2 s (by simp only [ct, ha, k])⟩⟩
    | some x =>
      cases hb : b.ct with
      | none =>
        have e : (a.has && b.has) = false := by simp [has, hb]
        rw [e]
        exact ⟨h1 h.1 hf.1 hs ⟨ht.1, fun s k => ht.2 s (by simp only [ct, hb, k])⟩, h2 h.2 hf.2 hs ⟨ht.1, fun s k => by rw [hb] at k; cases k⟩⟩
      | some y =>
        have e : (a.has && b.has) = true := by simp [has, ha, hb]
        rw [e]
        have hp := ht.2 (.pair x y) (by simp only [ct, ha, hb])
        exact ⟨h1 h.1 hf.1 hs ⟨⟨x, .fst hp⟩, fun s k => by rw [ha] at k; cases k; exact .fst hp⟩, h2 h.2 hf.2 hs ⟨⟨y, .snd hp⟩, fun s k => by rw [hb] at k; cases k; exact .snd hp⟩⟩
  | imp a b h1 h2 =>
    intro D G σ t h hf hs ht
    simp only [rl]
    cases ha : a.ct with
    | none =>
      simp only
      exact ⟨h1 h.1 hf.1 hs ⟨ht.1, fun s k => by rw [ha] at k; cases k⟩, h2 h.2 hf.2.1 hs ⟨ht.1, fun s k => ht.2 s (by simp only [ct, ha, k])⟩⟩
    | some s =>
      simp only
      refine ⟨hf.2.2 s ha, h1 h.1 hf.1 (ty_succ hs) ⟨⟨s, .var rfl⟩, fun s' k => by rw [ha] at k; cases k; exact .var rfl⟩, h2 h.2 hf.2.1 (ty_succ hs) ?_⟩
      cases hb : b.ct with
      | none =>
        obtain ⟨r, hr⟩ := ht.1
        exact ⟨⟨r, under_ty (by simpa [has, hb] using hr)⟩, fun s' k => by rw [hb] at k; cases k⟩
      | some y =>
        have := ht.2 (.fn s y) (by simp only [ct, ha, hb])
        have k2 : T.HasTy (s :: G) (under b.has t) y := under_ty (by simpa [has, hb] using this)
        exact ⟨⟨y, k2⟩, fun s' k => by rw [hb] at k; cases k; exact k2⟩
  | q k s x h1 =>
    intro D G σ t h hf hs ht
    have keep : ∀ {k : Qk}, k ≠ .all → k ≠ .ex → (∀ s', x.ct = some s' → T.HasTy G t s') → Fits (s :: G) x (t.ren Nat.succ) := by
      intro k _ _ hx
      obtain ⟨r, hr⟩ := ht.1
      exact ⟨⟨r, hr.ren fun j y hy => hy⟩, fun s' k => (hx s' k).ren fun j y hy => hy⟩
    cases k with
    | all =>
      simp only [rl]
      refine ⟨h.1, h1 h.2 hf (ty_ups hs) ?_⟩
      cases hx : x.ct with
      | none =>
        obtain ⟨r, hr⟩ := ht.1
        exact ⟨⟨r, under_ty (by simpa [has, hx] using hr)⟩, fun s' k => by rw [hx] at k; cases k⟩
      | some y =>
        have := ht.2 (.fn s y) (by simp only [ct, hx, Option.map_some])
        have k2 : T.HasTy (s :: G) (under x.has t) y := under_ty (by simpa [has, hx] using this)
        exact ⟨⟨y, k2⟩, fun s' k => by rw [hx] at k; cases k; exact k2⟩
    | allU => exact ⟨h.1, h1 h.2 hf (ty_ups hs) (keep (k := .allU) (by simp) (by simp) fun s' k => ht.2 s' (by simp only [ct, k]))⟩
    | exU => exact ⟨h.1, h1 h.2 hf (ty_ups hs) (keep (k := .exU) (by simp) (by simp) fun s' k => ht.2 s' (by simp only [ct, k]))⟩
    | ex =>
      have hsc : ∀ {w : T}, T.HasTy G w s → ∀ i y, (s :: D)[i]? = some y → T.HasTy G (T.scons w σ i) y := by
        intro w hw i y hy
        cases i with
        | zero => cases hy; exact hw
        | succ i => exact hs i y hy
      simp only [rl]
      cases hx : x.ct with
      | none =>
        have e : x.has = false := by simp [has, hx]
        rw [e]
        exact h1 h.2 hf (hsc (ht.2 s (by simp only [ct, hx]))) ⟨ht.1, fun s' k => by rw [hx] at k; cases k⟩
      | some y =>
        have e : x.has = true := by simp [has, hx]
        rw [e]
        have hp := ht.2 (.pair s y) (by simp only [ct, hx])
        exact h1 h.2 hf (hsc (.fst hp)) ⟨⟨y, .snd hp⟩, fun s' k => by rw [hx] at k; cases k; exact .snd hp⟩
theorem rl_bare (f : F) : ∀ (σ : Nat → T) (t : T), (f.rl σ t).ct = none := by
  induction f with
  | eq u v => intro σ t; rfl
  | and a b h1 h2 =>
    intro σ t
    simp only [rl]
    split <;> simp only [ct, h1, h2]
  | imp a b h1 h2 =>
    intro σ t
    simp only [rl]
    split
    · simp only [ct, h2]
    · simp only [ct, h2, Option.map_none]
  | q k s x h =>
    intro σ t
    cases k <;> simp only [rl]
    · simp only [ct, h, Option.map_none]
    · split <;> exact h _ _
    · simp only [ct, h, Option.map_none]
    · simp only [ct, h]
end F
namespace T
theorem Red.map {f : T → T} (hf : ∀ {a b}, Par a b → Par (f a) (f b)) {t u : T} (h : Red t u) : Red (f t) (f u) := by
  induction h with
  | refl => exact .refl _
  | step h _ ih => exact .step (hf h) ih
theorem Red.ren {t u : T} (h : Red t u) (ρ : Nat → Nat) : Red (t.ren ρ) (u.ren ρ) := Red.map (fun hp => hp.ren ρ) h
theorem Red.ups {σ τ : Nat → T} (h : ∀ i, Red (σ i) (τ i)) : ∀ i, Red (T.ups σ i) (T.ups τ i) := by
  intro i
  cases i with
  | zero => exact .refl _
  | succ i => exact (h i).ren _
end T
namespace F
end F
end Go.Proofs.YtnpgbkldpdogjaaGreatDoor.V

namespace Go.Proofs.YtnpgbkldpdogjaaGreatDoor.V
open Go
def bld (k : Int) (s : Ty) (l : List Fm) : Fm × Int := if 4096 < (Fm.mk k s [] l).count then (.zeroF, 4) else (.mk k s [] l, 0)
def pair2 (k : Int) (x y : Fm × Int) : Fm × Int := if x.2 ≠ 0 then (.zeroF, x.2) else if y.2 ≠ 0 then (.zeroF, y.2) else bld k .zero [x.1, y.1]
def one1 (k : Int) (s : Ty) (x : Fm × Int) : Fm × Int := if x.2 ≠ 0 then (.zeroF, x.2) else bld k s [x.1]
def callT (t : Tm) : Tm := .node 3 [t.up 0 1, .var 0]
def undT (h : Bool) (t : Tm) : Tm := if h = true then callT t else t.up 0 1
def real : Nat → Fm → Tm → Fm × Int
  | 0, _, _ => (.zeroF, 4)
  | n + 1, f, t =>
    if 4096 < t.count then (.zeroF, 4)
    else if f.kind = 2 then
      if ((f.kid 0).has && (f.kid 1).has) = true then pair2 2 (real n (f.kid 0) (.node 11 [t])) (real n (f.kid 1) (.node 12 [t]))
      else pair2 2 (real n (f.kid 0) t) (real n (f.kid 1) t)
    else if f.kind = 3 then
      if (f.kid 0).has = false then pair2 3 (real n (f.kid 0) t) (real n (f.kid 1) t)
      else if (ctype (f.kid 0)).2 ≠ 0 then (.zeroF, (ctype (f.kid 0)).2)
      else one1 4 (ctype (f.kid 0)).1 (pair2 3 (real n ((f.kid 0).up 0 1) (.var 0)) (real n ((f.kid 1).up 0 1) (undT (f.kid 1).has t)))
    else if f.kind = 4 ∨ f.kind = 6 ∨ f.kind = 7 then
      one1 (if f.kind = 6 then 4 else f.kind) f.ty (real n (f.kid 0) (undT (decide (f.kind = 4) && (f.kid 0).has) t))
    else if f.kind = 5 then
      if (f.kid 0).has = true then
        (if 4096 < (Tm.node 11 [t]).count ∨ 4096 < ((f.kid 0).count : Int) + (((Tm.node 11 [t]).count : Int) - 1) * (f.kid 0).times 0 then (.zeroF, 4) else real n ((f.kid 0).put 0 0 (.node 11 [t])) (.node 12 [t]))
      else (if 4096 < t.count ∨ 4096 < ((f.kid 0).count : Int) + ((t.count : Int) - 1) * (f.kid 0).times 0 then (.zeroF, 4) else real n ((f.kid 0).put 0 0 t) t)
    else (f, 0)
mutual
def Fm.conn : Fm → Nat
  | .mk _ _ _ l => 1 + Fm.conns l
def Fm.conns : List Fm → Nat
  | [] => 0
  | x :: l => x.conn + Fm.conns l
end
@[simp] theorem Fm.conn_mk (k : Int) (t : Ty) (m : List Tm) (l : List Fm) : (Fm.mk k t m l).conn = 1 + Fm.conns l := by rw [Fm.conn]
@[simp] theorem Fm.conns_nil : Fm.conns [] = 0 := by rw [Fm.conns]
@[simp] theorem Fm.conns_cons (x : Fm) (l : List Fm) : Fm.conns (x :: l) = x.conn + Fm.conns l := by rw [Fm.conns]
theorem Fm.conns_map {l : List Fm} {F : Fm → Fm} (h : ∀ x ∈ l, (F x).conn = x.conn) : Fm.conns (l.map F) = Fm.conns l := by
  induction l with
  | nil => simp
  | cons x l ih => simp [h x (by simp), ih fun y hy => h y (by simp [hy])]
theorem Fm.up_conn (f : Fm) : ∀ a b, (f.up a b).conn = f.conn := by
  induction f using Fm.ind with
  | _ k t m l ih => intro a b; rw [Fm.up_mk]; simp [Fm.conns_map fun x hx => ih x hx _ _]
theorem Fm.put_conn (f : Fm) (s : Tm) : ∀ a d, (f.put a d s).conn = f.conn := by
  induction f using Fm.ind with
  | _ k t m l ih => intro a d; rw [Fm.put_mk]; simp [Fm.conns_map fun x hx => ih x hx _ _]
theorem Fm.conn_le (f : Fm) : f.conn ≤ f.count := by
  induction f using Fm.ind with
  | _ k t m l ih =>
    simp
    have : Fm.conns l ≤ Fm.counts l := by
      clear k t m
      induction l with
      | nil => simp
      | cons x l ihl =>
        have := ih x (by simp)
        have := ihl fun y hy => ih y (by simp [hy])
        simp
        omega
    omega
theorem Fm.conn_pos (f : Fm) : 1 ≤ f.conn := by obtain ⟨k, t, m, l⟩ := f; simp
theorem Ty.ok_size {t : Ty} (h : t.check = 0) : t.size ≤ 64 := (Ty.check_iff.1 h).2
theorem Tm.size_count (t : Tm) : t.ok = true → t.size ≤ 66 * t.count := by
  induction t using Tm.ind with
  | _ k i s l ih =>
    intro h
    have h2 := h
    simp only [Tm.ok_mk, Bool.and_eq_true, Tm.oks_iff, Tm.head] at h2
    have hs : s.size ≤ 64 := by
      have h3 := h2.1.2
      split at h3
      · exact Ty.ok_size (by simpa using h3)
      · obtain ⟨a, b⟩ := s
        simp [Ty.none] at h3
        simp [h3.2]
    have hl : Tm.sizes l ≤ 66 * Tm.counts l := by
      have h4 := h2.2
      clear h h2 hs
      induction l with
      | nil => simp
      | cons x l ihl =>
        have := ih x (by simp) (h4 x (by simp))
        have := ihl (fun y hy => ih y (by simp [hy])) fun y hy => h4 y (by simp [hy])
        simp
        omega
    simp
    omega
theorem Tm.sizes_count {l : List Tm} (h : ∀ x ∈ l, x.ok = true) : Tm.sizes l ≤ 66 * Tm.counts l := by
  induction l with
  | nil => simp
  | cons x l ih =>
    have := x.size_count (h x (by simp))
    have := ih fun y hy => h y (by simp [hy])
    simp
    omega
theorem Fm.size_count (f : Fm) : f.ok = true → f.size ≤ 66 * f.count := by
  induction f using Fm.ind with
  | _ k t m l ih =>
    intro h
    have h2 := h
    simp only [Fm.ok_mk, Bool.and_eq_true, Tm.oks_iff, Fm.oks_iff] at h2
    have hs : t.size ≤ 64 := by
      have h3 := h2.1
      unfold Fm.head at h3
      split at h3
      · simp only [Bool.and_eq_true] at h3
        have h4 := h3.1
        split at h4
        · exact Ty.ok_size (by simpa using h4)
        · obtain ⟨a, b⟩ := t
          simp [Ty.none] at h4
          simp [h4.2]
      · cases h3
    have hm := Tm.sizes_count h2.2.1
    have hl : Fm.sizes l ≤ 66 * Fm.counts l := by
      have h4 := h2.2.2
      clear h h2 hs
      induction l with
      | nil => simp
      | cons x l ihl =>
        have := ih x (by simp) (h4 x (by simp))
        have := ihl (fun y hy => ih y (by simp [hy])) fun y hy => h4 y (by simp [hy])
        simp
        omega
    simp
    omega
def Small (f : Fm) : Prop := f.count ≤ 4096 ∧ f.size ≤ 66 * f.count
theorem small_zero : Small .zeroF := by simp [Small, Fm.zeroF, Ty.zero]
theorem small_bld {k : Int} {s : Ty} {l : List Fm} (hs : s.size ≤ 64) (hl : ∀ x ∈ l, Small x) : Small (bld k s l).1 := by
  unfold bld
  split
  · exact small_zero
  · rename_i h
    have : Fm.sizes l ≤ 66 * Fm.counts l := by
      clear h
      induction l with
      | nil => simp
      | cons x l ih =>
        have := (hl x (by simp)).2
        have := ih fun y hy => hl y (by simp [hy])
        simp
        omega
    refine ⟨by show (Fm.mk k s [] l).count ≤ 4096; omega, ?_⟩
    simp
    omega
theorem small_pair {k : Int} {x y : Fm × Int} (hx : Small x.1) (hy : Small y.1) : Small (pair2 k x y).1 := by
  unfold pair2
  split
  · exact small_zero
  · split
    · exact small_zero
    · exact small_bld (by simp [Ty.zero]) fun z hz => by
        rcases List.mem_cons.1 hz with rfl | hz
        · exact hx
        · rw [List.mem_singleton.1 hz]; exact hy
theorem small_one {k : Int} {s : Ty} {x : Fm × Int} (hs : s.size ≤ 64) (hx : Small x.1) : Small (one1 k s x).1 := by
  unfold one1
  split
  · exact small_zero
  · exact small_bld hs fun z hz => by rw [List.mem_singleton.1 hz]; exact hx
def realF (f : Fm) (t : Tm) : Fm × Int :=
  if f.check ≠ 0 then (.zeroF, f.check) else if t.check ≠ 0 then (.zeroF, t.check) else if f.least 268435456 = false ∨ t.least 268435456 = false then (.zeroF, 1)
  else real f.conn f (if f.has = true then t else .node 13 [])
def placeT (n : Nat) (p : Int) : Tm := if 0 ≤ p then .var ((n : Int) - 1 - p) else .node 13 []
def realHyp (n : Nat) (more p : Int) (h : Fm) : Fm × Int := if h.least 268435456 = false then (.zeroF, 1) else if (h.lift 0 more).2 ≠ 0 then (.zeroF, (h.lift 0 more).2) else realF (h.lift 0 more).1 (placeT n p)
def realHyps (n : Nat) (more : Int) : List Int → List Fm → List Fm × Int
  | p :: ps, h :: hs => if (realHyp n more p h).2 ≠ 0 then ([], (realHyp n more p h).2) else if (realHyps n more ps hs).2 ≠ 0 then ([], (realHyps n more ps hs).2) else ((realHyp n more p h).1 :: (realHyps n more ps hs).1, 0)
  | _, _ => ([], 0)
def realSeq (ts : List Ty) (hs : List Fm) : (List Ty × List Fm) × Int :=
  if (looks ts hs).2.2 ≠ 0 then (([], []), (looks ts hs).2.2)
  else if (realHyps (looks ts hs).1.length (((looks ts hs).1.length : Int) - ts.length) (looks ts hs).2.1 hs).2 ≠ 0 then (([], []), (realHyps (looks ts hs).1.length (((looks ts hs).1.length : Int) - ts.length) (looks ts hs).2.1 hs).2)
  else if 16 < (looks ts hs).1.length then (([], []), 3) else (((looks ts hs).1, (realHyps (looks ts hs).1.length (((looks ts hs).1.length : Int) - ts.length) (looks ts hs).2.1 hs).1), 0)
def hypApp (a : List Fm) (r : List Fm × Int) : List Fm × Int := if r.2 ≠ 0 then ([], r.2) else (a ++ r.1, 0)
theorem realHyps_err (n : Nat) (more : Int) (ps : List Int) (hs : List Fm) : (realHyps n more ps hs).2 ≠ 0 → (realHyps n more ps hs).1 = [] := by
  cases ps with
  | nil => intro h; simp [realHyps] at h
  | cons p ps =>
    cases hs with
    | nil => intro h; simp [realHyps] at h
    | cons x hs =>
      rw [realHyps]
      split
      · intro _; rfl
      · split
        · intro _; rfl
        · intro h; simp at h
theorem hypApp_nil (r : List Fm × Int) (h : r.2 ≠ 0 → r.1 = []) : hypApp [] r = r := by
  unfold hypApp
  split
  · rename_i hr; rw [← h hr]
  · rename_i hr; simp at hr; rw [← hr]; try rfl
theorem look_facts (fs : List Fm) : ∀ (ts : List Ty) (ps : List Int), (look ts ps fs).2.2 = 0 → (∀ p ∈ ps, p = -1 ∨ (0 ≤ p ∧ p < ts.length)) → (look ts ps fs).2.1.length = ps.length + fs.length ∧ ts.length ≤ (look ts ps fs).1.length ∧ (look ts ps fs).1.length ≤ ts.length + fs.length ∧ ∀ p ∈ (look ts ps fs).2.1, p = -1 ∨ (0 ≤ p ∧ p < (look ts ps fs).1.length) := by
  induction fs with
  | nil => intro ts ps _ hp; simp [look]; exact hp
  | cons f fs ih =>
    intro ts ps h hp
    rw [look] at h ⊢
    by_cases h1 : f.check = 0
    · rw [if_pos h1] at h ⊢
      by_cases h2 : f.cof.2.2 = 0
      · rw [if_pos h2] at h ⊢
        by_cases h3 : f.cof.2.1 = true
        · rw [if_pos h3] at h ⊢
          have := ih _ _ h (by
            intro p hm
            rcases List.mem_append.1 hm with hm | hm
            · rcases hp p hm with h | h
              · exact .inl h
              · right; simp; omega
            · right; rw [List.mem_singleton.1 hm]; simp; omega)
          simp at this
          exact ⟨by simp; omega, by omega, by simp; omega, this.2.2.2⟩
        · rw [if_neg h3] at h ⊢
          have := ih _ _ h (by
            intro p hm
            rcases List.mem_append.1 hm with hm | hm
            · exact hp p hm
            · left; exact List.mem_singleton.1 hm)
          simp at this
          exact ⟨by simp; omega, by omega, by simp; omega, this.2.2.2⟩
      · rw [if_neg h2] at h; exact absurd h h2
    · rw [if_neg h1] at h; exact absurd h h1
theorem looks_facts {ts : List Ty} {hs : List Fm} (h : (looks ts hs).2.2 = 0) : ctxCheck ts = 0 ∧ hs.length ≤ 16 ∧ (looks ts hs).2.1.length = hs.length ∧ ts.length ≤ (looks ts hs).1.length ∧ (looks ts hs).1.length ≤ ts.length + hs.length ∧ ∀ p ∈ (looks ts hs).2.1, p = -1 ∨ (0 ≤ p ∧ p < (looks ts hs).1.length) := by
  unfold looks at h ⊢
  by_cases h1 : ctxCheck ts = 0
  · rw [if_pos h1] at h ⊢
    by_cases h2 : 16 < hs.length
    · rw [if_pos h2] at h; cases h
    · rw [if_neg h2] at h ⊢
      have := look_facts hs ts [] h (by simp)
      simp at this
      exact ⟨h1, by omega, this⟩
  · rw [if_neg h1] at h; exact absurd h h1
def Tm.putIn (t : Tm) (a : Int) (s : Tm) : Tm × Int :=
  if t.check ≠ 0 then (.zeroT, t.check) else if a < 0 ∨ 4096 < a then (.zeroT, 1) else if s.check ≠ 0 then (.zeroT, s.check)
  else if t.least 536870912 = false ∨ s.least 536870912 = false then (.zeroT, 1)
  else if 4096 < (t.count : Int) + t.times a * ((s.count : Int) - 1) then (.zeroT, 4) else (t.put a 0 s, 0)
end Go.Proofs.YtnpgbkldpdogjaaGreatDoor.V

set_option maxRecDepth 100000
namespace Go.Proofs.YtnpgbkldpdogjaaGreatDoor.V
open Go Go.Proofs
def tupF (r : Fm × Int) : PV := .tup [.agg (encF r.1), .one (.int .i64 r.2)]
@[simp] theorem tupF_er (r : Fm × Int) : erV (tupF r) = tupF r := by simp [tupF]
theorem c40 (f : Fm) (hc : f.check = 0) (hsz : f.size ≤ 549755813888) (hle : f.least 9223372036854775807 = true) (σ : List Frm) : CallsV cfg 40 [.agg (encF f)] σ (.val (.one (.bool f.has))) σ := by
  refine w40 (by simp) ?_
  rw [s40]
  simp
  refine opV_call (c89 f hsz hle _) (by simp) ?_
  rw [hasOf_eq hc]
  simp
theorem c96 (k : Int) (s : Ty) (l : List Fm) (hsz : (Fm.mk k s [] l).size ≤ 1099511627776) (σ : List Frm) : CallsV cfg 96 [.one (.int .i64 k), .agg (enc s), .one (.slice .no 5 (l.map encF))] σ (.val (tupF (bld k s l))) σ := by
  refine w96 (by simp) ?_
  rw [s96]
  simp
  refine opV_call (c125 (.mk k s [] l) hsz _) (by simp) ?_
  unfold bld
  by_cases h : 4096 < (Fm.mk k s [] l).count
  · have h' : (4096 : Int) < (Fm.mk k s [] l).count := by omega
    rw [if_pos h]
    simp only [Fm.count_mk] at h'
    simp at h'
    simp [h', tupF, Fm.zeroF, Ty.zero]
  · have h' : ¬ (4096 : Int) < (Fm.mk k s [] l).count := by omega
    rw [if_neg h]
    simp only [Fm.count_mk] at h'
    simp at h'
    have h'' : ¬ (4096 : Int) < 1 + (Fm.counts l : Int) := by omega
    simp [h'', tupF]
theorem c92 {a b : Fm} {s t : Tm} {x y : Fm × Int} (hx : Small x.1) (hy : Small y.1) (h1 : ∀ σ, CallsV cfg 42 [.agg (encF a), .agg (encT s)] σ (.val (tupF x)) σ) (h2 : ∀ σ, CallsV cfg 42 [.agg (encF b), .agg (encT t)] σ (.val (tupF y)) σ) (k : Int) (σ : List Frm) :
    CallsV cfg 92 [.one (.int .i64 k), .agg (encF a), .agg (encT s), .agg (encF b), .agg (encT t)] σ (.val (tupF (pair2 k x y))) σ := by
  refine w92 (by simp) ?_
  rw [s92]
  simp
  refine opV_call (h1 _) (by simp) ?_
  unfold pair2
  by_cases e1 : x.2 = 0
  rotate_left
  · have e1' : (x.2 == 0) = false := by simpa using e1
    simp [tupF, e1, e1', bne, Fm.zeroF, Ty.zero]
  simp [tupF, e1]
  refine opV_call (h2 _) (by simp) ?_
  by_cases e2 : y.2 = 0
  rotate_left
  · have e2' : (y.2 == 0) = false := by simpa using e2
    simp [tupF, e2, e2', bne, Fm.zeroF, Ty.zero]
  simp [tupF, e2]
  obtain ⟨a1, a2⟩ := hx
  obtain ⟨b1, b2⟩ := hy
  refine opV_call (c96 k .zero [x.1, y.1] (by simp [Ty.zero]; omega) _) (by simp [Ty.zero]) ?_
  simp [tupF]
structure RIn (n : Nat) (M : Int) (f : Fm) (t : Tm) : Prop where
  fok : f.ok = true
  fc : f.count ≤ 4096
  conn : f.conn ≤ n
  fl : f.least M = true
  tok : t.ok = true
  tc : t.count ≤ 4200
  tl : t.least M = true
  m0 : 0 ≤ M
  m1 : M + (n : Int) * 300000 ≤ 4611686018427387904
theorem RIn.fs {n : Nat} {M : Int} {f : Fm} {t : Tm} (h : RIn n M f t) : f.size ≤ 300000 := by have := f.size_count h.fok; have := h.fc; omega
theorem RIn.ts {n : Nat} {M : Int} {f : Fm} {t : Tm} (h : RIn n M f t) : t.size ≤ 300000 := by have := t.size_count h.tok; have := h.tc; omega
theorem RIn.fl' {n : Nat} {M : Int} {f : Fm} {t : Tm} (h : RIn n M f t) : f.least 9223372036854775807 = true := Fm.least_mono (by have := h.m1; omega) f h.fl
theorem RIn.fk {n : Nat} {M : Int} {f : Fm} {t : Tm} (h : RIn n M f t) : f.check = 0 := Fm.check_small h.fok h.fc
theorem RIn.sub {n : Nat} {M : Int} {k : Int} {s : Ty} {m : List Tm} {l : List Fm} {t u : Tm} (h : RIn (n + 1) M (.mk k s m l) t) {x : Fm} (hx : x ∈ l) (h1 : u.ok = true) (h2 : u.count ≤ 4200) (h3 : u.least M = true) : RIn n M x u := by
  have hc := h.fc
  have hn := h.conn
  have hm := h.m1
  have h0 := h.m0
  simp at hc hn
  refine ⟨(Fm.ok_parts h.fok).2 x hx, ?_, ?_, (Fm.least_parts h.fl).2 x hx, h1, h2, h3, h0, by omega⟩
  · have : x.count ≤ Fm.counts l := by
      clear hc hn h
      induction l with
      | nil => simp at hx
      | cons y l ih =>
        rcases List.mem_cons.1 hx with rfl | hx
        · simp
        · have := ih hx; simp; omega
    omega
  · have : x.conn ≤ Fm.conns l := by
      clear hc hn h
      induction l with
      | nil => simp at hx
      | cons y l ih =>
        rcases List.mem_cons.1 hx with rfl | hx
        · simp
        · have := ih hx; simp; omega
    omega
theorem RIn.term {n : Nat} {M : Int} {f : Fm} {t u : Tm} (h : RIn n M f t) (h1 : u.ok = true) (h2 : u.count ≤ 4200) (h3 : u.least M = true) : RIn n M f u := ⟨h.fok, h.fc, h.conn, h.fl, h1, h2, h3, h.m0, h.m1⟩
theorem RIn.mono {n : Nat} {M M' : Int} {f : Fm} {t : Tm} (h : RIn n M f t) (hM : M ≤ M') (h1 : M' + (n : Int) * 300000 ≤ 4611686018427387904) : RIn n M' f t := ⟨h.fok, h.fc, h.conn, Fm.least_mono hM f h.fl, h.tok, h.tc, Tm.least_mono hM t h.tl, by have := h.m0; omega, h1⟩
theorem RIn.up {n : Nat} {M : Int} {f : Fm} {t u : Tm} (h : RIn n M f t) (hm : M + 1 + (n : Int) * 300000 ≤ 4611686018427387904) (h1 : u.ok = true) (h2 : u.count ≤ 4200) (h3 : u.least (M + 1) = true) : RIn n (M + 1) (f.up 0 1) u :=
  ⟨Fm.up_ok f 0 1 (by omega) h.fok, by rw [Fm.up_count]; exact h.fc, by rw [Fm.up_conn]; exact h.conn, Fm.up_least (by omega) f 0 h.fl, h1, h2, h3, by have := h.m0; omega, hm⟩
theorem node_ok {k : Int} {t : Tm} (hk : k = 11 ∨ k = 12) (h : t.ok = true) : (Tm.node k [t]).ok = true := by
  rcases hk with rfl | rfl <;> (simp [Tm.node, h]; rfl)
theorem node_least {k : Int} {t : Tm} {m : Int} (hm : 0 ≤ m) (h : t.least m = true) : (Tm.node k [t]).least m = true := by
  simp [Tm.node, Tm.least_mk, Tm.leasts, hm, h]
theorem node_count {k : Int} {t : Tm} : (Tm.node k [t]).count = 1 + t.count := by simp [Tm.node]
theorem undT_facts {t : Tm} {M : Int} (h : Bool) (h0 : 0 ≤ M) (hok : t.ok = true) (hl : t.least M = true) : (undT h t).ok = true ∧ (undT h t).count ≤ t.count + 2 ∧ (undT h t).least (M + 1) = true := by
  have u1 := Tm.up_ok t 0 1 (by omega) hok
  have u2 := Tm.up_count t 0 1
  have u3 := Tm.up_least (b := 1) (by omega) t 0 hl
  have v1 : (Tm.var 0).ok = true := Tm.var_ok (by omega)
  unfold undT
  cases h with
  | false => exact ⟨u1, by rw [if_neg (by simp), u2]; omega, u3⟩
  | true =>
    rw [if_pos rfl]
    refine ⟨Tm.app_ok u1 v1, ?_, ?_⟩
    · simp [callT, Tm.node, Tm.var, u2]
      omega
    · have hM : 0 ≤ M + 1 := by omega
      simp [callT, Tm.node, Tm.least_mk, Tm.leasts, Tm.var, u3, hM]
end Go.Proofs.YtnpgbkldpdogjaaGreatDoor.V

set_option maxRecDepth 100000
namespace Go.Proofs.YtnpgbkldpdogjaaGreatDoor.V
open Go Go.Proofs
def Known (n : Nat) : Prop := ∀ (M : Int) (f : Fm) (t : Tm), RIn n M f t → Small (real n f t).1 ∧ ∀ σ, CallsV cfg 42 [.agg (encF f), .agg (encT t)] σ (.val (tupF (real n f t))) σ
def realImp (n : Nat) (y x : Fm) (t : Tm) : Fm × Int :=
  if y.has = false then pair2 3 (real n y t) (real n x t) else if (ctype y).2 ≠ 0 then (.zeroF, (ctype y).2)
  else one1 4 (ctype y).1 (pair2 3 (real n (y.up 0 1) (.var 0)) (real n (x.up 0 1) (undT x.has t)))
theorem c93 {n : Nat} (ih : Known n) {M : Int} {s : Ty} {m : List Tm} {y x : Fm} {t : Tm} (h : RIn (n + 1) M (.mk 3 s m [y, x]) t) (htc : t.count ≤ 4096) (σ : List Frm) : CallsV cfg 93 [.agg (encF (.mk 3 s m [y, x])), .agg (encT t)] σ (.val (tupF (realImp n y x t))) σ := by
  have hy := h.sub (x := y) (by simp) h.tok h.tc h.tl
  have hx := h.sub (x := x) (by simp) h.tok h.tc h.tl
  have hm1 := h.m1
  have hM1 : M + 1 + (n : Int) * 300000 ≤ 4611686018427387904 := by omega
  have h0 := h.m0
  refine w93 (by simp) ?_
  rw [s93]
  simp
  refine opV_call (c40 y hy.fk (by have := hy.fs; omega) hy.fl' _) (by simp) ?_
  unfold realImp
  cases hyh : y.has with
  | false =>
    simp
    refine wpP_draw (fun _ _ _ => false) ?_
    simp
    refine stepD_call (c92 (ih M y t hy).1 (ih M x t hx).1 (ih M y t hy).2 (ih M x t hx).2 3 _) (by simp) ?_
    simp [tupF]
  | true =>
    simp
    refine opV_call (c123 y (by have := hy.fs; omega) _) (by simp) ?_
    by_cases hc : (ctype y).2 = 0
    rotate_left
    · have hc' : ((ctype y).2 == 0) = false := by simpa using hc
      simp [enc2, tupF, hc, hc', bne, Fm.zeroF, Ty.zero]
    have hcs := ctype_size y
    have hu := undT_facts x.has h0 h.tok h.tl
    have iy := hy.up (u := .var 0) hM1 (Tm.var_ok (by omega)) (by simp [Tm.var]) (by simp [Tm.var, Tm.least_mk, Tm.leasts]; omega)
    have ix := hx.up (u := undT x.has t) hM1 hu.1 (by omega) hu.2.2
    have b1 := ih _ _ _ iy
    have b2 := ih _ _ _ ix
    have hts := h.ts
    simp [enc2, hc]
    refine opV_call (c94 t h.tok (by omega) 0 1 M h.tl (by omega) (by omega) (by omega) (by omega) _) (by simp) ?_
    simp
    refine opV_call (c40 x hx.fk (by have := hx.fs; omega) hx.fl' _) (by simp) ?_
    cases hxh : x.has with
    | false =>
      have e : undT false t = t.up 0 1 := rfl
      rw [hxh, e] at b2
      rw [e]
      simp
      refine wpP_draw (fun _ _ _ => false) ?_
      simp
      refine stepD_call (c124 y hy.fok (by have := hy.fs; omega) hy.fl 1 (by omega) (by omega) _) (by simp) ?_
      simp
      refine stepD_call (c71 0 _) (by simp) ?_
      simp
      refine stepD_call (c124 x hx.fok (by have := hx.fs; omega) hx.fl 1 (by omega) (by omega) _) (by simp) ?_
      simp
      refine stepD_call (c92 b1.1 b2.1 b1.2 b2.2 3 _) (by simp) ?_
      generalize hP : pair2 3 (real n (y.up 0 1) (.var 0)) (real n (x.up 0 1) (t.up 0 1)) = P
      have hsm : Small P.1 := by rw [← hP]; exact small_pair b1.1 b2.1
      unfold one1
      by_cases hp : P.2 = 0
      rotate_left
      · have hp' : (P.2 == 0) = false := by simpa using hp
        simp [tupF, hp, hp', bne, Fm.zeroF, Ty.zero]
      obtain ⟨q1, q2⟩ := hsm
      simp [tupF, hp]
      refine opV_call (c96 4 (ctype y).1 [P.1] (by simp; omega) _) (by simp) ?_
      simp [tupF]
    | true =>
      have e : undT true t = .node 3 [t.up 0 1, .var 0] := rfl
      rw [hxh, e] at b2
      rw [e]
      simp
      refine opV_call (c95 t h.tok (by omega) h.tl (by omega) _) (by simp) ?_
      simp
      refine wpP_draw (fun _ _ _ => false) ?_
      simp
      refine stepD_call (c124 y hy.fok (by have := hy.fs; omega) hy.fl 1 (by omega) (by omega) _) (by simp) ?_
      simp
      refine stepD_call (c71 0 _) (by simp) ?_
      simp
      refine stepD_call (c124 x hx.fok (by have := hx.fs; omega) hx.fl 1 (by omega) (by omega) _) (by simp) ?_
      simp
      refine stepD_call (c92 b1.1 b2.1 b1.2 b2.2 3 _) (by simp) ?_
      generalize hP : pair2 3 (real n (y.up 0 1) (.var 0)) (real n (x.up 0 1) (.node 3 [t.up 0 1, .var 0])) = P
      have hsm : Small P.1 := by rw [← hP]; exact small_pair b1.1 b2.1
      unfold one1
      by_cases hp : P.2 = 0
      rotate_left
      · have hp' : (P.2 == 0) = false := by simpa using hp
        simp [tupF, hp, hp', bne, Fm.zeroF, Ty.zero]
      obtain ⟨q1, q2⟩ := hsm
      simp [tupF, hp]
      refine opV_call (c96 4 (ctype y).1 [P.1] (by simp; omega) _) (by simp) ?_
      simp [tupF]
def realEx (n : Nat) (x : Fm) (w r : Tm) : Fm × Int := if 4096 < w.count ∨ 4096 < (x.count : Int) + ((w.count : Int) - 1) * x.times 0 then (.zeroF, 4) else real n (x.put 0 0 w) r
theorem RIn.put {n : Nat} {M : Int} {x : Fm} {w r : Tm} (h : RIn n M x w) (hm : M + 300000 + (n : Int) * 300000 ≤ 4611686018427387904) (hg : (x.count : Int) + ((w.count : Int) - 1) * x.times 0 ≤ 4096) (h1 : r.ok = true) (h2 : r.count ≤ 4200) (h3 : r.least M = true) : RIn n (M + 300000) (x.put 0 0 w) r := by
  have hp := Fm.put_count x w 0 0 h.fok
  rw [show (0 : Int) + 0 = 0 from rfl, Int.mul_comm] at hp
  refine ⟨Fm.put_ok x h.tok 0 0 (by omega) (by omega) h.fok, by omega, by rw [Fm.put_conn]; exact h.conn, ?_, h1, h2, Tm.least_mono (by omega) r h3, by have := h.m0; omega, hm⟩
  exact Fm.put_least h.tl x 0 0 (by omega) (by omega) (by have := h.fs; omega) h.fl
theorem c97 {n : Nat} (ih : Known n) {M : Int} {s : Ty} {m : List Tm} {x : Fm} {t : Tm} (h : RIn (n + 1) M (.mk 5 s m [x]) t) (htc : t.count ≤ 4096) (σ : List Frm) :
    Small (if x.has = true then realEx n x (.node 11 [t]) (.node 12 [t]) else realEx n x t t).1 ∧ CallsV cfg 97 [.agg (encF (.mk 5 s m [x])), .agg (encT t)] σ (.val (tupF (if x.has = true then realEx n x (.node 11 [t]) (.node 12 [t]) else realEx n x t t))) σ := by
  have hx := h.sub (x := x) (by simp) h.tok h.tc h.tl
  have hm1 := h.m1
  have h0 := h.m0
  have hM1 : M + 300000 + (n : Int) * 300000 ≤ 4611686018427387904 := by omega
  have hfs := hx.fs
  have hfc := hx.fc
  -- one run, for any witness and rest
  have main : ∀ (w r : Tm), w.ok = true → w.count ≤ 4200 → w.least M = true → r.ok = true → r.count ≤ 4200 → r.least M = true → Small (realEx n x w r).1 ∧
      (¬ 4096 < w.count → (x.count : Int) + ((w.count : Int) - 1) * x.times 0 ≤ 4096 → ∀ σ, CallsV cfg 42 [.agg (encF (x.put 0 0 w)), .agg (encT r)] σ (.val (tupF (realEx n x w r))) σ) := by
    intro w r w1 w2 w3 r1 r2 r3
    unfold realEx
    split
    · rename_i hbig
      exact ⟨small_zero, fun a b => by omega⟩
    · rename_i hbig
      have hp := (hx.term w1 w2 w3).put (r := r) hM1 (by omega) r1 r2 r3
      have b := ih _ _ _ hp
      exact ⟨b.1, fun _ _ => b.2⟩
  have f1 := node_ok (k := 11) (.inl rfl) h.tok
  have f2 := node_ok (k := 12) (.inr rfl) h.tok
  have g1 := node_least (k := 11) h0 h.tl
  have g2 := node_least (k := 12) h0 h.tl
  have n1 : (Tm.node 11 [t]).count = 1 + t.count := node_count
  have n2 : (Tm.node 12 [t]).count = 1 + t.count := node_count
  have mT := main (.node 11 [t]) (.node 12 [t]) f1 (by omega) g1 f2 (by omega) g2
  have mF := main t t h.tok h.tc h.tl h.tok h.tc h.tl
  refine ⟨by split; exact mT.1; exact mF.1, ?_⟩
  have hts := h.ts
  refine w97 (by simp) ?_
  rw [s97]
  simp
  refine wpP_draw (fun _ t _ => decide (t = 6 ∨ t = 7 ∨ t = 8)) ?_
  simp
  refine opV_call (c40 x hx.fk (by omega) hx.fl' _) (by simp) ?_
  -- the rest, for any witness
  cases hxh : x.has with
  | false =>
    have k1 := mF.2
    simp
    refine opV_call (c90 t (by omega) _) (by simp) ?_
    by_cases hb : 4096 < t.count
    · omega
    have hb' : ¬ (4096 : Int) < t.count := by omega
    simp [hb']
    refine opV_call (c126 x hx.fok (by omega) (by omega) hx.fl' t (by omega) (by omega) _) (by simp) ?_
    by_cases hg : 4096 < (x.count : Int) + ((t.count : Int) - 1) * x.times 0
    · have e : realEx n x t t = (.zeroF, 4) := by unfold realEx; rw [if_pos (.inr hg)]
      rw [e]
      simp [hg, tupF, Fm.zeroF, Ty.zero]
    · simp [hg]
      refine wpP_draw (fun _ _ _ => false) ?_
      simp
      refine stepD_call (c127 x hx.fok (by omega) hx.fl' t h.tok (by omega) h.tl (by omega) _) (by simp) ?_
      simp
      refine stepD_call (k1 hb (by omega) _) (by simp) ?_
      simp [tupF]
  | true =>
    have k1 := mT.2
    have z1 := (Tm.node 11 [t]).size_count f1
    simp
    refine wpP_draw (fun _ t _ => decide (t = 7 ∨ t = 8)) ?_
    simp
    refine stepD_call (c91 11 t _) (by simp) ?_
    simp
    refine stepD_call (c91 12 t _) (by simp) ?_
    simp
    refine opV_call (c90 (.node 11 [t]) (by omega) _) (by simp) ?_
    by_cases hb : 4096 < (Tm.node 11 [t]).count
    · have hb' : (4096 : Int) < (Tm.node 11 [t]).count := by omega
      have e : realEx n x (.node 11 [t]) (.node 12 [t]) = (.zeroF, 4) := by unfold realEx; rw [if_pos (.inl hb)]
      rw [e]
      simp [hb', tupF, Fm.zeroF, Ty.zero]
    have hb' : ¬ (4096 : Int) < (Tm.node 11 [t]).count := by omega
    simp [hb']
    refine opV_call (c126 x hx.fok (by omega) (by omega) hx.fl' (.node 11 [t]) (by omega) (by omega) _) (by simp) ?_
    by_cases hg : 4096 < (x.count : Int) + (((Tm.node 11 [t]).count : Int) - 1) * x.times 0
    · have e : realEx n x (.node 11 [t]) (.node 12 [t]) = (.zeroF, 4) := by unfold realEx; rw [if_pos (.inr hg)]
      rw [e]
      simp [hg, tupF, Fm.zeroF, Ty.zero]
    · simp [hg]
      refine wpP_draw (fun _ _ _ => false) ?_
      simp
      refine stepD_call (c127 x hx.fok (by omega) hx.fl' (.node 11 [t]) f1 (by omega) g1 (by omega) _) (by simp) ?_
      simp
      refine stepD_call (k1 hb (by omega) _) (by simp) ?_
      simp [tupF]
end Go.Proofs.YtnpgbkldpdogjaaGreatDoor.V

set_option maxRecDepth 100000
namespace Go.Proofs.YtnpgbkldpdogjaaGreatDoor.V
open Go Go.Proofs
theorem real_big {n : Nat} {f : Fm} {t : Tm} (h : 4096 < t.count) : real (n + 1) f t = (.zeroF, 4) := by rw [real, if_pos h]
theorem real_eq {n : Nat} {s : Ty} {m : List Tm} {t : Tm} (h : ¬ 4096 < t.count) : real (n + 1) (.mk 1 s m []) t = (.mk 1 s m [], 0) := by rw [real, if_neg h]; simp
theorem real_and {n : Nat} {s : Ty} {m : List Tm} {y x : Fm} {t : Tm} (h : ¬ 4096 < t.count) : real (n + 1) (.mk 2 s m [y, x]) t = if (y.has && x.has) = true then pair2 2 (real n y (.node 11 [t])) (real n x (.node 12 [t])) else pair2 2 (real n y t) (real n x t) := by
  rw [real, if_neg h]; simp [Fm.kid, Fm.kids]
theorem real_imp {n : Nat} {s : Ty} {m : List Tm} {y x : Fm} {t : Tm} (h : ¬ 4096 < t.count) : real (n + 1) (.mk 3 s m [y, x]) t = realImp n y x t := by
  rw [real, if_neg h]; simp [Fm.kid, Fm.kids, realImp]
theorem real_all {n : Nat} {k : Int} (hk : k = 4 ∨ k = 6 ∨ k = 7) {s : Ty} {m : List Tm} {x : Fm} {t : Tm} (h : ¬ 4096 < t.count) : real (n + 1) (.mk k s m [x]) t = one1 (if k = 6 then 4 else k) s (real n x (undT (decide (k = 4) && x.has) t)) := by
  rw [real, if_neg h]; rcases hk with rfl | rfl | rfl <;> simp [Fm.kid, Fm.kids, Fm.ty]
theorem real_ex {n : Nat} {s : Ty} {m : List Tm} {x : Fm} {t : Tm} (h : ¬ 4096 < t.count) : real (n + 1) (.mk 5 s m [x]) t = if x.has = true then realEx n x (.node 11 [t]) (.node 12 [t]) else realEx n x t t := by
  rw [real, if_neg h]; simp [Fm.kid, Fm.kids, realEx]
theorem realImp_small {n : Nat} (ih : Known n) {M : Int} {s : Ty} {m : List Tm} {y x : Fm} {t : Tm} (h : RIn (n + 1) M (.mk 3 s m [y, x]) t) (htc : t.count ≤ 4096) : Small (realImp n y x t).1 := by
  have hy := h.sub (x := y) (by simp) h.tok h.tc h.tl
  have hx := h.sub (x := x) (by simp) h.tok h.tc h.tl
  have hm1 := h.m1
  have h0 := h.m0
  have hM1 : M + 1 + (n : Int) * 300000 ≤ 4611686018427387904 := by omega
  have hu := undT_facts x.has h0 h.tok h.tl
  unfold realImp
  split
  · exact small_pair (ih _ _ _ hy).1 (ih _ _ _ hx).1
  · split
    · exact small_zero
    · exact small_one (ctype_size y) (small_pair (ih _ _ _ (hy.up (u := .var 0) hM1 (Tm.var_ok (by omega)) (by simp [Tm.var]) (by simp [Tm.var, Tm.least_mk, Tm.leasts]; omega))).1 (ih _ _ _ (hx.up (u := undT x.has t) hM1 hu.1 (by omega) hu.2.2)).1)
theorem known (n : Nat) : Known n := by
  induction n with
  | zero =>
    intro M f t h
    have := f.conn_pos
    have := h.conn
    omega
  | succ n ih =>
    rintro M ⟨k, s, m, l⟩ t h
    have hts := h.ts
    have h0 := h.m0
    have hm1 := h.m1
    by_cases htc : 4096 < t.count
    · have htc' : (4096 : Int) < t.count := by omega
      rw [real_big htc]
      refine ⟨small_zero, fun σ => ?_⟩
      refine w42 (by simp) ?_
      rw [s42]
      simp
      refine opV_call (c90 t (by omega) _) (by simp) ?_
      simp [htc', tupF, Fm.zeroF, Ty.zero]
    have htc' : ¬ (4096 : Int) < t.count := by omega
    have f1 := node_ok (k := 11) (.inl rfl) h.tok
    have f2 := node_ok (k := 12) (.inr rfl) h.tok
    have g1 := node_least (k := 11) h0 h.tl
    have g2 := node_least (k := 12) h0 h.tl
    have n1 : (Tm.node 11 [t]).count = 1 + t.count := node_count
    have n2 : (Tm.node 12 [t]).count = 1 + t.count := node_count
    rcases Fm.shape h.fok with ⟨rfl, rfl⟩ | ⟨hk, y, x, rfl, _, _⟩ | ⟨hk, hs, x, rfl, _⟩
    · rw [real_eq htc]
      refine ⟨⟨h.fc, Fm.size_count _ h.fok⟩, fun σ => ?_⟩
      refine w42 (by simp) ?_
      rw [s42]
      simp
      refine opV_call (c90 t (by omega) _) (by simp) ?_
      simp [htc', tupF]
    · have hy := h.sub (x := y) (by simp) h.tok h.tc h.tl
      have hx := h.sub (x := x) (by simp) h.tok h.tc h.tl
      rcases hk with rfl | rfl
      · have hy1 := h.sub (x := y) (by simp) f1 (by omega) g1
        have hx1 := h.sub (x := x) (by simp) f2 (by omega) g2
        rw [real_and htc]
        refine ⟨by split; exact small_pair (ih _ _ _ hy1).1 (ih _ _ _ hx1).1; exact small_pair (ih _ _ _ hy).1 (ih _ _ _ hx).1, fun σ => ?_⟩
        refine w42 (by simp) ?_
        rw [s42]
        simp
        refine opV_call (c90 t (by omega) _) (by simp) ?_
        simp [htc']
        refine wpP_draw (fun _ t _ => decide (t = 6 ∨ t = 7)) ?_
        simp
        refine opV_call (c40 y hy.fk (by have := hy.fs; omega) hy.fl' _) (by simp) ?_
        have both : (y.has && x.has) = true ∨ (y.has && x.has) = false := by cases (y.has && x.has) <;> simp
        cases hyh : y.has with
        | false =>
          simp
          refine wpP_draw (fun _ _ _ => false) ?_
          simp
          refine stepD_call (c92 (ih _ _ _ hy).1 (ih _ _ _ hx).1 (ih _ _ _ hy).2 (ih _ _ _ hx).2 2 _) (by simp) ?_
          simp [tupF]
        | true =>
          simp
          refine opV_call (c40 x hx.fk (by have := hx.fs; omega) hx.fl' _) (by simp) ?_
          cases hxh : x.has with
          | false =>
            simp
            refine wpP_draw (fun _ _ _ => false) ?_
            simp
            refine stepD_call (c92 (ih _ _ _ hy).1 (ih _ _ _ hx).1 (ih _ _ _ hy).2 (ih _ _ _ hx).2 2 _) (by simp) ?_
            simp [tupF]
          | true =>
            simp
            refine wpP_draw (fun _ t _ => decide (t = 6 ∨ t = 7)) ?_
            simp
            refine stepD_call (c91 11 t _) (by simp) ?_
            simp
            refine stepD_call (c91 12 t _) (by simp) ?_
            simp
            refine wpP_draw (fun _ _ _ => false) ?_
            simp
            refine stepD_call (c92 (ih _ _ _ hy1).1 (ih _ _ _ hx1).1 (ih _ _ _ hy1).2 (ih _ _ _ hx1).2 2 _) (by simp) ?_
            simp [tupF]
      · rw [real_imp htc]
        refine ⟨realImp_small ih h (by omega), fun σ => ?_⟩
        refine w42 (by simp) ?_
        rw [s42]
        simp
        refine opV_call (c90 t (by omega) _) (by simp) ?_
        simp [htc']
        refine opV_call (c93 ih h (by omega) _) (by simp) ?_
        simp [tupF]
    · have hx := h.sub (x := x) (by simp) h.tok h.tc h.tl
      have hs64 := Ty.ok_size hs
      by_cases h5 : k = 5
      · subst h5
        rw [real_ex htc]
        have hc := fun σ => c97 ih h (by omega) σ
        refine ⟨(hc []).1, fun σ => ?_⟩
        refine w42 (by simp) ?_
        rw [s42]
        simp
        refine opV_call (c90 t (by omega) _) (by simp) ?_
        simp [htc']
        refine opV_call (hc _).2 (by simp) ?_
        simp [tupF]
      · have hk' : k = 4 ∨ k = 6 ∨ k = 7 := by omega
        have hu := undT_facts (decide (k = 4) && x.has) h0 h.tok h.tl
        have hM1 : M + 1 + (n : Int) * 300000 ≤ 4611686018427387904 := by omega
        have ix := (hx.mono (M' := M + 1) (by omega) hM1).term hu.1 (by omega) hu.2.2
        rw [real_all hk' htc]
        have b := ih _ _ _ ix
        refine ⟨small_one hs64 b.1, fun σ => ?_⟩
        -- behind the choice of the term
        have tail : ∀ (K : Int), (k = 6 → K = 4) → (k ≠ 6 → K = k) → Small (real n x (undT (decide (k = 4) && x.has) t)).1 := fun _ _ _ => b.1
        obtain ⟨q1, q2⟩ := b.1
        have up1 : CallsV cfg 94 [.agg (encT t), .one (.int .i64 0), .one (.int .i64 1)] σ (.val (.agg (encT (t.up 0 1)))) σ := c94 t h.tok (by omega) 0 1 M h.tl (by omega) (by omega) (by omega) (by omega) _
        refine w42 (by simp) ?_
        rw [s42]
        rcases hk' with rfl | rfl | rfl
        · simp
          refine opV_call (c90 t (by omega) _) (by simp) ?_
          simp [htc']
          refine opV_call (c94 t h.tok (by omega) 0 1 M h.tl (by omega) (by omega) (by omega) (by omega) _) (by simp) ?_
          simp
          refine opV_call (c40 x hx.fk (by have := hx.fs; omega) hx.fl' _) (by simp) ?_
          cases hxh : x.has with
          | false =>
            have e : undT (decide ((4 : Int) = 4) && false) t = t.up 0 1 := rfl
            rw [hxh, e] at b q1 q2
            simp
            refine wpP_draw (fun _ _ _ => false) ?_
            simp
            refine stepD_call (b.2 _) (by simp) ?_
            have e' : undT false t = t.up 0 1 := rfl
            rw [e']
            generalize real n x (t.up 0 1) = P at *
            unfold one1
            by_cases hp : P.2 = 0
            rotate_left
            · have hp' : (P.2 == 0) = false := by simpa using hp
              simp [tupF, hp, hp', bne, Fm.zeroF, Ty.zero]
            simp [tupF, hp]
            refine opV_call (c96 4 s [P.1] (by simp; omega) _) (by simp) ?_
            simp [tupF]
          | true =>
            have e : undT (decide ((4 : Int) = 4) && true) t = .node 3 [t.up 0 1, .var 0] := rfl
            rw [hxh, e] at b q1 q2
            simp
            refine opV_call (c95 t h.tok (by omega) h.tl (by omega) _) (by simp) ?_
            simp
            refine wpP_draw (fun _ _ _ => false) ?_
            simp
            refine stepD_call (b.2 _) (by simp) ?_
            have e' : undT true t = .node 3 [t.up 0 1, .var 0] := rfl
            rw [e']
            generalize real n x (.node 3 [t.up 0 1, .var 0]) = P at *
            unfold one1
            by_cases hp : P.2 = 0
            rotate_left
            · have hp' : (P.2 == 0) = false := by simpa using hp
              simp [tupF, hp, hp', bne, Fm.zeroF, Ty.zero]
            simp [tupF, hp]
            refine opV_call (c96 4 s [P.1] (by simp; omega) _) (by simp) ?_
            simp [tupF]
        all_goals
          have e' : undT false t = t.up 0 1 := rfl
          simp [e'] at b q1 q2
          simp
          refine opV_call (c90 t (by omega) _) (by simp) ?_
          simp [htc']
          refine opV_call (c94 t h.tok (by omega) 0 1 M h.tl (by omega) (by omega) (by omega) (by omega) _) (by simp) ?_
          simp
          refine wpP_draw (fun _ _ _ => false) ?_
          simp
          refine stepD_call (b.2 _) (by simp) ?_
          rw [e']
          generalize real n x (t.up 0 1) = P at *
          unfold one1
          by_cases hp : P.2 = 0
          rotate_left
          · have hp' : (P.2 == 0) = false := by simpa using hp
            simp [tupF, hp, hp', bne, Fm.zeroF, Ty.zero]
          simp [tupF, hp]
        · refine opV_call (c96 4 s [P.1] (by simp; omega) _) (by simp) ?_
          simp [tupF]
        · refine opV_call (c96 7 s [P.1] (by simp; omega) _) (by simp) ?_
          simp [tupF]
theorem c14 (f : Fm) (t : Tm) (hf : f.size ≤ 549755813888) (ht : t.size ≤ 549755813888) (hle : t.least 9223372036854775807 = true) (σ : List Frm) : Small (realF f t).1 ∧ CallsV cfg 14 [.agg (encF f), .agg (encT t)] σ (.val (tupF (realF f t))) σ := by
  have run : ∀ u : Tm, f.check = 0 → f.least 268435456 = true → u.check = 0 → u.least 268435456 = true → RIn f.conn 268435456 f u := by
    intro u h1 h2 h3 h4
    obtain ⟨a1, a2⟩ := Fm.check_ok2 h1
    obtain ⟨b1, b2⟩ := Tm.check_ok h3
    have := f.conn_le
    exact ⟨a1, a2, Nat.le_refl _, h2, b1, by omega, h4, by omega, by omega⟩
  have hu : (Tm.node 13 []).check = 0 := rfl
  have hul : (Tm.node 13 []).least 268435456 = true := rfl
  constructor
  · unfold realF
    split
    · exact small_zero
    split
    · exact small_zero
    split
    · exact small_zero
    rename_i h1 h2 h3
    simp at h1 h2 h3
    split
    · exact (known _ _ _ _ (run t h1 h3.1 h2 h3.2)).1
    · exact (known _ _ _ _ (run _ h1 h3.1 hu hul)).1
  refine w14 (by simp) ?_
  rw [s14]
  simp
  refine opV_call (c36 f (by omega) _) (by simp) ?_
  unfold realF
  by_cases h1 : f.check = 0
  rotate_left
  · have h1' : (f.check == 0) = false := by simpa using h1
    simp [h1, h1', bne, tupF, Fm.zeroF, Ty.zero]
  simp [h1]
  refine opV_call (c37 t (by omega) _) (by simp) ?_
  by_cases h2 : t.check = 0
  rotate_left
  · have h2' : (t.check == 0) = false := by simpa using h2
    simp [h2, h2', bne, tupF, Fm.zeroF, Ty.zero]
  simp [h2]
  refine opV_call (c38 f hf _) (by simp) ?_
  cases h3 : f.least 268435456 with
  | false => simp [tupF, Fm.zeroF, Ty.zero]
  | true =>
    simp
    refine opV_call (c39 t (by omega) _) (by simp) ?_
    cases h4 : t.least 268435456 with
    | false => simp [tupF, Fm.zeroF, Ty.zero]
    | true =>
      simp
      refine opV_call (c40 f h1 hf (Fm.least_mono (by omega) f h3) _) (by simp) ?_
      cases h5 : f.has with
      | true =>
        simp
        refine opV_call ((known _ _ _ _ (run t h1 h3 h2 h4)).2 _) (by simp) ?_
        simp [tupF]
      | false =>
        simp
        refine opV_call (c41 _) (by simp) ?_
        simp
        refine opV_call ((known _ _ _ _ (run _ h1 h3 hu hul)).2 _) (by simp) ?_
        simp [tupF]
end Go.Proofs.YtnpgbkldpdogjaaGreatDoor.V

set_option maxRecDepth 100000
namespace Go.Proofs.YtnpgbkldpdogjaaGreatDoor.V
open Go Go.Proofs
theorem c110 (n : Int) (σ : List Frm) : CallsV cfg 110 [.one (.int .i64 n)] σ (.val (.one (.bool (decide (0 ≤ n ∧ n ≤ 4096))))) σ := by
  refine w110 (by simp) ?_
  rw [s110]
  by_cases h4 : 0 ≤ n <;> by_cases h7 : n ≤ 4096 <;> simp [h4, h7]
def AnswersT (f : Nat) (caps : List Cell) (G : Tm → Int → Tm) (Q : Tm → Prop) (dm : Int) (σ : List Frm) : Prop :=
  ∀ τ t d, Q t → 0 ≤ d → d ≤ dm → CallsV cfg f ([.agg (encT t), .one (.int .i64 d)] ++ caps.map fun c => .one (erC c)) (σ ++ τ) (.val (.agg (encT (G t d)))) (σ ++ τ)
theorem AnswersT.app {f : Nat} {caps : List Cell} {G : Tm → Int → Tm} {Q : Tm → Prop} {dm : Int} {σ : List Frm} (h : AnswersT f caps G Q dm σ) (ρ : List Frm) : AnswersT f caps G Q dm (σ ++ ρ) := fun τ t d h1 h2 h3 => by
  rw [List.append_assoc]; exact h (ρ ++ τ) t d h1 h2 h3
mutual
def Fm.rebF (G : Tm → Int → Tm) : Fm → Int → Fm
  | .mk k t m l, d => .mk k t (m.map fun x => G x d) (Fm.rebFs G l (if fmQ k = true then d + 1 else d))
def Fm.rebFs (G : Tm → Int → Tm) : List Fm → Int → List Fm
  | [], _ => []
  | x :: l, d => x.rebF G d :: Fm.rebFs G l d
end
theorem Fm.rebFs_eq (G : Tm → Int → Tm) (l : List Fm) (d : Int) : Fm.rebFs G l d = l.map fun x => x.rebF G d := by
  induction l with
  | nil => rfl
  | cons x l ih => simp only [Fm.rebFs, List.map_cons, ih]
theorem Fm.rebF_mk (G : Tm → Int → Tm) (k : Int) (t : Ty) (m : List Tm) (l : List Fm) (d : Int) : (Fm.mk k t m l).rebF G d = .mk k t (m.map fun x => G x d) (l.map fun x => x.rebF G (if fmQ k = true then d + 1 else d)) := by rw [Fm.rebF, Fm.rebFs_eq]
theorem rebF_up (fr b : Int) (f : Fm) : ∀ d, f.rebF (fun t d => t.up (fr + d) b) d = f.up (fr + d) b := by
  induction f using Fm.ind with
  | _ k t m l ih =>
    intro d
    rw [Fm.rebF_mk, Fm.up_mk]
    have e : (l.map fun x => x.rebF (fun t d => t.up (fr + d) b) (if fmQ k = true then d + 1 else d)) = l.map fun x => x.up (if fmQ k = true then fr + d + 1 else fr + d) b := List.map_congr_left fun x hx => by
      rw [ih x hx]
      congr 1
      split <;> omega
    rw [e]
def i138a (f : Nat) (caps : List Cell) (G : Tm → Int → Tm) (g : Fm) (k : Int) (t : Ty) (m : List Tm) (d : Int) (σ : List Frm) (j : Nat) : St → Prop
  | ⟨env, loc, σ', live⟩ => ∃ ow, env 1 = .one (.int .i64 d) ∧ env 2 = .one (.func f caps) ∧ env 3 = .one (.box σ.length 3 0 0) ∧ env 6 = .one (.box σ.length 6 0 0) ∧ env 7 = .one (.box σ.length 7 0 0) ∧ env 19 = .one (.slice .no 5 (m.map encT)) ∧ env 20 = .one (.int .i64 m.length) ∧ env 21 = .one (.int .i64 j) ∧
    loc 3 = [encF g] ∧ loc 6 = [z29] ∧ loc 7 = [.int .i64 k :: (enc t ++ [.slice ow 5 ((m.take j).map fun x => encT (G x d)), .slice .full 5 []])] ∧ σ' = σ ∧ okOwn live ow
def i138m (f : Nat) (caps : List Cell) (g : Fm) (k : Int) (t : Ty) (m' : List (List Cell)) (d : Int) (σ : List Frm) : St → Prop
  | ⟨env, loc, σ', _⟩ => ∃ ow, env 1 = .one (.int .i64 d) ∧ env 2 = .one (.func f caps) ∧ env 3 = .one (.box σ.length 3 0 0) ∧ env 6 = .one (.box σ.length 6 0 0) ∧ env 7 = .one (.box σ.length 7 0 0) ∧
    loc 3 = [encF g] ∧ loc 6 = [z29] ∧ loc 7 = [.int .i64 k :: (enc t ++ [.slice ow 5 m', .slice .full 5 []])] ∧ σ' = σ
def i138b (f : Nat) (caps : List Cell) (G : Tm → Int → Tm) (k : Int) (t : Ty) (m' : List (List Cell)) (l : List Fm) (d : Int) (σ : List Frm) (j : Nat) : St → Prop
  | ⟨env, loc, σ', live⟩ => ∃ ow o, env 1 = .one (.int .i64 d) ∧ env 2 = .one (.func f caps) ∧ env 6 = .one (.box σ.length 6 0 0) ∧ env 7 = .one (.box σ.length 7 0 0) ∧ env 41 = .one (.slice .no 5 (l.map encF)) ∧ env 42 = .one (.int .i64 l.length) ∧ env 43 = .one (.int .i64 j) ∧
    loc 6 = [z29] ∧ loc 7 = [.int .i64 k :: (enc t ++ [.slice o 5 m', .slice ow 5 ((l.take j).map fun x => encF (x.rebF G d))])] ∧ σ' = σ ∧ okOwn live ow
theorem c138 {f : Nat} {caps : List Cell} {G : Tm → Int → Tm} {Q : Tm → Prop} {dm : Int} (hdm : dm ≤ 4398046511104) (g : Fm) : g.size ≤ 1099511627776 → g.allT Q → ∀ (d : Int), 0 ≤ d → d + g.size ≤ dm → ∀ (σ : List Frm), AnswersT f caps G Q dm σ → CallsV cfg 138 [.agg (encF g), .one (.int .i64 d), .one (.func f caps)] σ (.val (.agg (encF (g.rebF G d)))) σ := by
  induction g using Fm.ind with
  | _ k t m l ih =>
  intro hsz hQ d hd0 hd1 σ hA
  simp at hsz hd1
  obtain ⟨hQm, hQl⟩ := (Fm.allT_mk Q k t m l).1 hQ
  have hlm := Tm.length_le m
  have hll := Fm.length_le l
  have hsp := t.size_pos
  rw [Fm.rebF_mk]
  refine w138 (by simp) ?_
  rw [s138]
  simp
  refine wpP_draw (fun _ _ _ => false) ?_
  simp
  refine stepD_call (c158 t (by omega) _) (by simp) ?_
  simp
  refine wpP_range m.length (i138a f caps G (.mk k t m l) k t m d σ) (by omega) ⟨.full, by simp, by simp, by simp, by simp, by simp, by simp, by simp, by simp, by simp, by simp [z29], by simp, rfl, by simp⟩ ?_ ?_ (hend := ?_)
  · rintro j ⟨env, loc, σ', live⟩ ⟨ow, e1, e2, e3, e6, e7, e19, e20, e21, h3, h6, h7, rfl, how⟩
    exact ⟨e21, e20⟩
  · rintro j ⟨env, loc, σ', live⟩ hj ⟨ow, e1, e2, e3, e6, e7, e19, e20, e21, h3, h6, h7, rfl, how⟩
    obtain ⟨x, hx, hdr, hm⟩ := drop_cons hj
    have := Tm.sizes_mem hm
    simp [e1, e2, e3, e6, e7, e19, e20, e21, hx]
    refine wpP_draw (fun _ _ _ => false) ?_
    simp [e1, e2, e3, e6, e7, h3, h7]
    refine stepD_callF (f := f) (caps := caps) (ps := [.agg (encT x), .one (.int .i64 d)]) (by simp) (hA [_] x d (hQm x hm) hd0 (by omega)) (by simp) ?_
    simp [how, e1, e2, e3, e6, e7, h3, h7]
    exact ⟨by omega, by omega, .tip live.nx, by simp, by simp, by simp, by simp, by simp, by simp, by simp, by simp, by simp [h3], by simp [h6], by simp [List.take_add_one, hx], rfl, grown_on⟩
  · rintro ⟨env, loc, σ', live⟩ ⟨ow, e1, e2, e3, e6, e7, e19, e20, e21, h3, h6, h7, rfl, how⟩
    rw [List.take_length] at h7
    have hr := fmQ_range k
    obtain ⟨d', hd', hd2, hd3⟩ : ∃ d' : Int, (if fmQ k = true then d + 1 else d) = d' ∧ 0 ≤ d' ∧ d' ≤ d + 1 := ⟨_, rfl, by split <;> omega, by split <;> omega⟩
    rw [hd']
    refine cut (i138m f caps (.mk k t m l) k t (m.map fun x => encT (G x d)) d' σ') ?_ ?_
    · simp [e1, e2, e3, e6, e7, h3, h6, h7]
      refine opV_call (c155 k _) (by simp) ?_
      by_cases hk : 4 ≤ k ∧ k ≤ 7
      · rw [if_pos (hr.2 hk)] at hd'
        simp [hk, e1, e2, e3, e6, e7]
        rw [wrap_id (by omega) (by omega), hd']
        exact ⟨ow, by simp, by simp, by simp, by simp, by simp, by simp [h3], by simp [h6], by simp [h7], rfl⟩
      · rw [if_neg (fun h => hk (hr.1 h))] at hd'
        subst hd'
        have hk' : decide (4 ≤ k ∧ k ≤ 7) = false := by simpa using hk
        simp [hk', e1, e2, e3, e6, e7]
        exact ⟨ow, by simp, by simp, by simp, by simp, by simp, by simp [h3], by simp [h6], by simp [h7], rfl⟩
    · rintro ⟨env, loc, σ', live⟩ ⟨ow, e1, e2, e3, e6, e7, h3, h6, h7, rfl⟩
      simp [e1, e2, e3, e6, e7, h3, h6, h7]
      refine wpP_range l.length (i138b f caps G k t (m.map fun x => encT (G x d)) l d' σ') (by omega) ⟨.full, ow, by simp, by simp, by simp, by simp, by simp, by simp, by simp, by simp [h6], by simp [h7], rfl, by simp⟩ ?_ ?_ (hend := ?_)
      · rintro j ⟨env, loc, σ', live⟩ ⟨ow, o, e1, e2, e6, e7, e41, e42, e43, h6, h7, rfl, how⟩
        exact ⟨e43, e42⟩
      · rintro j ⟨env, loc, σ', live⟩ hj ⟨ow, o, e1, e2, e6, e7, e41, e42, e43, h6, h7, rfl, how⟩
        obtain ⟨x, hx, hdr, hm⟩ := drop_cons hj
        have := Fm.sizes_mem hm
        simp [e1, e2, e6, e7, e41, e42, e43, hx]
        refine wpP_draw (fun _ _ _ => false) ?_
        simp [e1, e2, e6, e7, h6, h7]
        refine stepD_call (ih x hm (by omega) (hQl x hm) d' (by omega) (by omega) _ (hA.app [_])) (by simp) ?_
        simp [how, e1, e2, e6, e7, h6, h7]
        exact ⟨by omega, by omega, .tip live.nx, o, by simp, by simp, by simp, by simp, by simp, by simp, by simp, by simp [h6], by simp [List.take_add_one, hx], rfl, grown_on⟩
      · rintro ⟨env, loc, σ', live⟩ ⟨ow, o, e1, e2, e6, e7, e41, e42, e43, h6, h7, rfl, how⟩
        simp [e6, e7, h6, h7, z29]
theorem c139 {σ : List Frm} {pa pb : Pl} {fr b : Int} (ha : cellsAt σ pa = some [.int .i64 fr]) (hb : cellsAt σ pb = some [.int .i64 b]) (t : Tm) (hsz : t.size ≤ 549755813888) (hok : t.ok = true) (hle : t.least 536870912 = true) (d : Int) (hd : 0 ≤ d) (hd1 : d ≤ 1099511627776) (hf0 : 0 ≤ fr) (hf1 : fr ≤ 4096) (hb0 : 0 ≤ b) (hb1 : b ≤ 4096) :
    CallsV cfg 139 [.agg (encT t), .one (.int .i64 d), .one pa.cell, .one pb.cell] σ (.val (.agg (encT (t.up (fr + d) b)))) σ := by
  have h1 : ¬ pa.d = σ.length := by have := cellsAt_lt ha; omega
  have h2 : ¬ pb.d = σ.length := by have := cellsAt_lt hb; omega
  refine w139 (by simp) ?_
  rw [s139]
  simp [Pl.cell, readBox_at ha, readBox_at hb, h1, h2]
  rw [wrap_id (by omega) (by omega)]
  refine opV_call (c140 t hsz hok hle (fr + d) b (by omega) (by omega) _) (by simp) ?_
  simp
theorem c112 (f : Fm) (hok : f.ok = true) (hsz : f.size ≤ 549755813888) (hle : f.least 536870912 = true) (fr b : Int) (hf0 : 0 ≤ fr) (hf1 : fr ≤ 4096) (hb0 : 0 ≤ b) (hb1 : b ≤ 4096) (σ : List Frm) : CallsV cfg 112 [.agg (encF f), .one (.int .i64 fr), .one (.int .i64 b)] σ (.val (.agg (encF (f.up fr b)))) σ := by
  refine w112 (by simp) ?_
  rw [s112]
  simp [onesOf]
  refine opV_call (c138 (f := 139) (caps := [(⟨σ.length, 4, 0⟩ : Pl).cell, (⟨σ.length, 5, 0⟩ : Pl).cell]) (G := fun t d => t.up (fr + d) b) (Q := fun t => t.ok = true ∧ t.size ≤ 549755813888 ∧ t.least 536870912 = true) (dm := 1099511627776) (by omega) f (by omega) (Fm.allT_good f _ _ hok hle hsz) 0 (by omega) (by omega) _ (fun τ t d h1 h2 h3 => c139 (fr := fr) (b := b) (by rw [cellsAt_append (by simp)]; simp [cellsAt]) (by rw [cellsAt_append (by simp)]; simp [cellsAt]) t h1.2.1 h1.1 h1.2.2 d h2 h3 hf0 hf1 hb0 hb1)) (by simp [Pl.cell]) ?_
  rw [rebF_up, Int.add_zero]
  simp
def nearT (t : Tm) (_ : Int) (b : Bool) : Bool := b && t.least 536870912
theorem nearT_tms (m : List Tm) (d : Int) : ∀ b, Tm.run nearT m d b = (b && Tm.leasts m 536870912) := by
  induction m with
  | nil => intro b; simp [Tm.run, Tm.leasts]
  | cons x m ih =>
    intro b
    have h := ih (nearT x d b)
    rw [Tm.run] at h ⊢
    rw [List.foldl_cons, h, Tm.leasts, nearT, Bool.and_assoc]
theorem nearT_fm (f : Fm) : ∀ d b, f.run nearT d b = (b && f.least 536870912) := by
  induction f using Fm.ind with
  | _ k t m l ih =>
    intro d b
    have hl : ∀ (l' : List Fm), (∀ x ∈ l', x ∈ l) → ∀ d b, Fm.runs nearT l' d b = (b && Fm.leasts l' 536870912) := by
      intro l'
      induction l' with
      | nil => intro _ d b; simp [Fm.runs, Fm.leasts]
      | cons x l' ih' =>
        intro h d b
        rw [Fm.runs, ih x (h x (by simp)), ih' (fun y hy => h y (by simp [hy])), Fm.leasts, Bool.and_assoc]
    rw [Fm.run_mk, nearT_tms, hl l (fun _ h => h), Fm.least_mk, Bool.and_assoc]
theorem c136 {σ : List Frm} {q : Pl} (hH : Has σ q) (t : Tm) (hok : t.ok = true) (hsz : t.size ≤ 1099511627776) (hle : t.least 9223372036854775807 = true) (d : Int) (b : Bool) : CallsV cfg 136 [.agg (encT t), .one (.int .i64 d), .one q.cell] (setC σ q [.bool b]) (.val (.tup [])) (setC σ q [.bool (nearT t d b)]) := by
  have hne : ¬ q.d = σ.length := by have := hH.lt; omega
  refine w136 (by simp) ?_
  rw [s136]
  cases b with
  | false => simp [Pl.cell, readBox_setC hH, hne, writeBox_setC hH, splice, nearT, resPV]
  | true =>
    simp [Pl.cell, readBox_setC hH, hne]
    refine opV_call (c137 t hsz hok hle _) (by simp) ?_
    simp [readBox_setC hH, hne, writeBox_setC hH, splice, nearT, resPV]
def i135a {X : Type} (f : Nat) (caps : List Cell) (q : Pl) (E : X → List Cell) (S : Tm → Int → X → X) (g : Fm) (m : List Tm) (d : Int) (x : X) (σ : List Frm) (j : Nat) : St → Prop
  | ⟨env, loc, σ', _⟩ => env 1 = .one (.int .i64 d) ∧ env 2 = .one (.func f caps) ∧ env 3 = .one (.box σ.length 3 0 0) ∧ env 11 = .one (.slice .no 5 (m.map encT)) ∧ env 12 = .one (.int .i64 m.length) ∧ env 13 = .one (.int .i64 j) ∧ loc 3 = [encF g] ∧ σ' = setC σ q (E (Tm.run S (m.take j) 0 x))
def i135m {X : Type} (f : Nat) (caps : List Cell) (q : Pl) (E : X → List Cell) (g : Fm) (d : Int) (x : X) (σ : List Frm) : St → Prop
  | ⟨env, loc, σ', _⟩ => env 1 = .one (.int .i64 d) ∧ env 2 = .one (.func f caps) ∧ env 3 = .one (.box σ.length 3 0 0) ∧ loc 3 = [encF g] ∧ σ' = setC σ q (E x)
def i135b {X : Type} (f : Nat) (caps : List Cell) (q : Pl) (E : X → List Cell) (S : Tm → Int → X → X) (l : List Fm) (d : Int) (x : X) (σ : List Frm) (j : Nat) : St → Prop
  | ⟨env, _, σ', _⟩ => env 1 = .one (.int .i64 d) ∧ env 2 = .one (.func f caps) ∧ env 28 = .one (.slice .no 5 (l.map encF)) ∧ env 29 = .one (.int .i64 l.length) ∧ env 30 = .one (.int .i64 j) ∧ σ' = setC σ q (E (Fm.runs S (l.take j) 0 x))
theorem runs_flat {X : Type} (S : Tm → Int → X → X) (hS : ∀ t d x, S t d x = S t 0 x) (f : Fm) : ∀ d x, f.run S d x = f.run S 0 x := by
  induction f using Fm.ind with
  | _ k t m l ih =>
    intro d x
    have hm : ∀ d d' x, Tm.run S m d x = Tm.run S m d' x := by
      intro d d'
      unfold Tm.run
      have e : (fun x t => S t d x) = fun x t => S t d' x := by funext x t; rw [hS t d, hS t d']
      intro x
      rw [e]
    have hl : ∀ (l' : List Fm), (∀ y ∈ l', y ∈ l) → ∀ d d' x, Fm.runs S l' d x = Fm.runs S l' d' x := by
      intro l'
      induction l' with
      | nil => intro _ d d' x; simp [Fm.runs]
      | cons y l' ih' =>
        intro h d d' x
        rw [Fm.runs, Fm.runs, ih y (h y (by simp)) d, ih y (h y (by simp)) d', ih' (fun z hz => h z (by simp [hz])) d d']
    rw [Fm.run_mk, Fm.run_mk, hm _ (if fmQ k = true then 0 + 1 else 0), hl l (fun _ h => h) _ (if fmQ k = true then 0 + 1 else 0)]
theorem c135 {X : Type} {f : Nat} {caps : List Cell} {q : Pl} {E : X → List Cell} {S : Tm → Int → X → X} (hS : ∀ t d x, S t d x = S t 0 x) {Q : Tm → Prop} (g : Fm) : ∀ {σ : List Frm}, Has σ q → (∀ τ t d x, Q t → 0 ≤ d → d ≤ 1099511627776 → CallsV cfg f ([.agg (encT t), .one (.int .i64 d)] ++ caps.map fun c => .one (erC c)) (setC (σ ++ τ) q (E x)) (.val (.tup [])) (setC (σ ++ τ) q (E (S t d x)))) →
    g.allT Q → ∀ (d : Int) (x : X), 0 ≤ d → d + g.size ≤ 1099511627776 → CallsV cfg 135 [.agg (encF g), .one (.int .i64 d), .one (.func f caps)] (setC σ q (E x)) (.val (.tup [])) (setC σ q (E (g.run S 0 x))) := by
  induction g using Fm.ind with
  | _ k t m l ih =>
  intro σ hH hA hQ d x hd0 hd1
  simp at hd1
  have hlm := Tm.length_le m
  have hll := Fm.length_le l
  obtain ⟨hQm, hQl⟩ := (Fm.allT_mk Q k t m l).1 hQ
  have hne : ¬ q.d = σ.length := by have := hH.lt; omega
  have hmr : ∀ (m' : List Tm) (d d' : Int) (x : X), Tm.run S m' d x = Tm.run S m' d' x := by
    intro m' d d' x
    unfold Tm.run
    have e : (fun x t => S t d x) = fun x t => S t d' x := by funext x t; rw [hS t d, hS t d']
    rw [e]
  have hrun : (Fm.mk k t m l).run S 0 x = Fm.runs S l 0 (Tm.run S m 0 x) := by
    rw [Fm.run_mk, hmr m _ 0]
    have : ∀ (l' : List Fm) (d : Int) (x : X), Fm.runs S l' d x = Fm.runs S l' 0 x := by
      intro l'
      induction l' with
      | nil => intro d x; simp [Fm.runs]
      | cons y l' ih' => intro d x; rw [Fm.runs, Fm.runs, runs_flat S hS y d, ih' d]
    rw [this]
  rw [hrun]
  refine w135 (by simp) ?_
  rw [s135]
  simp
  refine wpP_range m.length (i135a f caps q E S (.mk k t m l) m d x σ) (by omega) ⟨by simp, by simp, by simp, by simp, by simp, by simp, by simp, by simp [Tm.run]⟩ ?_ ?_ (hend := ?_)
  · rintro j ⟨env, loc, σ', live⟩ ⟨e1, e2, e3, e11, e12, e13, h3, rfl⟩
    exact ⟨e13, e12⟩
  · rintro j ⟨env, loc, σ', live⟩ hj ⟨e1, e2, e3, e11, e12, e13, h3, rfl⟩
    obtain ⟨y, hy, hdr, hm⟩ := drop_cons hj
    simp [e1, e2, e3, e11, e12, e13, hy]
    refine opV_atF (f := f) (caps := caps) (ps := [.agg (encT y), .one (.int .i64 d)]) (by simp) (hA [_] y d _ (hQm y hm) hd0 (by omega)) hH.lt (by simp) ?_
    simp [e1, e2, e3, e11, e12, e13]
    refine ⟨by simp, by simp, by simp, by simp, by simp, by simp, by simp [h3], ?_⟩
    rw [Tm.run_take S hy, hS y d]
  · rintro ⟨env, loc, σ', live⟩ ⟨e1, e2, e3, e11, e12, e13, h3, rfl⟩
    rw [List.take_length]
    have hr := fmQ_range k
    obtain ⟨d', hd', hd2, hd3⟩ : ∃ d' : Int, (if fmQ k = true then d + 1 else d) = d' ∧ 0 ≤ d' ∧ d' ≤ d + 1 := ⟨_, rfl, by split <;> omega, by split <;> omega⟩
    refine cut (i135m f caps q E (.mk k t m l) d' (Tm.run S m 0 x) σ) ?_ ?_
    · simp [e1, e2, e3, h3]
      refine opV_call (c155 k _) (by simp) ?_
      by_cases hk : 4 ≤ k ∧ k ≤ 7
      · rw [if_pos (hr.2 hk)] at hd'
        simp [hk, e1, e2, e3]
        rw [wrap_id (by omega) (by omega), hd']
        exact ⟨by simp, by simp, by simp, by simp [h3], rfl⟩
      · rw [if_neg (fun h => hk (hr.1 h))] at hd'
        have hk' : decide (4 ≤ k ∧ k ≤ 7) = false := by simpa using hk
        simp [hk', e1, e2, e3, hd']
        exact ⟨by simp, by simp, by simp, by simp [h3], rfl⟩
    · rintro ⟨env, loc, σ', live⟩ ⟨e1, e2, e3, h3, rfl⟩
      simp [e1, e2, e3, h3]
      refine wpP_range l.length (i135b f caps q E S l d' (Tm.run S m 0 x) σ) (by omega) ⟨by simp, by simp, by simp, by simp, by simp, by simp [Fm.runs]⟩ ?_ ?_ (hend := ?_)
      · rintro j ⟨env, loc, σ', live⟩ ⟨e1, e2, e28, e29, e30, rfl⟩
        exact ⟨e30, e29⟩
      · rintro j ⟨env, loc, σ', live⟩ hj ⟨e1, e2, e28, e29, e30, rfl⟩
        obtain ⟨y, hy, hdr, hm⟩ := drop_cons hj
        have := Fm.sizes_mem hm
        simp [e1, e2, e28, e29, e30, hy]
        refine opV_atF (f := 135) (caps := []) (ps := [.agg (encF y), .one (.int .i64 d'), .one (.func f caps)]) (by simp) (by simpa using ih y hm (hH.app [_]) (fun τ t d x h1 h2 h3 => by rw [List.append_assoc]; exact hA (_ ++ τ) t d x h1 h2 h3) (hQl y hm) d' _ (by omega) (by omega)) hH.lt (by simp) ?_
        simp [e1, e2, e28, e29, e30]
        refine ⟨by simp, by simp, by simp, by simp, by simp, ?_⟩
        rw [Fm.runs_take S hy]
      · rintro ⟨env, loc, σ', live⟩ ⟨e1, e2, e28, e29, e30, rfl⟩
        rw [List.take_length]
        simp [resPV]
theorem c111 (f : Fm) (hok : f.ok = true) (hsz : f.size ≤ 549755813888) (hle : f.least 9223372036854775807 = true) (σ : List Frm) : CallsV cfg 111 [.agg (encF f)] σ (.val (.one (.bool (f.least 536870912)))) σ := by
  refine w111 (by simp) ?_
  rw [s111]
  simp [onesOf]
  refine opV_own2 (f := 135) (t := 3) (w := 0) (cs := [.bool true]) (cs' := [.bool (f.run nearT 0 true)]) (ps := [.agg (encF f), .one (.int .i64 0), .one (.func 136 [(⟨σ.length, 3, 0⟩ : Pl).cell])]) (by
    refine c135 (X := Bool) (E := fun b => [.bool b]) (S := nearT) (fun _ _ _ => rfl) (Q := fun t => t.ok = true ∧ t.size ≤ 549755813888 ∧ t.least 9223372036854775807 = true) f (Has.own (by simp)) (fun τ t d x h1 h2 h3 => ?_) (Fm.allT_good f _ _ hok hle hsz) 0 true (by omega) (by omega)
    exact c136 (Has.app (Has.own (by simp)) τ) t h1.1 (by omega) h1.2.2 d x) (by simp) (by simp [Pl.cell]) ?_
  rw [nearT_fm]
  simp
theorem c72 (f : Fm) (hsz : f.size ≤ 549755813888) (hle : f.least 9223372036854775807 = true) (fr b : Int) (σ : List Frm) : CallsV cfg 72 [.agg (encF f), .one (.int .i64 fr), .one (.int .i64 b)] σ (.val (tupF (f.lift fr b))) σ := by
  refine w72 (by simp) ?_
  rw [s72]
  simp
  refine opV_call (c36 f (by omega) _) (by simp) ?_
  unfold Fm.lift
  by_cases hc : f.check = 0
  rotate_left
  · have hc' : (f.check == 0) = false := by simpa using hc
    simp [hc, hc', bne, tupF, Fm.zeroF, Ty.zero]
  obtain ⟨hok, hcnt⟩ := Fm.check_ok2 hc
  simp [hc]
  refine opV_call (c110 fr _) (by simp) ?_
  by_cases h1 : 0 ≤ fr ∧ fr ≤ 4096
  rotate_left
  · have h1' : decide (0 ≤ fr ∧ fr ≤ 4096) = false := by simpa using h1
    have h2 : fr < 0 ∨ 4096 < fr ∨ b < 0 ∨ 4096 < b ∨ f.least 536870912 = false := by omega
    simp [h1', h2, tupF, Fm.zeroF, Ty.zero]
  have h1' : decide (0 ≤ fr ∧ fr ≤ 4096) = true := by simpa using h1
  simp [h1']
  refine opV_call (c110 b _) (by simp) ?_
  by_cases h2 : 0 ≤ b ∧ b ≤ 4096
  rotate_left
  · have h2' : decide (0 ≤ b ∧ b ≤ 4096) = false := by simpa using h2
    have h3 : fr < 0 ∨ 4096 < fr ∨ b < 0 ∨ 4096 < b ∨ f.least 536870912 = false := by omega
    simp [h2', h3, tupF, Fm.zeroF, Ty.zero]
  have h2' : decide (0 ≤ b ∧ b ≤ 4096) = true := by simpa using h2
  simp [h2']
  refine opV_call (c111 f hok hsz hle _) (by simp) ?_
  cases h3 : f.least 536870912 with
  | false => simp [tupF, Fm.zeroF, Ty.zero]
  | true =>
    have h4 : ¬ (fr < 0 ∨ 4096 < fr ∨ b < 0 ∨ 4096 < b ∨ (true : Bool) = false) := by
      simp
      omega
    rw [if_neg h4]
    simp
    refine opV_call (c112 f hok hsz h3 fr b h1.1 h1.2 h2.1 h2.2 _) (by simp) ?_
    simp [tupF]
end Go.Proofs.YtnpgbkldpdogjaaGreatDoor.V

set_option maxRecDepth 100000
namespace Go.Proofs.YtnpgbkldpdogjaaGreatDoor.V
open Go Go.Proofs
def z53 : List Cell := [.slice .full 2 [], .slice .full 5 []]
def i23 (all : List Ty) (ps : List Int) (hs : List Fm) (more : Int) (σ : List Frm) (j : Nat) : St → Prop
  | ⟨env, loc, σ', live⟩ => ∃ ow o outs, env 2 = .one (.box σ.length 2 0 0) ∧ env 4 = .one (.slice .no 2 (all.map enc)) ∧ env 6 = .one (.slice .no 1 (encI ps)) ∧ env 8 = .one (.box σ.length 8 0 0) ∧ env 9 = .one (.int .i64 more) ∧ env 39 = .one (.slice .no 5 (hs.map encF)) ∧ env 40 = .one (.int .i64 hs.length) ∧ env 41 = .one (.int .i64 j) ∧
    loc 2 = [z53] ∧ loc 8 = [[.slice o 2 (all.map enc), .slice ow 5 (outs.map encF)]] ∧ σ' = σ ∧ okOwn live ow ∧ outs.length = j ∧ realHyps all.length more ps hs = hypApp outs (realHyps all.length more (ps.drop j) (hs.drop j))
def tupS (r : (List Ty × List Fm) × Int) : PV := .tup [.agg (encS r.1.1 r.1.2), .one (.int .i64 r.2)]
@[simp] theorem tupS_er (r : (List Ty × List Fm) × Int) : erV (tupS r) = tupS r := by simp [tupS, encS]
theorem placeT_facts {n : Nat} {p : Int} (hn : n ≤ 4096) (hp : p = -1 ∨ (0 ≤ p ∧ p < n)) : (placeT n p).ok = true ∧ (placeT n p).size ≤ 2 ∧ (placeT n p).least 9223372036854775807 = true := by
  unfold placeT
  split
  · refine ⟨Tm.var_ok (by omega), by simp [Tm.var, Ty.zero], ?_⟩
    simp [Tm.var, Tm.least_mk, Tm.leasts]
    omega
  · exact ⟨rfl, by simp [Tm.node, Ty.zero], rfl⟩
theorem c23 (ts : List Ty) (hs : List Fm) (hts : Ty.sizes ts ≤ 536870912) (hhs : Fm.sizes hs ≤ 536870912) (σ : List Frm) : CallsV cfg 23 [.agg (encS ts hs)] σ (.val (tupS (realSeq ts hs))) σ := by
  have hlt := Ty.length_le ts
  have hlh := Fm.length_le hs
  refine w23 (by simp) ?_
  rw [s23]
  simp [encS]
  refine opV_call (c69 ts hs (by omega) (by omega) _) (by simp [encS]) ?_
  unfold realSeq
  by_cases h0 : (looks ts hs).2.2 = 0
  rotate_left
  · have h0' : ((looks ts hs).2.2 == 0) = false := by simpa using h0
    simp [h0, h0', bne, tupS, encS]
  obtain ⟨f1, f2, f3, f4, f5, f6⟩ := looks_facts h0
  have hl16 := ctx_len f1
  simp [h0]
  refine opV_call (c70 ts hs (by omega) (by omega) _) (by simp [encS]) ?_
  generalize (looks ts hs).1 = all at *
  generalize (looks ts hs).2.1 = ps at *
  have hw : IntKind.i64.wrap ((all.length : Int) - ts.length) = (all.length : Int) - ts.length := wrap_id (by omega) (by omega)
  generalize hmore : (all.length : Int) - ts.length = more at *
  simp [h0, hmore, hw]
  refine wpP_range hs.length (i23 all ps hs more σ) (by omega) ⟨.full, .no, [], by simp, by simp, by simp, by simp, by simp, by simp, by simp, by simp, by simp [z53], by simp, rfl, by simp, rfl, by simp [hypApp_nil _ (realHyps_err _ _ ps hs)]⟩ ?_ ?_ (hend := ?_)
  · rintro j ⟨env, loc, σ', live⟩ ⟨ow, o, outs, e2, e4, e6, e8, e9, e39, e40, e41, h2, h8, rfl, how, hol, hq⟩
    exact ⟨e41, e40⟩
  · rintro j ⟨env, loc, σ', live⟩ hj ⟨ow, o, outs, e2, e4, e6, e8, e9, e39, e40, e41, h2, h8, rfl, how, hol, hq⟩
    obtain ⟨x, hx, hdr, hm⟩ := drop_cons hj
    obtain ⟨p, hp, hdp, hmp⟩ := drop_cons (show j < ps.length by omega)
    have hz := Fm.sizes_mem hm
    have hpr := f6 p hmp
    have hpf := placeT_facts (show all.length ≤ 4096 by omega) hpr
    have hpi : (encI ps)[j]? = some [.int .i64 p] := by simp [encI, hp]
    rw [hdr, hdp, realHyps] at hq
    simp [e2, e4, e6, e8, e9, e39, e40, e41, h2, h8, hx]
    refine opV_call (c38 x (by omega) _) (by simp) ?_
    cases hfar : x.least 268435456 with
    | false =>
      have e : realHyp all.length more p x = (.zeroF, 1) := by simp [realHyp, hfar]
      rw [e] at hq
      have hr : (realHyps all.length more ps hs).2 = 1 := by rw [hq]; simp [hypApp]
      simp [e2, e4, e6, e8, e9, e39, e40, e41, h2, h8, hr, tupS, encS, z53]
    | true =>
      have hxl := Fm.least_mono (M := 9223372036854775807) (by omega) x hfar
      have hls := lift_size x 0 more
      have er : realHyp all.length more p x = if (x.lift 0 more).2 ≠ 0 then (.zeroF, (x.lift 0 more).2) else realF (x.lift 0 more).1 (placeT all.length p) := by simp [realHyp, hfar]
      have hF := c14 (x.lift 0 more).1 (placeT all.length p) (by omega) (by have := hpf.2.1; omega) hpf.2.2
      simp [e2, e4, e6, e8, e9, e39, e40, e41, h2, h8]
      refine opV_call (c41 _) (by simp) ?_
      simp [e2, e4, e6, e8, e9, e39, e40, e41, h2, h8, hpi]
      have hpc : p = -1 ∨ 0 ≤ p := by omega
      rcases hpc with rfl | hp0
      · have hT : placeT all.length (-1) = .node 13 [] := rfl
        rw [hT] at er hF
        simp
        refine opV_call (c72 x (by omega) hxl 0 more _) (by simp) ?_
        by_cases hl0 : (x.lift 0 more).2 = 0
        rotate_left
        · have hl0' : ((x.lift 0 more).2 == 0) = false := by simpa using hl0
          rw [if_pos hl0] at er
          rw [er, if_pos hl0] at hq
          have hr : (realHyps all.length more ps hs).2 = (x.lift 0 more).2 := by rw [hq]; simp [hypApp, hl0]
          simp [tupF, hl0, hl0', bne, e2, h2, hr, tupS, encS, z53]
        rw [if_neg (by simpa using hl0)] at er
        simp [tupF, hl0, e2, e4, e6, e8, e9, e39, e40, e41, h2, h8]
        refine opV_call (hF _).2 (by simp) ?_
        rw [er] at hq
        generalize realF (x.lift 0 more).1 (.node 13 []) = P at *
        by_cases hp : P.2 = 0
        rotate_left
        · have hp' : (P.2 == 0) = false := by simpa using hp
          rw [if_pos hp] at hq
          have hr : (realHyps all.length more ps hs).2 = P.2 := by rw [hq]; simp [hypApp, hp]
          simp [tupF, hp, hp', bne, e2, h2, hr, tupS, encS, z53]
        rw [if_neg (by simpa using hp)] at hq
        simp [tupF, hp, how, e2, e4, e6, e8, e9, e39, e40, e41, h2, h8]
        refine ⟨by omega, by omega, .tip live.nx, o, outs ++ [P.1], by simp, by simp, by simp, by simp, by simp, by simp, by simp, by simp, by simp [h2], by simp [h8, splice], rfl, grown_on, by simp [hol], ?_⟩
        rw [hq]
        by_cases hn : (realHyps all.length more (ps.drop (j + 1)) (hs.drop (j + 1))).2 = 0
        · simp [hypApp, hn]
        · simp [hypApp, hn]
      · have hT : placeT all.length p = .var ((all.length : Int) - 1 - p) := if_pos hp0
        rw [hT] at er hF
        simp [hp0]
        rw [wrap_id (n := (all.length : Int) - 1) (by omega) (by omega), wrap_id (by omega) (by omega)]
        refine opV_call (c71 ((all.length : Int) - 1 - p) _) (by simp) ?_
        simp [e2, e4, e6, e8, e9, e39, e40, e41, h2, h8]
        refine opV_call (c72 x (by omega) hxl 0 more _) (by simp) ?_
        by_cases hl0 : (x.lift 0 more).2 = 0
        rotate_left
        · have hl0' : ((x.lift 0 more).2 == 0) = false := by simpa using hl0
          rw [if_pos hl0] at er
          rw [er, if_pos hl0] at hq
          have hr : (realHyps all.length more ps hs).2 = (x.lift 0 more).2 := by rw [hq]; simp [hypApp, hl0]
          simp [tupF, hl0, hl0', bne, e2, h2, hr, tupS, encS, z53]
        rw [if_neg (by simpa using hl0)] at er
        simp [tupF, hl0, e2, e4, e6, e8, e9, e39, e40, e41, h2, h8]
        refine opV_call (hF _).2 (by simp) ?_
        rw [er] at hq
        generalize realF (x.lift 0 more).1 (.var ((all.length : Int) - 1 - p)) = P at *
        by_cases hp : P.2 = 0
        rotate_left
        · have hp' : (P.2 == 0) = false := by simpa using hp
          rw [if_pos hp] at hq
          have hr : (realHyps all.length more ps hs).2 = P.2 := by rw [hq]; simp [hypApp, hp]
          simp [tupF, hp, hp', bne, e2, h2, hr, tupS, encS, z53]
        rw [if_neg (by simpa using hp)] at hq
        simp [tupF, hp, how, e2, e4, e6, e8, e9, e39, e40, e41, h2, h8]
        refine ⟨by omega, by omega, .tip live.nx, o, outs ++ [P.1], by simp, by simp, by simp, by simp, by simp, by simp, by simp, by simp, by simp [h2], by simp [h8, splice], rfl, grown_on, by simp [hol], ?_⟩
        rw [hq]
        by_cases hn : (realHyps all.length more (ps.drop (j + 1)) (hs.drop (j + 1))).2 = 0
        · simp [hypApp, hn]
        · simp [hypApp, hn]
  · rintro ⟨env, loc, σ', live⟩ ⟨ow, o, outs, e2, e4, e6, e8, e9, e39, e40, e41, h2, h8, rfl, how, hol, hq⟩
    have hend : realHyps all.length more (ps.drop hs.length) (hs.drop hs.length) = ([], 0) := by rw [List.drop_length]; cases ps.drop hs.length <;> rfl
    rw [hend] at hq
    simp [hypApp] at hq
    rw [hq]
    by_cases h16 : 16 < all.length
    · have h16' : (16 : Int) < all.length := by omega
      simp [e2, e4, e8, h2, h8, h16, h16', tupS, encS, z53]
    · have h16' : ¬ (16 : Int) < all.length := by omega
      simp [e2, e4, e8, h2, h8, h16, h16', tupS, encS, z53]
theorem c20 (t s : Tm) (a : Int) (hts : t.size ≤ 134217728) (hss : s.size ≤ 134217728) (σ : List Frm) : CallsV cfg 20 [.agg (encT t), .one (.int .i64 a), .agg (encT s)] σ (.val (.tup [.agg (encT (t.putIn a s).1), .one (.int .i64 (t.putIn a s).2)])) σ := by
  refine w20 (by simp) ?_
  rw [s20]
  simp
  refine opV_call (c57 t (by omega) _) (by simp) ?_
  unfold Tm.putIn
  by_cases h1 : t.check = 0
  rotate_left
  · have h1' : (t.check == 0) = false := by simpa using h1
    simp [h1, h1', bne, Tm.zeroT, Ty.zero]
  obtain ⟨hok, hcnt⟩ := Tm.check_ok h1
  by_cases ha0 : a < 0
  · simp [h1, ha0, Tm.zeroT, Ty.zero]
  by_cases ha1 : 4096 < a
  · simp [h1, ha0, ha1, Tm.zeroT, Ty.zero]
  simp [h1, ha0, ha1]
  refine opV_call (c57 s (by omega) _) (by simp) ?_
  by_cases h2 : s.check = 0
  rotate_left
  · have h2' : (s.check == 0) = false := by simpa using h2
    simp [h2, h2', bne, Tm.zeroT, Ty.zero]
  obtain ⟨hso, hsc⟩ := Tm.check_ok h2
  simp [h2]
  refine opV_call (c59 536870912 t (by omega) _) (by simp) ?_
  cases h3 : t.least 536870912 with
  | false => simp [Tm.zeroT, Ty.zero]
  | true =>
    simp
    refine opV_call (c59 536870912 s (by omega) _) (by simp) ?_
    cases h4 : s.least 536870912 with
    | false => simp [Tm.zeroT, Ty.zero]
    | true =>
      have ht := t.times_le a
      have hc0 : 1 ≤ s.count := by obtain ⟨k, i, u, l⟩ := s; simp
      have hmul : 0 ≤ t.times a * ((s.count : Int) - 1) ∧ t.times a * ((s.count : Int) - 1) ≤ 4096 * 4096 := ⟨Int.mul_nonneg ht.1 (by omega), Int.le_trans (Int.mul_le_mul_of_nonneg_right (by omega) (by omega)) (Int.mul_le_mul_of_nonneg_left (by omega) (by omega))⟩
      simp
      refine wpP_draw (fun _ _ _ => false) ?_
      simp
      refine stepD_call (c62 t (by omega) _) (by simp) ?_
      simp
      refine stepD_call (c65 t (by omega) a (by omega) (by omega) _) (by simp) ?_
      simp
      refine stepD_call (c62 s (by omega) _) (by simp) ?_
      simp
      rw [wrap_id (n := (s.count : Int) - 1) (by omega) (by omega), wrap_id (n := t.times a * ((s.count : Int) - 1)) (by omega) (by omega), wrap_id (by omega) (by omega)]
      by_cases h5 : 4096 < (t.count : Int) + t.times a * ((s.count : Int) - 1)
      · simp [h5, Tm.zeroT, Ty.zero]
      · simp [h5]
        have hps := Tm.put_size t s a 0
        rw [Int.add_zero] at hps
        have hpz : t.times a * (s.size : Int) ≤ 4096 * 134217728 := Int.le_trans (Int.mul_le_mul_of_nonneg_right (by omega) (by omega)) (Int.mul_le_mul_of_nonneg_left (by omega) (by omega))
        refine opV_call (c67 s (by omega) hso h4 a (by omega) (by omega) t hok h3 0 (by omega) (by omega) _) (by simp) ?_
        simp
        refine opV_call (c66 (t.put a 0 s) (by omega) _) (by simp) ?_
        simp
def exF : Fm := .q 4 .nat (.q 5 .nat (.eq (.var 0) (.node 5 [.var 1])))
theorem c8 (σ : List Frm) : CallsV cfg 8 [] σ (.val (.one (.bool true))) σ := by
  refine w8 (by simp) ?_
  rw [s8]
  have hF := c14 exF (.var 3) (by decide +kernel) (by decide +kernel) (by decide +kernel)
  have hS := c23 [] [exF] (by decide +kernel) (by decide +kernel)
  obtain ⟨a, x, b, c, hR⟩ : ∃ a x b c, realF exF (.var 3) = (.mk 4 a [] [.mk 1 x [.mk 3 0 .zero b, c] []], 0) := ⟨_, _, _, _, rfl⟩
  obtain ⟨u, v, hQ⟩ : ∃ u v, realSeq [] [exF] = (([u], [v]), 0) := ⟨_, _, rfl⟩
  simp
  refine opV_call (hF _).2 (by simp [exF, Fm.q, Fm.eq, Ty.nat, Ty.zero, Tm.var, Tm.node]) ?_
  rw [hR]
  simp [tupF]
  refine opV_call (hS _) (by simp [encS, exF, Fm.q, Fm.eq, Ty.nat, Ty.zero, Tm.var, Tm.node]) ?_
  rw [hQ]
  simp [tupS, encS]
end Go.Proofs.YtnpgbkldpdogjaaGreatDoor.V

namespace Go.Proofs.YtnpgbkldpdogjaaGreatDoor.V
open Go
namespace F
theorem fm_has (f : F) : f.fm.has = f.has := by
  induction f with
  | eq u v => simp [fm, Fm.eq, Fm.has_mk, has, ct]
  | and a b h1 h2 =>
    rw [fm, Fm.two, Fm.has_mk]
    simp only [has] at h1 h2 ⊢
    simp [h1, h2]
    simp only [ct]
    cases a.ct <;> cases b.ct <;> simp
  | imp a b h1 h2 =>
    rw [fm, Fm.two, Fm.has_mk]
    simp only [has] at h1 h2 ⊢
    simp [h2]
    simp only [ct]
    cases b.ct <;> cases a.ct <;> simp
  | q k s x h =>
    simp only [has] at h ⊢
    cases k <;> (rw [fm, Fm.q, Fm.has_mk]; simp [Qk.n, h, ct])
    cases x.ct <;> simp
theorem fm_ok (f : F) : f.fm.ok = f.wf := by
  induction f with
  | eq u v =>
    rw [fm, wf, Fm.eq]
    simp [Fm.head, fmArity, T.tm_ok, Ty.none, Ty.zero]
  | and a b h1 h2 => rw [fm, wf, Fm.two]; simp [Fm.head, fmArity, h1, h2, Ty.none, Ty.zero]
  | imp a b h1 h2 => rw [fm, wf, Fm.two]; simp [Fm.head, fmArity, h1, h2, Ty.none, Ty.zero]
  | q k s x h => cases k <;> (rw [fm, wf, Fm.q]; simp [Fm.head, fmArity, h, Qk.n])
theorem fm_up (f : F) : ∀ fr by' : Nat, f.fm.up fr by' = (f.ren (T.sh fr by')).fm := by
  induction f with
  | eq u v => intro fr by'; simp [fm, ren, Fm.eq, Fm.up_mk, T.tm_up]
  | and a b h1 h2 => intro fr by'; rw [fm, ren, fm, Fm.two, Fm.two, Fm.up_mk]; simp [fmQ, h1, h2]
  | imp a b h1 h2 => intro fr by'; rw [fm, ren, fm, Fm.two, Fm.two, Fm.up_mk]; simp [fmQ, h1, h2]
  | q k s x h =>
    intro fr by'
    have e := h (fr + 1) by'
    rw [fm, ren, fm, Fm.q, Fm.q, Fm.up_mk, T.upr_sh]
    have hq : fmQ k.n = true := by cases k <;> rfl
    rw [if_pos hq]
    simp at e
    simp [e]
theorem fm_put (f : F) (s : T) : ∀ a d : Nat, f.fm.put a d s.tm = (f.sub (T.pt (a + d) s)).fm := by
  induction f with
  | eq u v => intro a d; simp [fm, sub, Fm.eq, Fm.put_mk, T.tm_put]
  | and a b h1 h2 => intro x d; rw [fm, sub, fm, Fm.two, Fm.two, Fm.put_mk]; simp [fmQ, h1, h2]
  | imp a b h1 h2 => intro x d; rw [fm, sub, fm, Fm.two, Fm.two, Fm.put_mk]; simp [fmQ, h1, h2]
  | q k u x h =>
    intro a d
    have e := h a (d + 1)
    rw [fm, sub, fm, Fm.q, Fm.q, Fm.put_mk, T.ups_pt]
    have hq : fmQ k.n = true := by cases k <;> rfl
    rw [if_pos hq]
    rw [show a + (d + 1) = a + d + 1 by omega] at e
    simp at e
    simp [e]
theorem fm_up1 (f : F) : f.fm.up 0 1 = (f.sub fun i => .var (i + 1)).fm := by
  have := fm_up f 0 1
  rw [T.sh0, ren_eq_sub] at this
  simpa using this
theorem tm_up1 (t : T) : t.tm.up 0 1 = (t.ren Nat.succ).tm := by
  have := T.tm_up t 0 1
  rw [T.sh0] at this
  simpa using this
theorem fm_put0 (f : F) (s : T) : f.fm.put 0 0 s.tm = (f.sub (T.scons s T.var)).fm := by
  have := fm_put f s 0 0
  rw [show (0 : Nat) + 0 = 0 from rfl, T.pt0] at this
  simpa using this
theorem undT_tm (h : Bool) (t : T) : undT h t.tm = (under h t).tm := by
  unfold undT under callT
  cases h
  · simp only [if_neg (Bool.false_ne_true)]; exact tm_up1 t
  · simp only [if_true]; rw [tm_up1]; try rfl
theorem join_zero {k : Int} {a b : V.Ty} (h : (join k a b).2.2 = 0) : (join k a b).1 = .mk k [a, b] ∧ (join k a b).2.1 = true := by
  unfold join at h ⊢
  split at h
  · rename_i hc; rw [if_pos hc]; exact ⟨rfl, rfl⟩
  · rename_i hc; exact absurd h hc
theorem cof_ct (f : F) : f.fm.cof.2.2 = 0 → f.fm.cof.2.1 = f.has ∧ ∀ s, f.ct = some s → f.fm.cof.1 = s := by
  induction f with
  | eq u v => intro _; rw [fm, Fm.eq, Fm.cof_mk]; simp [ofStep, has, ct]
  | and a b h1 h2 =>
    rw [fm, Fm.two, Fm.cof_mk]
    simp only [List.map_cons, List.map_nil, List.headD_cons, List.getLastD_cons, List.getLastD_nil]
    simp only [ofStep]
    intro h
    rw [if_neg (by omega)] at h ⊢
    by_cases e2 : b.fm.cof.2.2 = 0
    · rw [if_neg (by simpa using e2)] at h ⊢
      obtain ⟨g1, g2⟩ := h2 e2
      rw [if_pos trivial] at h ⊢
      by_cases e1 : a.fm.cof.2.2 = 0
      · obtain ⟨k1, k2⟩ := h1 e1
        simp only [has] at g1 k1 ⊢
        cases ha : a.ct with
        | none =>
          rw [ha] at k1
          rw [if_pos (.inr (by simpa using k1))]
          simp only [ct, ha]
          exact ⟨g1, g2⟩
        | some x =>
          rw [ha] at k1
          have k1' : ¬ (a.fm.cof.2.2 ≠ 0 ∨ a.fm.cof.2.1 = false) := by simp at k1; simp [e1, k1]
          rw [if_neg k1'] at h ⊢
          cases hb : b.ct with
          | none =>
            rw [hb] at g1
            rw [if_pos (by simpa using g1)]
            simp only [ct, ha, hb]
            exact ⟨rfl, fun s hs => by cases hs; exact k2 x ha⟩
          | some y =>
            rw [hb] at g1
            rw [if_neg (by simp at g1; simp [g1])] at h ⊢
            obtain ⟨j1, j2⟩ := join_zero h
            simp only [ct, ha, hb]
            refine ⟨j2, fun s hs => ?_⟩
            cases hs
            rw [j1, k2 x ha, g2 y hb]
            try rfl
      · rw [if_pos (.inl e1)] at h
        exact absurd h e1
    · rw [if_pos e2] at h
      exact absurd h e2
  | imp a b h1 h2 =>
    rw [fm, Fm.two, Fm.cof_mk]
    simp only [List.map_cons, List.map_nil, List.headD_cons, List.getLastD_cons, List.getLastD_nil]
    simp only [ofStep]
    intro h
    rw [if_neg (by omega)] at h ⊢
    by_cases e2 : b.fm.cof.2.2 = 0
    · rw [if_neg (by simpa using e2), if_neg (by omega), if_neg (by omega)] at h ⊢
      obtain ⟨g1, g2⟩ := h2 e2
      simp only [has] at g1 ⊢
      cases hb : b.ct with
      | none =>
        rw [hb] at g1
        rw [if_pos (by simpa using g1)]
        simp only [ct, hb]
        exact ⟨rfl, fun s hs => by cases hs⟩
      | some y =>
        rw [hb] at g1
        rw [if_neg (by simp at g1; simp [g1]), if_pos trivial] at h ⊢
        by_cases e1 : a.fm.cof.2.2 = 0
        · obtain ⟨k1, k2⟩ := h1 e1
          simp only [has] at k1
          cases ha : a.ct with
          | none =>
            rw [ha] at k1
            rw [if_pos (.inr (by simpa using k1))]
            simp only [ct, ha, hb]
            exact ⟨rfl, fun s hs => by cases hs; exact g2 y hb⟩
          | some x =>
            rw [ha] at k1
            have k1' : ¬ (a.fm.cof.2.2 ≠ 0 ∨ a.fm.cof.2.1 = false) := by simp at k1; simp [e1, k1]
            rw [if_neg k1'] at h ⊢
            obtain ⟨j1, j2⟩ := join_zero h
            simp only [ct, ha, hb]
            refine ⟨j2, fun s hs => ?_⟩
            cases hs
            rw [j1, k2 x ha, g2 y hb]
            try rfl
        · rw [if_pos (.inl e1)] at h
          exact absurd h e1
    · rw [if_pos e2] at h
      exact absurd h e2
  | q k s x h1 =>
    intro h
    rw [fm, Fm.q, Fm.cof_mk] at h ⊢
    simp only [List.map_cons, List.map_nil, List.headD_cons, List.getLastD_cons, List.getLastD_nil] at h ⊢
    simp only [ofStep] at h ⊢
    rw [if_neg (by cases k <;> decide)] at h ⊢
    by_cases e1 : x.fm.cof.2.2 = 0
    · rw [if_neg (by simpa using e1), if_neg (by cases k <;> decide)] at h ⊢
      obtain ⟨g1, g2⟩ := h1 e1
      simp only [has] at g1 ⊢
      cases hx : x.ct with
      | none =>
        rw [hx] at g1
        have g1' : x.fm.cof.2.1 = false := by simpa using g1
        cases k with
        | all => simp [Qk.n, g1', ct, hx]
        | ex => simp [Qk.n, g1', ct, hx]
        | allU => simp [Qk.n, g1', ct, hx]
        | exU => simp [Qk.n, g1', ct, hx]
      | some y =>
        rw [hx] at g1
        have g1' : x.fm.cof.2.1 = true := by simpa using g1
        have gy := g2 y hx
        cases k with
        | all =>
          simp [Qk.n, g1'] at h ⊢
          obtain ⟨j1, j2⟩ := join_zero h
          simp only [ct, hx]
          exact ⟨j2, fun t ht => by cases ht; rw [j1, gy]; try rfl⟩
        | ex =>
          simp [Qk.n, g1'] at h ⊢
          obtain ⟨j1, j2⟩ := join_zero h
          simp only [ct, hx]
          exact ⟨j2, fun t ht => by cases ht; rw [j1, gy]; try rfl⟩
        | allU => simp [Qk.n, g1', ct, hx, gy]
        | exU => simp [Qk.n, g1', ct, hx, gy]
    · rw [if_pos e1] at h
      exact absurd h e1
theorem ctype_ct {f : F} (h : (ctype f.fm).2 = 0) {s : V.Ty} (hs : f.ct = some s) : (ctype f.fm).1 = s := by
  unfold ctype at h ⊢
  by_cases h1 : f.fm.check = 0
  · rw [if_pos h1] at h ⊢
    by_cases h2 : f.fm.cof.2.2 = 0
    · rw [if_pos h2] at h ⊢
      obtain ⟨g1, g2⟩ := cof_ct f h2
      have : f.fm.cof.2.1 = true := by rw [g1, has, hs]; try rfl
      rw [if_pos this]
      exact g2 s hs
    · rw [if_neg h2] at h; exact absurd h h2
  · rw [if_neg h1] at h; exact absurd h h1
theorem bld_zero {k : Int} {s : V.Ty} {l : List Fm} (h : (bld k s l).2 = 0) : (bld k s l).1 = .mk k s [] l := by
  unfold bld at h ⊢
  split at h
  · cases h
  · rename_i hc; rw [if_neg hc]
theorem pair2_zero {k : Int} {x y : Fm × Int} (h : (pair2 k x y).2 = 0) : x.2 = 0 ∧ y.2 = 0 ∧ (pair2 k x y).1 = .two k x.1 y.1 := by
  unfold pair2 at h ⊢
  split at h
  · rename_i hx; exact absurd h hx
  · split at h
    · rename_i hy; exact absurd h hy
    · rename_i hx hy
      rw [if_neg hx, if_neg hy]
      exact ⟨by simpa using hx, by simpa using hy, bld_zero h⟩
theorem one1_zero {k : Int} {s : V.Ty} {x : Fm × Int} (h : (one1 k s x).2 = 0) : x.2 = 0 ∧ (one1 k s x).1 = .q k s x.1 := by
  unfold one1 at h ⊢
  split at h
  · rename_i hx; exact absurd h hx
  · rename_i hx
    rw [if_neg hx]
    exact ⟨by simpa using hx, bld_zero h⟩
theorem real_rl (f : F) : ∀ (n : Nat) (σ : Nat → T) (t : T), (real n (f.sub σ).fm t.tm).2 = 0 → (real n (f.sub σ).fm t.tm).1 = (f.rl σ t).fm := by
  induction f with
  | eq u v =>
    intro n σ t h
    cases n with
    | zero => simp [real] at h
    | succ n =>
      rw [real] at h ⊢
      split at h
      · simp at h
      · rename_i hc
        rw [if_neg hc]
        simp [sub, fm, Fm.eq, rl]
  | and a b h1 h2 =>
    intro n σ t h
    cases n with
    | zero => simp [real] at h
    | succ n =>
      have k0 : (F.and a b |>.sub σ).fm = .mk 2 .zero [] [(a.sub σ).fm, (b.sub σ).fm] := rfl
      rw [k0] at h ⊢
      rw [real] at h ⊢
      split at h
      · simp at h
      · rename_i hc
        rw [if_neg hc]
        simp only [Fm.kind_mk, if_true, Fm.kid, Fm.kids, List.getD_cons_zero, List.getD_cons_succ, fm_has, has_sub] at h ⊢
        simp only [rl]
        split at h
        · rename_i hh
          rw [if_pos hh, if_pos hh]
          obtain ⟨p1, p2, p3⟩ := pair2_zero h
          rw [p3, show Tm.node 11 [t.tm] = (T.fst t).tm from rfl, show Tm.node 12 [t.tm] = (T.snd t).tm from rfl] at *
          rw [h1 n σ _ p1, h2 n σ _ p2]
          try rfl
        · rename_i hh
          rw [if_neg hh, if_neg hh]
          obtain ⟨p1, p2, p3⟩ := pair2_zero h
          rw [p3, h1 n σ _ p1, h2 n σ _ p2]
          try rfl
  | imp a b h1 h2 =>
    intro n σ t h
    cases n with
    | zero => simp [real] at h
    | succ n =>
      have k0 : (F.imp a b |>.sub σ).fm = .mk 3 .zero [] [(a.sub σ).fm, (b.sub σ).fm] := rfl
      rw [k0] at h ⊢
      rw [real] at h ⊢
      split at h
      · simp at h
      · rename_i hc
        rw [if_neg hc]
        simp only [Fm.kind_mk, Fm.kid, Fm.kids, List.getD_cons_zero, List.getD_cons_succ, fm_has, has_sub] at h ⊢
        rw [if_neg (by omega), if_pos trivial] at h ⊢
        simp only [rl]
        cases ha : a.ct with
        | none =>
          have e : a.has = false := by simp [has, ha]
          rw [e, if_pos rfl] at h ⊢
          obtain ⟨p1, p2, p3⟩ := pair2_zero h
          rw [p3, h1 n σ _ p1, h2 n σ _ p2]
          try rfl
        | some s =>
          have e : ¬ a.has = false := by simp [has, ha]
          rw [if_neg e] at h ⊢
          split at h
          · rename_i hct; exact absurd h hct
          · rename_i hct
            rw [if_neg hct]
            have hcs := ctype_ct (f := a.sub σ) (by simpa using hct) (s := s) (by rw [ct_sub]; exact ha)
            have sh : ∀ g : F, (g.sub σ).fm.up 0 1 = (g.sub fun i => (σ i).ren Nat.succ).fm := by
              intro g
              rw [fm_up1, sub_sub]
              congr 2
              funext i
              rw [T.ren_eq_sub]
            rw [sh, sh, undT_tm, show Tm.var 0 = (T.var 0).tm from rfl] at *
            obtain ⟨p1, p2⟩ := one1_zero h
            obtain ⟨q1, q2, q3⟩ := pair2_zero p1
            rw [p2, q3, hcs, h1 n _ _ q1, h2 n _ _ q2]
            try rfl
  | q k s x h1 =>
    intro n σ t h
    cases n with
    | zero => simp [real] at h
    | succ n =>
      have k0 : (F.q k s x |>.sub σ).fm = .mk k.n s [] [(x.sub (T.ups σ)).fm] := rfl
      rw [k0] at h ⊢
      rw [real] at h ⊢
      split at h
      · simp at h
      · rename_i hc
        rw [if_neg hc]
        simp only [Fm.kind_mk, Fm.kid, Fm.kids, Fm.ty, List.getD_cons_zero, fm_has, has_sub] at h ⊢
        rw [if_neg (by cases k <;> decide), if_neg (by cases k <;> decide)] at h ⊢
        have put0 : ∀ w : T, ((x.sub (T.ups σ)).fm.put 0 0 w.tm) = (x.sub (T.scons w σ)).fm := by
          intro w
          rw [fm_put0, sub_sub]
          congr 2
          funext i
          cases i with
          | zero => rfl
          | succ i => simp only [T.ups, T.ren_sub, T.scons]; exact T.sub_var _
        cases k with
        | all =>
          simp only [Qk.n] at h ⊢
          simp at h ⊢
          rw [undT_tm] at h ⊢
          obtain ⟨p1, p2⟩ := one1_zero h
          rw [p2, h1 n _ _ p1]
          try rfl
        | allU =>
          simp only [Qk.n] at h ⊢
          simp at h ⊢
          rw [undT_tm] at h ⊢
          obtain ⟨p1, p2⟩ := one1_zero h
          rw [p2, h1 n _ _ p1]
          try rfl
        | exU =>
          simp only [Qk.n] at h ⊢
          simp at h ⊢
          rw [undT_tm] at h ⊢
          obtain ⟨p1, p2⟩ := one1_zero h
          rw [p2, h1 n _ _ p1]
          try rfl
        | ex =>
          simp only [Qk.n] at h ⊢
          rw [if_neg (by decide), if_pos trivial] at h ⊢
          simp only [rl]
          rw [show Tm.node 11 [t.tm] = (T.fst t).tm from rfl, show Tm.node 12 [t.tm] = (T.snd t).tm from rfl, put0, put0] at *
          split at h
          · rename_i hh
            rw [if_pos hh, if_pos hh]
            split at h
            · simp at h
            · rename_i hg
              rw [if_neg hg]
              exact h1 n _ _ h
          · rename_i hh
            rw [if_neg hh, if_neg hh]
            split at h
            · simp at h
            · rename_i hg
              rw [if_neg hg]
              exact h1 n _ _ h
end F
theorem ctype_errs {f : Fm} (h : f.ok = true) : (ctype f).2 = 0 ∨ (ctype f).2 = 4 := by
  unfold ctype
  split
  · have ha := Fm.agrees f h
    cases hh : f.has with
    | false =>
      have := ha.1 hh
      rw [this]
      simp
    | true =>
      rcases ha.2 hh with ⟨t, _, e, _⟩ | ⟨e, _⟩
      · rw [e]; simp
      · rw [e]; simp
  · unfold Fm.check
    rw [if_pos h]
    split
    · exact .inl rfl
    · exact .inr rfl
theorem bld_err {k : Int} {s : Ty} {l : List Fm} : (bld k s l).2 = 0 ∨ (bld k s l).2 = 4 := by
  unfold bld
  split
  · exact .inr rfl
  · exact .inl rfl
theorem pair2_err {k : Int} {x y : Fm × Int} (hx : x.2 = 0 ∨ x.2 = 4) (hy : y.2 = 0 ∨ y.2 = 4) : (pair2 k x y).2 = 0 ∨ (pair2 k x y).2 = 4 := by
  unfold pair2
  split
  · exact hx
  · split
    · exact hy
    · exact bld_err
theorem one1_err {k : Int} {s : Ty} {x : Fm × Int} (hx : x.2 = 0 ∨ x.2 = 4) : (one1 k s x).2 = 0 ∨ (one1 k s x).2 = 4 := by
  unfold one1
  split
  · exact hx
  · exact bld_err
theorem real_err (n : Nat) : ∀ (f : Fm) (t : Tm), f.ok = true → t.ok = true → (real n f t).2 = 0 ∨ (real n f t).2 = 4 := by
  have nok : ∀ {k : Int} {t : Tm}, k = 11 ∨ k = 12 → t.ok = true → (Tm.node k [t]).ok = true := by
    intro k t hk h
    rcases hk with rfl | rfl <;> (simp [Tm.node, h]; rfl)
  have uok : ∀ {h : Bool} {t : Tm}, t.ok = true → (undT h t).ok = true := by
    intro h t ht
    unfold undT callT
    split
    · exact Tm.app_ok (Tm.up_ok t 0 1 (by omega) ht) (Tm.var_ok (by omega))
    · exact Tm.up_ok t 0 1 (by omega) ht
  induction n with
  | zero => intro f t _ _; exact .inr rfl
  | succ n ih =>
    rintro ⟨k, s, m, l⟩ t hf ht
    rw [real]
    split
    · exact .inr rfl
    rcases Fm.shape hf with ⟨rfl, rfl⟩ | ⟨hk, y, x, rfl, hy, hx⟩ | ⟨hk, hs, x, rfl, hx⟩
    · left; simp
    · simp only [Fm.kind_mk, Fm.kid, Fm.kids, List.getD_cons_zero, List.getD_cons_succ]
      rcases hk with rfl | rfl
      · rw [if_pos rfl]
        split
        · exact pair2_err (ih _ _ hy (nok (.inl rfl) ht)) (ih _ _ hx (nok (.inr rfl) ht))
        · exact pair2_err (ih _ _ hy ht) (ih _ _ hx ht)
      · rw [if_neg (by omega), if_pos rfl]
        split
        · exact pair2_err (ih _ _ hy ht) (ih _ _ hx ht)
        · split
          · exact ctype_errs hy
          · exact one1_err (pair2_err (ih _ _ (Fm.up_ok y 0 1 (by omega) hy) (Tm.var_ok (by omega))) (ih _ _ (Fm.up_ok x 0 1 (by omega) hx) (uok ht)))
    · simp only [Fm.kind_mk, Fm.kid, Fm.kids, List.getD_cons_zero]
      rw [if_neg (by omega), if_neg (by omega)]
      split
      · exact one1_err (ih _ _ hx (uok ht))
      · split
        · split
          · split
            · exact .inr rfl
            · exact ih _ _ (Fm.put_ok x (nok (.inl rfl) ht) 0 0 (by omega) (by omega) hx) (nok (.inr rfl) ht)
          · split
            · exact .inr rfl
            · exact ih _ _ (Fm.put_ok x ht 0 0 (by omega) (by omega) hx) ht
        · exact .inl rfl
end Go.Proofs.YtnpgbkldpdogjaaGreatDoor.V

namespace Go.Proofs.YtnpgbkldpdogjaaGreatDoor.V
open Go
namespace F
theorem Typ.wf {f : F} : ∀ {G : List Ty}, Typ G f → (∀ x ∈ G, x.check = 0) → f.wf = true := by
  induction f with
  | eq u v => exact fun h hg => by simp only [F.wf, (h.1.good hg).1, (h.2.good hg).1]; rfl
  | and a b h1 h2 => exact fun h hg => by simp only [F.wf, h1 h.1 hg, h2 h.2 hg]; rfl
  | imp a b h1 h2 => exact fun h hg => by simp only [F.wf, h1 h.1 hg, h2 h.2 hg]; rfl
  | q k s x h1 => exact fun h hg => by simp [F.wf, h.1, h1 h.2 fun x hx => (List.mem_cons.1 hx).elim (fun e => by rw [e]; exact h.1) (hg x)]
theorem Typ.typ (f : F) : ∀ {g : List Ty}, Typ g.reverse f → f.wf = true → f.fm.count ≤ 4096 → f.fm.typ g = 0 := by
  induction f with
  | eq u v =>
    intro g h hw hc
    simp only [F.wf, Bool.and_eq_true] at hw
    simp [fm, Fm.eq] at hc
    exact eq_typ (made_typed ⟨u, rfl, h.1⟩ (Tm.check_small (by rw [T.tm_ok]; exact hw.1) (by omega))) (made_typed ⟨v, rfl, h.2⟩ (Tm.check_small (by rw [T.tm_ok]; exact hw.2) (by omega)))
  | and a b h1 h2 =>
    intro g h hw hc
    simp only [F.wf, Bool.and_eq_true] at hw
    simp [fm, Fm.two] at hc
    exact two_typ (.inl rfl) (h1 h.1 hw.1 (by omega)) (h2 h.2 hw.2 (by omega))
  | imp a b h1 h2 =>
    intro g h hw hc
    simp only [F.wf, Bool.and_eq_true] at hw
    simp [fm, Fm.two] at hc
    exact two_typ (.inr rfl) (h1 h.1 hw.1 (by omega)) (h2 h.2 hw.2 (by omega))
  | q k s x h1 =>
    intro g h hw hc
    simp only [F.wf, Bool.and_eq_true] at hw
    simp [fm, Fm.q] at hc
    have hx : Typ (g ++ [s]).reverse x := by rw [List.reverse_append]; exact h.2
    exact q_typ (by cases k <;> simp [Qk.n]) (h1 hx hw.2 (by omega))
def cb : Nat → Nat
  | 0 => 0
  | d + 1 => 2 * cb d + (if d = 0 then 3 else 1)
theorem cb_le {d : Nat} (h : d ≤ 4) : cb d ≤ 31 := by
  have : ∀ d, d ≤ 4 → cb d ≤ 31 := by decide
  exact this d h
def Cts (B : Nat) (f : F) : Prop := ∀ s, f.ct = some s → s.ok = true ∧ s.size ≤ B
theorem cts_and {B : Nat} {a b : F} (ha : Cts B a) (hb : Cts B b) : Cts (2 * B + 1) (and a b) := by
  intro s hs
  simp only [ct] at hs
  cases h1 : a.ct with
  | none =>
    rw [h1] at hs
    have := hb s hs
    exact ⟨this.1, by omega⟩
  | some x =>
    cases h2 : b.ct with
    | none =>
      rw [h1, h2] at hs
      cases hs
      have := ha _ h1
      exact ⟨this.1, by omega⟩
    | some y =>
      rw [h1, h2] at hs
      cases hs
      have p := ha _ h1
      have q := hb _ h2
      exact ⟨Ty.pair_ok p.1 q.1, by rw [Ty.pair_size]; omega⟩
theorem cts_imp {B : Nat} {a b : F} (ha : Cts B a) (hb : Cts B b) : Cts (2 * B + 1) (imp a b) := by
  intro s hs
  simp only [ct] at hs
  cases h2 : b.ct with
  | none => rw [h2] at hs; cases hs
  | some y =>
    cases h1 : a.ct with
    | none =>
      rw [h1, h2] at hs
      cases hs
      have := hb _ h2
      exact ⟨this.1, by omega⟩
    | some x =>
      rw [h1, h2] at hs
      cases hs
      have p := ha _ h1
      have q := hb _ h2
      exact ⟨Ty.fn_ok p.1 q.1, by rw [Ty.fn_size]; omega⟩
theorem cts_q {B : Nat} {k : Qk} {s : Ty} {x : F} (hB : B = 0 ∨ 3 ≤ B) (hs : s.ok = true ∧ s.size ≤ 3) (hx : Cts B x) : Cts (2 * B + (if B = 0 then 3 else 1)) (q k s x) := by
  intro t ht
  have hpos : ∀ y, x.ct = some y → 3 ≤ B := fun y hy => by
    have := (hx y hy).2
    have := y.size_pos
    omega
  have hb3 : (if B = 0 then 3 else 1) + 2 * B ≥ 3 := by split <;> omega
  have hb1 : (if B = 0 then 3 else 1) ≥ 1 := by split <;> omega
  cases hc : x.ct with
  | none =>
    cases k with
    | all => simp [ct, hc] at ht
    | ex => simp only [ct, hc] at ht; cases ht; exact ⟨hs.1, by omega⟩
    | allU => simp only [ct, hc] at ht; cases ht
    | exU => simp only [ct, hc] at ht; cases ht
  | some y =>
    have p := hx y hc
    have := hpos y hc
    cases k with
    | all =>
      simp only [ct, hc, Option.map_some] at ht
      cases ht
      exact ⟨Ty.fn_ok hs.1 p.1, by rw [Ty.fn_size]; omega⟩
    | ex =>
      simp only [ct, hc] at ht
      cases ht
      exact ⟨Ty.pair_ok hs.1 p.1, by rw [Ty.pair_size]; omega⟩
    | allU => simp only [ct, hc] at ht; cases ht; exact ⟨p.1, by omega⟩
    | exU => simp only [ct, hc] at ht; cases ht; exact ⟨p.1, by omega⟩
theorem cts_eq {B : Nat} (u v : T) : Cts B (eq u v) := fun s hs => by cases hs
theorem Cts.mono {B B' : Nat} {f : F} (h : Cts B f) (hB : B ≤ B') : Cts B' f := fun s hs => ⟨(h s hs).1, Nat.le_trans (h s hs).2 hB⟩
theorem cb_ge (d : Nat) : d = 0 ∨ 3 ≤ cb d := by
  induction d with
  | zero => exact .inl rfl
  | succ d ih =>
    right
    simp only [cb]
    split
    · omega
    · rcases ih with h | h
      · omega
      · omega
structure IsMade (B : Nat) (g : List Ty) (f : Fm) (x : F) : Prop where
  fm : x.fm = f
  typ : Typ g.reverse x
  cts : Cts B x
  fits : x.fits
theorem made_eq {B : Nat} {g : List Ty} (r : List Int) (hg : Good 3 g) : ∃ x, IsMade B g (.eq (mkTerm 1 g .nat r).1 (mkTerm 1 g .nat (mkTerm 1 g .nat r).2).1) x := by
  have hn : Ty.nat.ok = true ∧ Ty.nat.size ≤ 3 := ⟨Ty.nat_ok, by simp⟩
  obtain ⟨u, h1, h2⟩ := T.mkTerm_made (m := 3) (by omega) 1 g .nat r hg hn
  obtain ⟨v, h3, h4⟩ := T.mkTerm_made (m := 3) (by omega) 1 g .nat (mkTerm 1 g .nat r).2 hg hn
  exact ⟨eq u v, by rw [F.fm, h1, h3], ⟨h2, h4⟩, cts_eq u v, trivial⟩
theorem mkFormula_F (d : Nat) : d ≤ 4 → ∀ (g : List Ty) (r : List Int), Good 3 g → ∃ x, IsMade (cb d) g (mkFormula d g r).1 x := by
  induction d with
  | zero => exact fun _ g r hg => by rw [mkFormula]; exact made_eq r hg
  | succ d ih =>
    intro hd g r hg
    have ihd := ih (by omega)
    have hcb := cb_ge d
    have hcs : cb (d + 1) = 2 * cb d + (if d = 0 then 3 else 1) := rfl
    have h31 := cb_le (d := d) (by omega)
    have t0 : ∀ r, (mkType 0 r).1.ok = true ∧ (mkType 0 r).1.size ≤ 3 := fun r => ⟨(mkType0 r).1, by have := (mkType0 r).2; omega⟩
    have two : ∀ (a b : F) (fa fb : Fm), IsMade (cb d) g fa a → IsMade (cb d) g fb b → IsMade (cb (d + 1)) g (.two 2 fa fb) (and a b) ∧ IsMade (cb (d + 1)) g (.two 3 fa fb) (imp a b) := by
      intro a b fa fb ha hb
      have hle : 2 * cb d + 1 ≤ cb (d + 1) := by rw [hcs]; split <;> omega
      exact ⟨⟨by rw [F.fm, ha.fm, hb.fm], ⟨ha.typ, hb.typ⟩, (cts_and ha.cts hb.cts).mono hle, ⟨ha.fits, hb.fits⟩⟩, ⟨by rw [F.fm, ha.fm, hb.fm], ⟨ha.typ, hb.typ⟩, (cts_imp ha.cts hb.cts).mono hle, ⟨ha.fits, hb.fits, fun s hs => Ty.check_iff.2 ⟨(ha.cts s hs).1, by have := (ha.cts s hs).2; omega⟩⟩⟩⟩
    have qs : ∀ (k : Qk) (s : Ty) (x : F) (fx : Fm), s.ok = true ∧ s.size ≤ 3 → IsMade (cb d) (g ++ [s]) fx x → IsMade (cb (d + 1)) g (.q k.n s fx) (q k s x) := by
      intro k s x fx hs hx
      have ht := hx.typ
      rw [List.reverse_append] at ht
      refine ⟨by rw [F.fm, hx.fm], ⟨Ty.check_iff.2 ⟨hs.1, by have := hs.2; omega⟩, ht⟩, ?_, hx.fits⟩
      have := cts_q (k := k) (B := cb d) (by rcases hcb with h | h; left; rw [h]; try rfl; exact .inr h) hs hx.cts
      refine this.mono ?_
      rw [hcs]
      rcases hcb with h | h
      · subst h; simp [cb]
      · split <;> split <;> omega
    have hc := next_range (n := 9) (by omega) r
    rw [mkFormula]
    simp only
    split
    · obtain ⟨a, ha⟩ := ihd g (next 9 r).2 hg
      obtain ⟨b, hb⟩ := ihd g (mkFormula d g (next 9 r).2).2 hg
      exact ⟨_, (two a b _ _ ha hb).1⟩
    split
    · obtain ⟨a, ha⟩ := ihd g (next 9 r).2 hg
      obtain ⟨b, hb⟩ := ihd g (mkFormula d g (next 9 r).2).2 hg
      exact ⟨_, (two a b _ _ ha hb).2⟩
    split
    · obtain ⟨x, hx⟩ := ihd (g ++ [(mkType 1 (next 9 r).2).1]) (mkType 1 (next 9 r).2).2 (hg.app (Good.one (mkType1 _)))
      exact ⟨_, qs .all _ x _ (mkType1 _) hx⟩
    split
    · obtain ⟨x, hx⟩ := ihd (g ++ [(mkType 1 (next 9 r).2).1]) (mkType 1 (next 9 r).2).2 (hg.app (Good.one (mkType1 _)))
      exact ⟨_, qs .ex _ x _ (mkType1 _) hx⟩
    split
    · have h2 := next_range (n := 2) (by omega) (mkType 0 (next 9 r).2).2
      obtain ⟨x, hx⟩ := ihd (g ++ [(mkType 0 (next 9 r).2).1]) (next 2 (mkType 0 (next 9 r).2).2).2 (hg.app (Good.one (t0 _)))
      have h01 : (next 2 (mkType 0 (next 9 r).2).2).1 = 0 ∨ (next 2 (mkType 0 (next 9 r).2).2).1 = 1 := by omega
      rcases h01 with h | h
      · rw [h]; exact ⟨_, qs .allU _ x _ (t0 _) hx⟩
      · rw [h]; exact ⟨_, qs .exU _ x _ (t0 _) hx⟩
    · exact made_eq _ hg
theorem realF_zero (f : F) (t : T) (h : (realF f.fm t.tm).2 = 0) : (realF f.fm t.tm).1 = (f.rl T.var (if f.has = true then t else .unit)).fm := by
  unfold realF at h ⊢
  split at h
  · rename_i hc; exact absurd h hc
  split at h
  · rename_i hc; exact absurd h hc
  split at h
  · simp at h
  rename_i h1 h2 h3
  rw [if_neg h1, if_neg h2, if_neg h3]
  have e : (if f.fm.has = true then t.tm else Tm.node 13 []) = (if f.has = true then t else T.unit).tm := by
    rw [fm_has]
    split <;> rfl
  rw [e] at h ⊢
  have := real_rl f f.fm.conn T.var (if f.has = true then t else .unit)
  rw [sub_var] at this
  exact this h
theorem realF_err {f : Fm} {t : Tm} (h1 : f.check = 0) (h2 : t.check = 0) (h3 : f.least 268435456 = true) (h4 : t.least 268435456 = true) : (realF f t).2 = 0 ∨ (realF f t).2 = 4 := by
  unfold realF
  rw [if_neg (by simpa using h1), if_neg (by simpa using h2), if_neg (by simp [h3, h4])]
  have ho := Fm.check_ok h1
  split
  · exact real_err _ _ _ ho (Tm.check_ok h2).1
  · exact real_err _ _ _ ho rfl
theorem rl_made {B : Nat} {g : List Ty} (hg : ∀ x ∈ g, x.check = 0) {f : Fm} {x : F} (hx : IsMade B g f x) {t : T} (ht : ∀ s, x.ct = some s → T.HasTy g.reverse t s) {r : Fm} (hr : r = (x.rl T.var (if x.has = true then t else .unit)).fm) (hc : r.count ≤ 4096) :
    r.ok = true ∧ r.check = 0 ∧ r.has = false ∧ r.typ g = 0 := by
  have hfit : Fits g.reverse x (if x.has = true then t else .unit) := by
    cases hh : x.ct with
    | none =>
      have e : x.has = false := by simp [has, hh]
      rw [e]
      exact ⟨⟨.unit, .unit⟩, fun s hs => by rw [hh] at hs; cases hs⟩
    | some s =>
      have e : x.has = true := by simp [has, hh]
      rw [e, if_pos rfl]
      exact ⟨⟨s, ht s hh⟩, fun s' hs => by rw [hh] at hs; cases hs; exact ht s hh⟩
  have htyp := rl_ty x hx.typ hx.fits (fun i y hy => T.HasTy.var hy) hfit
  have hg' : ∀ y ∈ g.reverse, y.check = 0 := fun y hy => hg y (List.mem_reverse.1 hy)
  have hw := htyp.wf hg'
  have hok : r.ok = true := by rw [hr, fm_ok]; exact hw
  refine ⟨hok, Fm.check_small hok hc, ?_, ?_⟩
  · rw [hr, fm_has, has, rl_bare]; try rfl
  · rw [hr] at hc ⊢
    exact htyp.typ _ hw hc
end F
end Go.Proofs.YtnpgbkldpdogjaaGreatDoor.V
